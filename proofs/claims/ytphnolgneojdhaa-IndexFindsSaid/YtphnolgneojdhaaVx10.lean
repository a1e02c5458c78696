-- printed by a program of this session (a changed copy of the kit's printer; squeeze.py)
import Derived.Test.YtphnolgneojdhaaVx0
import Derived.Test.YtphnolgneojdhaaVx1
import Derived.Test.YtphnolgneojdhaaVx9
namespace Go.Proofs.Ytphnolgneojdhaa.V
open Go.RowKit Go.Proofs.YtphnolgneojdhaaW.PrintWords Go.Proofs.YtphnolgneojdhaaW.PrintLast Go.Proofs.YtphnolgneojdhaaW.PrintMore
attribute [local go_sem] max2_int min2_int max_two min_two max_three min_three max_four min_four   -- for this text's walks alone
set_option linter.unusedVariables false
set_option linter.unusedSimpArgs false
/-! ### record_Get: function 40 -/
def record_Get.j0 : Nat → Bool → List Int → Int → Int → Int → Int → ByteArray → ByteArray → Bool → Option (Int × Int × ByteArray × ByteArray × Bool × Int × Int)
  | 0, _, _, _, _, _, _, _, _, _ => none
  | k + 1, x36, x371000, x371001, x371002, x375000, x375001, x375002, x375003, x375004 => if x36 = true then (some (0, 0, (⟨#[]⟩ : ByteArray), (⟨#[]⟩ : ByteArray), false, 0, 2)) else (if x371002 = 0 then (some (x375000, x375001, x375002, x375003, x375004, x371001, 0)) else (some (0, 0, (⟨#[]⟩ : ByteArray), (⟨#[]⟩ : ByteArray), false, 0, x371002)))
def record_Get.f (k : Nat) (l0 : List Int) : Option (Int × Int × ByteArray × ByteArray × Bool × Int × Int) := (record_reader_number.f k l0 0 0 1125899906842624).bind fun bt371 => ((record_reader_number.f k l0 bt371.2.1 bt371.2.2 2199023255552).bind fun bt375 => ((varint_Unfold.f bt375.1).bind fun t378 => ((record_reader_sign.f l0 bt375.2.1 bt375.2.2).bind fun bt379 => ((record_reader_text.f k l0 bt379.2.1 bt379.2.2 200).bind fun bt382 => ((record_reader_text.f k l0 bt382.2.1 bt382.2.2 2000).bind fun bt385 => (if bt385.2.2 = 0 then ((record_Right.f (wrap64 (bt371.1)) t378 bt382.1 bt385.1 bt379.1).bind fun t388 => (record_Get.j0 k (!t388) l0 bt385.2.1 bt385.2.2 (wrap64 (bt371.1)) t378 bt382.1 bt385.1 bt379.1)) else (record_Get.j0 k false l0 bt385.2.1 bt385.2.2 (wrap64 (bt371.1)) t378 bt382.1 bt385.1 bt379.1)))))))
theorem record_Get.mono_l : ∀ k, (∀ y0 y1 y2 y3 y4 y5 y6 y7 y8, LeO (record_Get.j0 k y0 y1 y2 y3 y4 y5 y6 y7 y8) (record_Get.j0 (k + 1) y0 y1 y2 y3 y4 y5 y6 y7 y8))
  | 0 => fun _ _ _ _ _ _ _ _ _ r h => by simp [record_Get.j0] at h
  | k + 1 => by
    have ih0 := record_Get.mono_l k
    · intro y0 y1 y2 y3 y4 y5 y6 y7 y8
      unfold record_Get.j0
      repeat' first
      | (with_reducible exact LeO.refl _)
      | (with_reducible exact LeO.none _)
      | (with_reducible refine LeO.ite ?_ ?_)
      | (with_reducible refine LeO.bind ?_ (fun _ => ?_))
      | exact ih0 _ _ _ _ _ _ _ _ _
      | exact record_reader_number.mono _ _ _ _ _
      | exact record_reader_text.mono _ _ _ _ _
      | exact LeO.none _
      | refine LeO.ite ?_ ?_
      | refine LeO.bind ?_ (fun _ => ?_)
theorem record_Get.mono : ∀ a0 k, LeO (record_Get.f k a0) (record_Get.f (k + 1) a0) := by
  intro a0 k
  have ih0 := record_Get.mono_l k
  unfold record_Get.f
  repeat' first
      | (with_reducible exact LeO.refl _)
      | (with_reducible exact LeO.none _)
      | (with_reducible refine LeO.ite ?_ ?_)
      | (with_reducible refine LeO.bind ?_ (fun _ => ?_))
      | exact ih0 _ _ _ _ _ _ _ _ _
      | exact record_reader_number.mono _ _ _ _ _
      | exact record_reader_text.mono _ _ _ _ _
      | exact LeO.none _
      | refine LeO.ite ?_ ?_
      | refine LeO.bind ?_ (fun _ => ?_)
def record_Get.T10 : Bool × List (List Nat × List Nat) := (true, [([], []), ([], []), ([1], [1]), ([2], [2]), ([3], [3]), ([0, 0], [0]), ([5, 0, 5], []), ([4, 6, 0, 1, 2, 3, 4, 5, 6], [4])])
def record_Get.B10 : List Nat := [0, 0, 2, 6, 14, 1, 33, 127]
theorem record_Get.tab10 : rtab .any (opsOf Try.f40 10) = record_Get.T10 := by kernel_rfl
theorem record_Get.bits10 : waitsOk record_Get.T10.2 record_Get.B10 = true := by kernel_rfl
def record_Get.T11 : Bool × List (List Nat × List Nat) := (true, [([], []), ([], []), ([1], [1]), ([2], [2]), ([3], [3]), ([0, 0], [0]), ([4, 5, 0, 1, 2, 3, 4, 5], [4]), ([6, 0, 1, 2, 3, 4, 5, 6], [])])
def record_Get.B11 : List Nat := [0, 0, 2, 6, 14, 1, 63, 127]
theorem record_Get.tab11 : rtab .any (opsOf Try.f40 11) = record_Get.T11 := by kernel_rfl
theorem record_Get.bits11 : waitsOk record_Get.T11.2 record_Get.B11 = true := by kernel_rfl
set_option maxHeartbeats 8000000 in
set_option maxRecDepth 100000 in
theorem record_Get.calls (k : Nat) (A0 : Option Addr) (c0 : Nat) (l0 : List Int) (r1 : Int) (r2 : Int) (r3 : ByteArray) (r4 : ByteArray) (r5 : Bool) (r6 : Int) (r7 : Int) (w : World) (hr0 : Kd.C (Kd.int .u8) w A0 l0.length l0) (hc0 : l0.length ≤ c0) (h : record_Get.f k l0 = some (r1, r2, r3, r4, r5, r6, r7)) :
    Calls Try.prog 40 #[.slice A0 l0.length c0] w fun e w' => e = .returned (.tuple #[.agg #[.int .i64 r1, .int .i64 r2, .string r3, .string r4, .bool r5], .int .i64 r6, .int .i64 r7]) ∧ Below w.heap.size w w' := by
  have hu34 := Try.underlying34
  have hu84 := Try.underlying84
  have HR0 := Aside0.mk hr0
  have HC0 := Aside0.mk hc0
  clear hr0 hc0
  have HB := Aside0.mk (Below.refl w.heap.size w)
  have H : ((record_reader_number.f k l0 0 0 1125899906842624).bind fun bt371 => ((record_reader_number.f k l0 bt371.2.1 bt371.2.2 2199023255552).bind fun bt375 => ((varint_Unfold.f bt375.1).bind fun t378 => ((record_reader_sign.f l0 bt375.2.1 bt375.2.2).bind fun bt379 => ((record_reader_text.f k l0 bt379.2.1 bt379.2.2 200).bind fun bt382 => ((record_reader_text.f k l0 bt382.2.1 bt382.2.2 2000).bind fun bt385 => (if bt385.2.2 = 0 then ((record_Right.f (wrap64 (bt371.1)) t378 bt382.1 bt385.1 bt379.1).bind fun t388 => (record_Get.j0 k (!t388) l0 bt385.2.1 bt385.2.2 (wrap64 (bt371.1)) t378 bt382.1 bt385.1 bt379.1)) else (record_Get.j0 k false l0 bt385.2.1 bt385.2.2 (wrap64 (bt371.1)) t378 bt382.1 bt385.1 bt379.1)))))))) = some (r1, r2, r3, r4, r5, r6, r7) := h
  clear h
  replace H := Option.bind_eq_some_iff.mp H
  obtain ⟨⟨t371, t372, t373⟩, A20, H⟩ := H
  replace H : ((record_reader_number.f k l0 t372 t373 2199023255552).bind fun bt375 => ((varint_Unfold.f bt375.1).bind fun t378 => ((record_reader_sign.f l0 bt375.2.1 bt375.2.2).bind fun bt379 => ((record_reader_text.f k l0 bt379.2.1 bt379.2.2 200).bind fun bt382 => ((record_reader_text.f k l0 bt382.2.1 bt382.2.2 2000).bind fun bt385 => (if bt385.2.2 = 0 then ((record_Right.f (wrap64 (t371)) t378 bt382.1 bt385.1 bt379.1).bind fun t388 => (record_Get.j0 k (!t388) l0 bt385.2.1 bt385.2.2 (wrap64 (t371)) t378 bt382.1 bt385.1 bt379.1)) else (record_Get.j0 k false l0 bt385.2.1 bt385.2.2 (wrap64 (t371)) t378 bt382.1 bt385.1 bt379.1))))))) = some (r1, r2, r3, r4, r5, r6, r7) := H
  have A2 := Aside0.mk A20
  clear A20
  replace H := Option.bind_eq_some_iff.mp H
  obtain ⟨⟨t375, t376, t377⟩, A30, H⟩ := H
  replace H : ((varint_Unfold.f t375).bind fun t378 => ((record_reader_sign.f l0 t376 t377).bind fun bt379 => ((record_reader_text.f k l0 bt379.2.1 bt379.2.2 200).bind fun bt382 => ((record_reader_text.f k l0 bt382.2.1 bt382.2.2 2000).bind fun bt385 => (if bt385.2.2 = 0 then ((record_Right.f (wrap64 (t371)) t378 bt382.1 bt385.1 bt379.1).bind fun t388 => (record_Get.j0 k (!t388) l0 bt385.2.1 bt385.2.2 (wrap64 (t371)) t378 bt382.1 bt385.1 bt379.1)) else (record_Get.j0 k false l0 bt385.2.1 bt385.2.2 (wrap64 (t371)) t378 bt382.1 bt385.1 bt379.1)))))) = some (r1, r2, r3, r4, r5, r6, r7) := H
  have A3 := Aside0.mk A30
  clear A30
  replace H := Option.bind_eq_some_iff.mp H
  obtain ⟨t378, A40, H⟩ := H
  replace H : ((record_reader_sign.f l0 t376 t377).bind fun bt379 => ((record_reader_text.f k l0 bt379.2.1 bt379.2.2 200).bind fun bt382 => ((record_reader_text.f k l0 bt382.2.1 bt382.2.2 2000).bind fun bt385 => (if bt385.2.2 = 0 then ((record_Right.f (wrap64 (t371)) t378 bt382.1 bt385.1 bt379.1).bind fun t388 => (record_Get.j0 k (!t388) l0 bt385.2.1 bt385.2.2 (wrap64 (t371)) t378 bt382.1 bt385.1 bt379.1)) else (record_Get.j0 k false l0 bt385.2.1 bt385.2.2 (wrap64 (t371)) t378 bt382.1 bt385.1 bt379.1))))) = some (r1, r2, r3, r4, r5, r6, r7) := H
  have A4 := Aside0.mk A40
  clear A40
  replace H := Option.bind_eq_some_iff.mp H
  obtain ⟨⟨t379, t380, t381⟩, A50, H⟩ := H
  replace H : ((record_reader_text.f k l0 t380 t381 200).bind fun bt382 => ((record_reader_text.f k l0 bt382.2.1 bt382.2.2 2000).bind fun bt385 => (if bt385.2.2 = 0 then ((record_Right.f (wrap64 (t371)) t378 bt382.1 bt385.1 t379).bind fun t388 => (record_Get.j0 k (!t388) l0 bt385.2.1 bt385.2.2 (wrap64 (t371)) t378 bt382.1 bt385.1 t379)) else (record_Get.j0 k false l0 bt385.2.1 bt385.2.2 (wrap64 (t371)) t378 bt382.1 bt385.1 t379)))) = some (r1, r2, r3, r4, r5, r6, r7) := H
  have A5 := Aside0.mk A50
  clear A50
  replace H := Option.bind_eq_some_iff.mp H
  obtain ⟨⟨t382, t383, t384⟩, A60, H⟩ := H
  replace H : ((record_reader_text.f k l0 t383 t384 2000).bind fun bt385 => (if bt385.2.2 = 0 then ((record_Right.f (wrap64 (t371)) t378 t382 bt385.1 t379).bind fun t388 => (record_Get.j0 k (!t388) l0 bt385.2.1 bt385.2.2 (wrap64 (t371)) t378 t382 bt385.1 t379)) else (record_Get.j0 k false l0 bt385.2.1 bt385.2.2 (wrap64 (t371)) t378 t382 bt385.1 t379))) = some (r1, r2, r3, r4, r5, r6, r7) := H
  have A6 := Aside0.mk A60
  clear A60
  replace H := Option.bind_eq_some_iff.mp H
  obtain ⟨⟨t385, t386, t387⟩, A70, H⟩ := H
  replace H : (if t387 = 0 then ((record_Right.f (wrap64 (t371)) t378 t382 t385 t379).bind fun t388 => (record_Get.j0 k (!t388) l0 t386 t387 (wrap64 (t371)) t378 t382 t385 t379)) else (record_Get.j0 k false l0 t386 t387 (wrap64 (t371)) t378 t382 t385 t379)) = some (r1, r2, r3, r4, r5, r6, r7) := H
  have A7 := Aside0.mk A70
  clear A70
  have HC8 := Aside0.mk H
  clear H
  go_enter Try.func40, Try.ntmps40
  go_upto_region 7 with (first | ((with_reducible refine gate_dst (N := 2) rfl ?_); refine box_event ?hg (N := 2) ?hd (cs := #[.int .i64 0, .int .i64 0, .string (⟨#[]⟩ : ByteArray), .string (⟨#[]⟩ : ByteArray), .bool false]) (t := 34) ?hr ?_; (case hd => rfl); (case hg => rfl); (case hr => first | (go_simp; done) | (go_simp; rfl)); intro gb369 hg w9 hbox hb; have n0_ := Aside0.mk (vT (by repeat (first | (with_reducible first | exact HB.out | apply vA | apply vN | apply vD) | exact HB.out)) hb); have n1_ := Aside0.mk (hbox); have n2_ := Aside0.mk ((by rw [hg]; exact (vZ (by repeat (first | (with_reducible first | exact HB.out | apply vA | apply vN | apply vD) | exact HB.out))) : w.heap.size ≤ gb369)); have n3_ := Aside0.mk ((by rw [hg]; exact (vZ (by repeat (first | (with_reducible first | exact HB.out | apply vA | apply vN | apply vD) | exact HB.out))) : w.heap.size ≤ gb369)); clear HB; have HB := n0_; have BK369 := n1_; have GW369 := n2_; have GE369 := n3_; clear n0_ n1_ n2_ n3_; clear hb hbox hg) | ((with_reducible refine gate_dst (N := 9) rfl ?_); refine box_event ?hg (N := 9) ?hd (cs := #[.slice A0 l0.length c0, .int .i64 0, .int .i64 0]) (t := 84) ?hr ?_; (case hd => rfl); (case hg => rfl); (case hr => first | (go_simp; done) | (go_simp; rfl)); intro gb370 hg w10 hbox hb; have n0_ := Aside0.mk (bB (g := gb369) (o := .cells #[.int .i64 0, .int .i64 0, .string (⟨#[]⟩ : ByteArray), .string (⟨#[]⟩ : ByteArray), .bool false] 34 (0, 0)) (by (with_reducible repeat (first | refine bN ?_ _ | refine bD ?_ | refine bA ?_ _)); exact BK369.out) hb); have n1_ := Aside0.mk (vT (by repeat (first | (with_reducible first | exact HB.out | apply vA | apply vN | apply vD | refine vS ?_ GE369.out) | exact HB.out)) hb); have n2_ := Aside0.mk (hbox); have n3_ := Aside0.mk ((by rw [hg]; exact (vZ (by repeat (first | (with_reducible first | exact HB.out | apply vA | apply vN | apply vD | refine vS ?_ GE369.out) | exact HB.out))) : w.heap.size ≤ gb370)); have n4_ := Aside0.mk ((by rw [hg]; exact (vZ (by repeat (first | (with_reducible first | exact HB.out | apply vA | apply vN | apply vD | refine vS ?_ GE369.out) | exact HB.out))) : w.heap.size ≤ gb370)); have n5_ := Aside0.mk ((by rw [hg]; exact Nat.ne_of_lt (blk_lt (g := gb369) (o := .cells #[.int .i64 0, .int .i64 0, .string (⟨#[]⟩ : ByteArray), .string (⟨#[]⟩ : ByteArray), .bool false] 34 (0, 0)) (by (with_reducible repeat (first | refine bN ?_ _ | refine bD ?_ | refine bA ?_ _)); exact BK369.out)) : gb369 ≠ gb370)); have n6_ := Aside0.mk ((by rw [hg]; exact Nat.ne_of_gt (blk_lt (g := gb369) (o := .cells #[.int .i64 0, .int .i64 0, .string (⟨#[]⟩ : ByteArray), .string (⟨#[]⟩ : ByteArray), .bool false] 34 (0, 0)) (by (with_reducible repeat (first | refine bN ?_ _ | refine bD ?_ | refine bA ?_ _)); exact BK369.out)) : gb370 ≠ gb369)); clear BK369; clear HB; have BK369 := n0_; have HB := n1_; have BK370 := n2_; have GW370 := n3_; have GE370 := n4_; have NB369_370 := n5_; have NB370_369 := n6_; clear n0_ n1_ n2_ n3_ n4_ n5_ n6_; clear hb hbox hg; have HI370 := Aside0.mk (show IsS84 w w10 gb370 l0 0 0 from ⟨_, _, BK370.out, GE370.out, ⟨HC0.out, HR0.out⟩⟩); clear BK370) | ((with_reducible refine gate_callee (f := 60) rfl ?_); refine goesL_ (some 11) rfl rfl Try.func60 (by kernel_rfl) rfl #[.pointer (some ⟨gb370, 0, none⟩), .int .u64 1125899906842624] rfl (by (try simp only [List.map_toArray, List.map_cons, List.map_nil]); first | done | rfl | (simp only [List.length_drop, List.length_take]; rfl)) ?_; (with_reducible refine (record_reader_number.calls k gb370 l0 0 0 1125899906842624 t371 t372 t373 w _ ?side1 ?side2 A2.out).mono ?_); (case side1 => repeat (first | (with_reducible first | exact HI370.out | apply IsS84.alloc | apply IsS84.drewN | apply IsS84.drew | apply IsS84.set_1 | apply IsS84.set_2 | refine IsS84.far ?_ NB370_369.out _) | exact HI370.out)); (case side2 => repeat (first | (with_reducible first | exact HB.out | apply vA | apply vN | apply vD | refine vS ?_ (IsS84.ge HI370.out) | refine vS ?_ GE369.out) | exact HB.out)); rintro e w11 ⟨rfl, hi, hb, hk⟩; refine ⟨_, rfl, ?_⟩; have n0_ := Aside0.mk (KeepBut.blk hk (g' := gb369) (o := .cells #[.int .i64 0, .int .i64 0, .string (⟨#[]⟩ : ByteArray), .string (⟨#[]⟩ : ByteArray), .bool false] 34 (0, 0)) (by (with_reducible repeat (first | refine bN ?_ _ | refine bD ?_ | refine bA ?_ _)); exact BK369.out) NB369_370.out (by simp)); have n1_ := Aside0.mk (hb); have n2_ := Aside0.mk (hi); clear BK369; clear HB; clear HI370; have BK369 := n0_; have HB := n1_; have HI370 := n2_; clear n0_ n1_ n2_; (try clear hb); (try clear hb2); (try clear hk); (try clear hi)) | ((with_reducible refine gate_dst (N := 6) rfl ?_); refine box_event ?hg (N := 6) ?hd (cs := #[.int .i64 0, .int .i64 0, .string (⟨#[]⟩ : ByteArray), .string (⟨#[]⟩ : ByteArray), .bool false]) (t := 34) ?hr ?_; (case hd => rfl); (case hg => rfl); (case hr => first | (go_simp; done) | (go_simp; rfl)); intro gb374 hg w12 hbox hb; have n0_ := Aside0.mk (bB (g := gb369) (o := .cells #[.int .i64 0, .int .i64 0, .string (⟨#[]⟩ : ByteArray), .string (⟨#[]⟩ : ByteArray), .bool false] 34 (0, 0)) (by (with_reducible repeat (first | refine bN ?_ _ | refine bD ?_ | refine bA ?_ _)); exact BK369.out) hb); have n1_ := Aside0.mk (IsS84.below (by repeat (first | (with_reducible first | exact HI370.out | apply IsS84.alloc | apply IsS84.drewN | apply IsS84.drew | apply IsS84.set_1 | apply IsS84.set_2 | refine IsS84.far ?_ NB370_369.out _) | exact HI370.out)) hb); have n2_ := Aside0.mk (vT (by repeat (first | (with_reducible first | exact HB.out | apply vA | apply vN | apply vD | refine vS ?_ (IsS84.ge HI370.out) | refine vS ?_ GE369.out) | exact HB.out)) hb); have n3_ := Aside0.mk (hbox); have n4_ := Aside0.mk ((by rw [hg]; exact (vZ (by repeat (first | (with_reducible first | exact HB.out | apply vA | apply vN | apply vD | refine vS ?_ (IsS84.ge HI370.out) | refine vS ?_ GE369.out) | exact HB.out))) : w.heap.size ≤ gb374)); have n5_ := Aside0.mk ((by rw [hg]; exact (vZ (by repeat (first | (with_reducible first | exact HB.out | apply vA | apply vN | apply vD | refine vS ?_ (IsS84.ge HI370.out) | refine vS ?_ GE369.out) | exact HB.out))) : w.heap.size ≤ gb374)); have n6_ := Aside0.mk ((by rw [hg]; exact Nat.ne_of_lt (blk_lt (g := gb369) (o := .cells #[.int .i64 0, .int .i64 0, .string (⟨#[]⟩ : ByteArray), .string (⟨#[]⟩ : ByteArray), .bool false] 34 (0, 0)) (by (with_reducible repeat (first | refine bN ?_ _ | refine bD ?_ | refine bA ?_ _)); exact BK369.out)) : gb369 ≠ gb374)); have n7_ := Aside0.mk ((by rw [hg]; exact Nat.ne_of_gt (blk_lt (g := gb369) (o := .cells #[.int .i64 0, .int .i64 0, .string (⟨#[]⟩ : ByteArray), .string (⟨#[]⟩ : ByteArray), .bool false] 34 (0, 0)) (by (with_reducible repeat (first | refine bN ?_ _ | refine bD ?_ | refine bA ?_ _)); exact BK369.out)) : gb374 ≠ gb369)); have n8_ := Aside0.mk ((by rw [hg]; exact Nat.ne_of_lt (IsS84.lt (show IsS84 w _ gb370 l0 t372 t373 from by repeat (first | (with_reducible first | exact HI370.out | apply IsS84.alloc | apply IsS84.drewN | apply IsS84.drew | apply IsS84.set_1 | apply IsS84.set_2 | refine IsS84.far ?_ NB370_369.out _) | exact HI370.out))) : gb370 ≠ gb374)); have n9_ := Aside0.mk ((by rw [hg]; exact Nat.ne_of_gt (IsS84.lt (show IsS84 w _ gb370 l0 t372 t373 from by repeat (first | (with_reducible first | exact HI370.out | apply IsS84.alloc | apply IsS84.drewN | apply IsS84.drew | apply IsS84.set_1 | apply IsS84.set_2 | refine IsS84.far ?_ NB370_369.out _) | exact HI370.out))) : gb374 ≠ gb370)); clear BK369; clear HI370; clear HB; have BK369 := n0_; have HI370 := n1_; have HB := n2_; have BK374 := n3_; have GW374 := n4_; have GE374 := n5_; have NB369_374 := n6_; have NB374_369 := n7_; have NB370_374 := n8_; have NB374_370 := n9_; clear n0_ n1_ n2_ n3_ n4_ n5_ n6_ n7_ n8_ n9_; clear hb hbox hg; have hnb13 := NB374_369.out; have hnc13 := NB369_374.out; have hnb14 := NB374_370.out; have hnc14 := NB370_374.out; have hcz15_0 : w12.cell? ⟨gb374, 0, none⟩ = some (.int .i64 0) := (bC BK374.out 0).trans rfl; have hcz15_1 : w12.cell? ⟨gb374, 1, none⟩ = some (.int .i64 0) := (bC BK374.out 1).trans rfl; have hcz15_2 : w12.cell? ⟨gb374, 2, none⟩ = some (.string (⟨#[]⟩ : ByteArray)) := (bC BK374.out 2).trans rfl; have hcz15_3 : w12.cell? ⟨gb374, 3, none⟩ = some (.string (⟨#[]⟩ : ByteArray)) := (bC BK374.out 3).trans rfl; have hcz15_4 : w12.cell? ⟨gb374, 4, none⟩ = some (.bool false) := (bC BK374.out 4).trans rfl; have hfz15_0 := bF BK374.out 0; have hfz15_1 := bF BK374.out 1; have hfz15_2 := bF BK374.out 2; have hfz15_3 := bF BK374.out 3; have hfz15_4 := bF BK374.out 4) | ((with_reducible refine gate_callee (f := 60) rfl ?_); refine goesL_ (some 15) rfl rfl Try.func60 (by kernel_rfl) rfl #[.pointer (some ⟨gb370, 0, none⟩), .int .u64 2199023255552] rfl (by (try simp only [List.map_toArray, List.map_cons, List.map_nil]); first | done | rfl | (simp only [List.length_drop, List.length_take]; rfl)) ?_; (with_reducible refine (record_reader_number.calls k gb370 l0 t372 t373 2199023255552 t375 t376 t377 w _ ?side1 ?side2 A3.out).mono ?_); (case side1 => repeat (first | (with_reducible first | exact HI370.out | apply IsS84.alloc | apply IsS84.drewN | apply IsS84.drew | apply IsS84.set_1 | apply IsS84.set_2 | refine IsS84.far ?_ NB370_369.out _ | refine IsS84.far ?_ NB370_374.out _) | exact HI370.out)); (case side2 => repeat (first | (with_reducible first | exact HB.out | apply vA | apply vN | apply vD | refine vS ?_ (IsS84.ge HI370.out) | refine vS ?_ GE369.out | refine vS ?_ GE374.out) | exact HB.out)); rintro e w16 ⟨rfl, hi, hb, hk⟩; refine ⟨_, rfl, ?_⟩; have n0_ := Aside0.mk (KeepBut.blk hk (g' := gb369) (o := .cells #[.int .i64 0, .int .i64 0, .string (⟨#[]⟩ : ByteArray), .string (⟨#[]⟩ : ByteArray), .bool false] 34 (0, 0)) (by (with_reducible repeat (first | refine bN ?_ _ | refine bD ?_ | refine bA ?_ _)); refine bR ?_ NB369_374.out _; (with_reducible repeat (first | refine bN ?_ _ | refine bD ?_ | refine bA ?_ _)); refine bR ?_ NB369_374.out _; (with_reducible repeat (first | refine bN ?_ _ | refine bD ?_ | refine bA ?_ _)); refine bR ?_ NB369_374.out _; (with_reducible repeat (first | refine bN ?_ _ | refine bD ?_ | refine bA ?_ _)); refine bR ?_ NB369_374.out _; (with_reducible repeat (first | refine bN ?_ _ | refine bD ?_ | refine bA ?_ _)); refine bR ?_ NB369_374.out _; (with_reducible repeat (first | refine bN ?_ _ | refine bD ?_ | refine bA ?_ _)); exact BK369.out) NB369_370.out (by simp)); have n1_ := Aside0.mk (KeepBut.blk hk (g' := gb374) (o := .cells #[.int .i64 (wrap64 (t371)), .int .i64 0, .string (⟨#[]⟩ : ByteArray), .string (⟨#[]⟩ : ByteArray), .bool false] 34 (0, 0)) (by (with_reducible repeat (first | refine bN ?_ _ | refine bD ?_ | refine bA ?_ _)); refine bP (cs := #[.int .i64 (wrap64 (t371)), .int .i64 0, .string (⟨#[]⟩ : ByteArray), .string (⟨#[]⟩ : ByteArray), .bool false]) ?_ 4 _ rfl; (with_reducible repeat (first | refine bN ?_ _ | refine bD ?_ | refine bA ?_ _)); refine bP (cs := #[.int .i64 (wrap64 (t371)), .int .i64 0, .string (⟨#[]⟩ : ByteArray), .string (⟨#[]⟩ : ByteArray), .bool false]) ?_ 3 _ rfl; (with_reducible repeat (first | refine bN ?_ _ | refine bD ?_ | refine bA ?_ _)); refine bP (cs := #[.int .i64 (wrap64 (t371)), .int .i64 0, .string (⟨#[]⟩ : ByteArray), .string (⟨#[]⟩ : ByteArray), .bool false]) ?_ 2 _ rfl; (with_reducible repeat (first | refine bN ?_ _ | refine bD ?_ | refine bA ?_ _)); refine bP (cs := #[.int .i64 (wrap64 (t371)), .int .i64 0, .string (⟨#[]⟩ : ByteArray), .string (⟨#[]⟩ : ByteArray), .bool false]) ?_ 1 _ rfl; (with_reducible repeat (first | refine bN ?_ _ | refine bD ?_ | refine bA ?_ _)); refine bP (cs := #[.int .i64 0, .int .i64 0, .string (⟨#[]⟩ : ByteArray), .string (⟨#[]⟩ : ByteArray), .bool false]) ?_ 0 _ rfl; (with_reducible repeat (first | refine bN ?_ _ | refine bD ?_ | refine bA ?_ _)); exact BK374.out) NB374_370.out (by simp)); have n2_ := Aside0.mk (hb); have n3_ := Aside0.mk (hi); clear BK369; clear BK374; clear HB; clear HI370; have BK369 := n0_; have BK374 := n1_; have HB := n2_; have HI370 := n3_; clear n0_ n1_ n2_ n3_; (try clear hb); (try clear hb2); (try clear hk); (try clear hi)) | ((with_reducible refine gate_callee (f := 61) rfl ?_); refine goesL_ (some 16) rfl rfl Try.func61 (by kernel_rfl) rfl #[.int .u64 t375] rfl (by (try simp only [List.map_toArray, List.map_cons, List.map_nil]); first | done | rfl | (simp only [List.length_drop, List.length_take]; rfl)) ?_; (with_reducible refine (varint_Unfold.calls t375 t378 _ A4.out).mono ?_); rintro e w' ⟨rfl, ⟨nd, rfl⟩⟩; refine ⟨_, rfl, ?_⟩; (try (rw [drewN_self w16]; generalize hq_ : World.drewN w16 _ = w16; have n0_ : Aside0 (w16.heap[gb369]? = some (.cells #[.int .i64 0, .int .i64 0, .string (⟨#[]⟩ : ByteArray), .string (⟨#[]⟩ : ByteArray), .bool false] 34 (0, 0))) := ⟨by rw [← hq_]; exact (by (with_reducible repeat (first | refine bN ?_ _ | refine bD ?_ | refine bA ?_ _)); exact BK369.out)⟩; have n1_ : Aside0 (w16.heap[gb374]? = some (.cells #[.int .i64 (wrap64 (t371)), .int .i64 0, .string (⟨#[]⟩ : ByteArray), .string (⟨#[]⟩ : ByteArray), .bool false] 34 (0, 0))) := ⟨by rw [← hq_]; exact (by (with_reducible repeat (first | refine bN ?_ _ | refine bD ?_ | refine bA ?_ _)); exact BK374.out)⟩; have n2_ : Aside0 (IsS84 w w16 gb370 l0 t376 t377) := ⟨by rw [← hq_]; exact (by repeat (first | (with_reducible first | exact HI370.out | apply IsS84.alloc | apply IsS84.drewN | apply IsS84.drew | apply IsS84.set_1 | apply IsS84.set_2 | refine IsS84.far ?_ NB370_369.out _ | refine IsS84.far ?_ NB370_374.out _) | exact HI370.out))⟩; have n3_ : Aside0 (Below w.heap.size w w16) := ⟨by rw [← hq_]; exact (by repeat (first | (with_reducible first | exact HB.out | apply vA | apply vN | apply vD | refine vS ?_ (IsS84.ge HI370.out) | refine vS ?_ GE369.out | refine vS ?_ GE374.out) | exact HB.out))⟩; clear BK369 BK374 HI370 HB hq_; have BK369 := n0_; have BK374 := n1_; have HI370 := n2_; have HB := n3_; clear n0_ n1_ n2_ n3_)); have hcz17_0 : w16.cell? ⟨gb374, 0, none⟩ = some (.int .i64 (wrap64 (t371))) := (bC BK374.out 0).trans rfl; have hcz17_1 : w16.cell? ⟨gb374, 1, none⟩ = some (.int .i64 0) := (bC BK374.out 1).trans rfl; have hcz17_2 : w16.cell? ⟨gb374, 2, none⟩ = some (.string (⟨#[]⟩ : ByteArray)) := (bC BK374.out 2).trans rfl; have hcz17_3 : w16.cell? ⟨gb374, 3, none⟩ = some (.string (⟨#[]⟩ : ByteArray)) := (bC BK374.out 3).trans rfl; have hcz17_4 : w16.cell? ⟨gb374, 4, none⟩ = some (.bool false) := (bC BK374.out 4).trans rfl; have hfz17_0 := bF BK374.out 0; have hfz17_1 := bF BK374.out 1; have hfz17_2 := bF BK374.out 2; have hfz17_3 := bF BK374.out 3; have hfz17_4 := bF BK374.out 4) | ((with_reducible refine gate_callee (f := 62) rfl ?_); refine goesL_ (some 19) rfl rfl Try.func62 (by kernel_rfl) rfl #[.pointer (some ⟨gb370, 0, none⟩)] rfl (by (try simp only [List.map_toArray, List.map_cons, List.map_nil]); first | done | rfl | (simp only [List.length_drop, List.length_take]; rfl)) ?_; (with_reducible refine (record_reader_sign.calls gb370 l0 t376 t377 t379 t380 t381 w _ ?side1 ?side2 A5.out).mono ?_); (case side1 => repeat (first | (with_reducible first | exact HI370.out | apply IsS84.alloc | apply IsS84.drewN | apply IsS84.drew | apply IsS84.set_1 | apply IsS84.set_2 | refine IsS84.far ?_ NB370_369.out _ | refine IsS84.far ?_ NB370_374.out _) | exact HI370.out)); (case side2 => repeat (first | (with_reducible first | exact HB.out | apply vA | apply vN | apply vD | refine vS ?_ (IsS84.ge HI370.out) | refine vS ?_ GE369.out | refine vS ?_ GE374.out) | exact HB.out)); rintro e w18 ⟨rfl, hi, hb, hk⟩; refine ⟨_, rfl, ?_⟩; have n0_ := Aside0.mk (KeepBut.blk hk (g' := gb369) (o := .cells #[.int .i64 0, .int .i64 0, .string (⟨#[]⟩ : ByteArray), .string (⟨#[]⟩ : ByteArray), .bool false] 34 (0, 0)) (by (with_reducible repeat (first | refine bN ?_ _ | refine bD ?_ | refine bA ?_ _)); refine bR ?_ NB369_374.out _; (with_reducible repeat (first | refine bN ?_ _ | refine bD ?_ | refine bA ?_ _)); exact BK369.out) NB369_370.out (by simp)); have n1_ := Aside0.mk (KeepBut.blk hk (g' := gb374) (o := .cells #[.int .i64 (wrap64 (t371)), .int .i64 t378, .string (⟨#[]⟩ : ByteArray), .string (⟨#[]⟩ : ByteArray), .bool false] 34 (0, 0)) (by (with_reducible repeat (first | refine bN ?_ _ | refine bD ?_ | refine bA ?_ _)); refine bP (cs := #[.int .i64 (wrap64 (t371)), .int .i64 0, .string (⟨#[]⟩ : ByteArray), .string (⟨#[]⟩ : ByteArray), .bool false]) ?_ 1 _ rfl; (with_reducible repeat (first | refine bN ?_ _ | refine bD ?_ | refine bA ?_ _)); exact BK374.out) NB374_370.out (by simp)); have n2_ := Aside0.mk (hb); have n3_ := Aside0.mk (hi); clear BK369; clear BK374; clear HB; clear HI370; have BK369 := n0_; have BK374 := n1_; have HB := n2_; have HI370 := n3_; clear n0_ n1_ n2_ n3_; (try clear hb); (try clear hb2); (try clear hk); (try clear hi); have hcz19_0 : w18.cell? ⟨gb374, 0, none⟩ = some (.int .i64 (wrap64 (t371))) := (bC BK374.out 0).trans rfl; have hcz19_1 : w18.cell? ⟨gb374, 1, none⟩ = some (.int .i64 t378) := (bC BK374.out 1).trans rfl; have hcz19_2 : w18.cell? ⟨gb374, 2, none⟩ = some (.string (⟨#[]⟩ : ByteArray)) := (bC BK374.out 2).trans rfl; have hcz19_3 : w18.cell? ⟨gb374, 3, none⟩ = some (.string (⟨#[]⟩ : ByteArray)) := (bC BK374.out 3).trans rfl; have hcz19_4 : w18.cell? ⟨gb374, 4, none⟩ = some (.bool false) := (bC BK374.out 4).trans rfl; have hfz19_0 := bF BK374.out 0; have hfz19_1 := bF BK374.out 1; have hfz19_2 := bF BK374.out 2; have hfz19_3 := bF BK374.out 3; have hfz19_4 := bF BK374.out 4) | ((with_reducible refine gate_callee (f := 63) rfl ?_); refine goesL_ (some 22) rfl rfl Try.func63 (by kernel_rfl) rfl #[.pointer (some ⟨gb370, 0, none⟩), .int .u64 200] rfl (by (try simp only [List.map_toArray, List.map_cons, List.map_nil]); first | done | rfl | (simp only [List.length_drop, List.length_take]; rfl)) ?_; (with_reducible refine (record_reader_text.calls k gb370 l0 t380 t381 200 t382 t383 t384 w _ ?side1 ?side2 A6.out).mono ?_); (case side1 => repeat (first | (with_reducible first | exact HI370.out | apply IsS84.alloc | apply IsS84.drewN | apply IsS84.drew | apply IsS84.set_1 | apply IsS84.set_2 | refine IsS84.far ?_ NB370_369.out _ | refine IsS84.far ?_ NB370_374.out _) | exact HI370.out)); (case side2 => repeat (first | (with_reducible first | exact HB.out | apply vA | apply vN | apply vD | refine vS ?_ (IsS84.ge HI370.out) | refine vS ?_ GE369.out | refine vS ?_ GE374.out) | exact HB.out)); rintro e w20 ⟨rfl, hi, hb, hk⟩; refine ⟨_, rfl, ?_⟩; have n0_ := Aside0.mk (KeepBut.blk hk (g' := gb369) (o := .cells #[.int .i64 0, .int .i64 0, .string (⟨#[]⟩ : ByteArray), .string (⟨#[]⟩ : ByteArray), .bool false] 34 (0, 0)) (by (with_reducible repeat (first | refine bN ?_ _ | refine bD ?_ | refine bA ?_ _)); refine bR ?_ NB369_374.out _; (with_reducible repeat (first | refine bN ?_ _ | refine bD ?_ | refine bA ?_ _)); exact BK369.out) NB369_370.out (by simp)); have n1_ := Aside0.mk (KeepBut.blk hk (g' := gb374) (o := .cells #[.int .i64 (wrap64 (t371)), .int .i64 t378, .string (⟨#[]⟩ : ByteArray), .string (⟨#[]⟩ : ByteArray), .bool t379] 34 (0, 0)) (by (with_reducible repeat (first | refine bN ?_ _ | refine bD ?_ | refine bA ?_ _)); refine bP (cs := #[.int .i64 (wrap64 (t371)), .int .i64 t378, .string (⟨#[]⟩ : ByteArray), .string (⟨#[]⟩ : ByteArray), .bool false]) ?_ 4 _ rfl; (with_reducible repeat (first | refine bN ?_ _ | refine bD ?_ | refine bA ?_ _)); exact BK374.out) NB374_370.out (by simp)); have n2_ := Aside0.mk (hb); have n3_ := Aside0.mk (hi); clear BK369; clear BK374; clear HB; clear HI370; have BK369 := n0_; have BK374 := n1_; have HB := n2_; have HI370 := n3_; clear n0_ n1_ n2_ n3_; (try clear hb); (try clear hb2); (try clear hk); (try clear hi); have hcz21_0 : w20.cell? ⟨gb374, 0, none⟩ = some (.int .i64 (wrap64 (t371))) := (bC BK374.out 0).trans rfl; have hcz21_1 : w20.cell? ⟨gb374, 1, none⟩ = some (.int .i64 t378) := (bC BK374.out 1).trans rfl; have hcz21_2 : w20.cell? ⟨gb374, 2, none⟩ = some (.string (⟨#[]⟩ : ByteArray)) := (bC BK374.out 2).trans rfl; have hcz21_3 : w20.cell? ⟨gb374, 3, none⟩ = some (.string (⟨#[]⟩ : ByteArray)) := (bC BK374.out 3).trans rfl; have hcz21_4 : w20.cell? ⟨gb374, 4, none⟩ = some (.bool t379) := (bC BK374.out 4).trans rfl; have hfz21_0 := bF BK374.out 0; have hfz21_1 := bF BK374.out 1; have hfz21_2 := bF BK374.out 2; have hfz21_3 := bF BK374.out 3; have hfz21_4 := bF BK374.out 4) | ((with_reducible refine gate_callee (f := 63) rfl ?_); refine goesL_ (some 25) rfl rfl Try.func63 (by kernel_rfl) rfl #[.pointer (some ⟨gb370, 0, none⟩), .int .u64 2000] rfl (by (try simp only [List.map_toArray, List.map_cons, List.map_nil]); first | done | rfl | (simp only [List.length_drop, List.length_take]; rfl)) ?_; (with_reducible refine (record_reader_text.calls k gb370 l0 t383 t384 2000 t385 t386 t387 w _ ?side1 ?side2 A7.out).mono ?_); (case side1 => repeat (first | (with_reducible first | exact HI370.out | apply IsS84.alloc | apply IsS84.drewN | apply IsS84.drew | apply IsS84.set_1 | apply IsS84.set_2 | refine IsS84.far ?_ NB370_369.out _ | refine IsS84.far ?_ NB370_374.out _) | exact HI370.out)); (case side2 => repeat (first | (with_reducible first | exact HB.out | apply vA | apply vN | apply vD | refine vS ?_ (IsS84.ge HI370.out) | refine vS ?_ GE369.out | refine vS ?_ GE374.out) | exact HB.out)); rintro e w22 ⟨rfl, hi, hb, hk⟩; refine ⟨_, rfl, ?_⟩; have n0_ := Aside0.mk (KeepBut.blk hk (g' := gb369) (o := .cells #[.int .i64 0, .int .i64 0, .string (⟨#[]⟩ : ByteArray), .string (⟨#[]⟩ : ByteArray), .bool false] 34 (0, 0)) (by (with_reducible repeat (first | refine bN ?_ _ | refine bD ?_ | refine bA ?_ _)); refine bR ?_ NB369_374.out _; (with_reducible repeat (first | refine bN ?_ _ | refine bD ?_ | refine bA ?_ _)); exact BK369.out) NB369_370.out (by simp)); have n1_ := Aside0.mk (KeepBut.blk hk (g' := gb374) (o := .cells #[.int .i64 (wrap64 (t371)), .int .i64 t378, .string t382, .string (⟨#[]⟩ : ByteArray), .bool t379] 34 (0, 0)) (by (with_reducible repeat (first | refine bN ?_ _ | refine bD ?_ | refine bA ?_ _)); refine bP (cs := #[.int .i64 (wrap64 (t371)), .int .i64 t378, .string (⟨#[]⟩ : ByteArray), .string (⟨#[]⟩ : ByteArray), .bool t379]) ?_ 2 _ rfl; (with_reducible repeat (first | refine bN ?_ _ | refine bD ?_ | refine bA ?_ _)); exact BK374.out) NB374_370.out (by simp)); have n2_ := Aside0.mk (hb); have n3_ := Aside0.mk (hi); clear BK369; clear BK374; clear HB; clear HI370; have BK369 := n0_; have BK374 := n1_; have HB := n2_; have HI370 := n3_; clear n0_ n1_ n2_ n3_; (try clear hb); (try clear hb2); (try clear hk); (try clear hi); have hcz23_0 : w22.cell? ⟨gb374, 0, none⟩ = some (.int .i64 (wrap64 (t371))) := (bC BK374.out 0).trans rfl; have hcz23_1 : w22.cell? ⟨gb374, 1, none⟩ = some (.int .i64 t378) := (bC BK374.out 1).trans rfl; have hcz23_2 : w22.cell? ⟨gb374, 2, none⟩ = some (.string t382) := (bC BK374.out 2).trans rfl; have hcz23_3 : w22.cell? ⟨gb374, 3, none⟩ = some (.string (⟨#[]⟩ : ByteArray)) := (bC BK374.out 3).trans rfl; have hcz23_4 : w22.cell? ⟨gb374, 4, none⟩ = some (.bool t379) := (bC BK374.out 4).trans rfl; have hfz23_0 := bF BK374.out 0; have hfz23_1 := bF BK374.out 1; have hfz23_2 := bF BK374.out 2; have hfz23_3 := bF BK374.out 3; have hfz23_4 := bF BK374.out 4))
  (try simp only [Act.put, List.setIfInBounds_toArray, List.set_cons_zero, List.set_cons_succ])
  go_cut [36] (fun v36 wc => ∃ (kq : Nat) (x36_7 : Bool), v36 = .bool x36_7 ∧ Aside0 (record_Get.j0 kq x36_7 l0 t386 t387 (wrap64 (t371)) t378 t382 t385 t379 = some (r1, r2, r3, r4, r5, r6, r7)) ∧ Aside0 (kq ≤ k) ∧ Aside0 (wc.heap[gb369]? = some (.cells #[.int .i64 0, .int .i64 0, .string (⟨#[]⟩ : ByteArray), .string (⟨#[]⟩ : ByteArray), .bool false] 34 (0, 0))) ∧ Aside0 (wc.heap[gb374]? = some (.cells #[.int .i64 (wrap64 (t371)), .int .i64 t378, .string t382, .string t385, .bool t379] 34 (0, 0))) ∧ Aside0 (IsS84 w wc gb370 l0 t386 t387) ∧ Aside0 (Below w.heap.size w wc))
  case first =>
    have H := HC8.out
    clear HC8
    by_cases c24 : t387 = 0
    · rw [if_pos c24] at H
      have c24b0 : (t387 == 0) = true := beq_iff_eq.mpr c24
      have c24b1 : (t387 != 0) = false := bne_eq_false_iff_eq.mpr c24
      clear c24
      (first | rw [c24b0] | (simp only [i64_w, i32_w]; rw [c24b0]) | skip)
      replace H := Option.bind_eq_some_iff.mp H
      obtain ⟨t388, A250, H⟩ := H
      replace H : (record_Get.j0 k (!t388) l0 t386 t387 (wrap64 (t371)) t378 t382 t385 t379) = some (r1, r2, r3, r4, r5, r6, r7) := H
      have A25 := Aside0.mk A250
      clear A250
      have H' := Aside0.mk H
      clear H
      obtain ⟨ASz26_0, cSz26_0, HGz26, hgz26, HSz26_0⟩ := HI370.out
      have hcz26_0 := cellS84_0 HGz26
      have hcz26_1 := cellS84_1 HGz26
      have hcz26_2 := cellS84_2 HGz26
      have hfz26_1 := bF HGz26 1
      have hfz26_2 := bF HGz26 2
      clear HGz26 hgz26
      have hnb27 := NB374_369.out
      have hnc27 := NB369_374.out
      have hnb28 := NB374_370.out
      have hnc28 := NB370_374.out
      have hcz29_0 : w22.cell? ⟨gb374, 0, none⟩ = some (.int .i64 (wrap64 (t371))) := (bC BK374.out 0).trans rfl
      have hcz29_1 : w22.cell? ⟨gb374, 1, none⟩ = some (.int .i64 t378) := (bC BK374.out 1).trans rfl
      have hcz29_2 : w22.cell? ⟨gb374, 2, none⟩ = some (.string t382) := (bC BK374.out 2).trans rfl
      have hcz29_3 : w22.cell? ⟨gb374, 3, none⟩ = some (.string (⟨#[]⟩ : ByteArray)) := (bC BK374.out 3).trans rfl
      have hcz29_4 : w22.cell? ⟨gb374, 4, none⟩ = some (.bool t379) := (bC BK374.out 4).trans rfl
      have hfz29_0 := bF BK374.out 0
      have hfz29_1 := bF BK374.out 1
      have hfz29_2 := bF BK374.out 2
      have hfz29_3 := bF BK374.out 3
      have hfz29_4 := bF BK374.out 4
      go_wp2_with (first | (go_at_call 36; (with_reducible refine (record_Right.calls (wrap64 (t371)) t378 t382 t385 t379 t388 _ A25.out).mono ?_); rintro e w30 ⟨rfl, hb⟩; have n0_ := Aside0.mk (bB (g := gb369) (o := .cells #[.int .i64 0, .int .i64 0, .string (⟨#[]⟩ : ByteArray), .string (⟨#[]⟩ : ByteArray), .bool false] 34 (0, 0)) (by (with_reducible repeat (first | refine bN ?_ _ | refine bD ?_ | refine bA ?_ _)); refine bR ?_ NB369_374.out _; (with_reducible repeat (first | refine bN ?_ _ | refine bD ?_ | refine bA ?_ _)); exact BK369.out) hb); have n1_ := Aside0.mk (IsS84.below (show IsS84 w (w22.setCell ⟨gb374, 3, none⟩ (.string t385)) gb370 l0 t386 t387 from by repeat (first | (with_reducible first | exact HI370.out | apply IsS84.alloc | apply IsS84.drewN | apply IsS84.drew | apply IsS84.set_1 | apply IsS84.set_2 | refine IsS84.far ?_ NB370_369.out _ | refine IsS84.far ?_ NB370_374.out _) | exact HI370.out)) hb); have n2_ := Aside0.mk (bB (g := gb374) (o := .cells #[.int .i64 (wrap64 (t371)), .int .i64 t378, .string t382, .string t385, .bool t379] 34 (0, 0)) (by (with_reducible repeat (first | refine bN ?_ _ | refine bD ?_ | refine bA ?_ _)); refine bP (cs := #[.int .i64 (wrap64 (t371)), .int .i64 t378, .string t382, .string (⟨#[]⟩ : ByteArray), .bool t379]) ?_ 3 _ rfl; (with_reducible repeat (first | refine bN ?_ _ | refine bD ?_ | refine bA ?_ _)); exact BK374.out) hb); have n3_ := Aside0.mk (vT (by repeat (first | (with_reducible first | exact HB.out | apply vA | apply vN | apply vD | refine vS ?_ (IsS84.ge HI370.out) | refine vS ?_ GE369.out | refine vS ?_ GE374.out) | exact HB.out)) hb); clear BK369; clear HI370; clear BK374; clear HB; have BK369 := n0_; have HI370 := n1_; have BK374 := n2_; have HB := n3_; clear n0_ n1_ n2_ n3_; (try clear hb); (try clear hb2); (try clear hk); (try clear hi)))
      go_meet
      case rel => exact ⟨_, (!t388), (by first | rfl | (simp; done) | (simp [*]; done)), H', ⟨by first | omega | exact Nat.le_refl _⟩, ⟨by (with_reducible repeat (first | refine bN ?_ _ | refine bD ?_ | refine bA ?_ _)); exact BK369.out⟩, ⟨by (with_reducible repeat (first | refine bN ?_ _ | refine bD ?_ | refine bA ?_ _)); exact BK374.out⟩, ⟨by repeat (first | (with_reducible first | exact HI370.out | apply IsS84.alloc | apply IsS84.drewN | apply IsS84.drew | apply IsS84.set_1 | apply IsS84.set_2 | refine IsS84.far ?_ NB370_369.out _ | refine IsS84.far ?_ NB370_374.out _) | exact HI370.out)⟩, ⟨by repeat (first | (with_reducible first | exact HB.out | apply vA | apply vN | apply vD | refine vS ?_ (IsS84.ge HI370.out) | refine vS ?_ GE369.out | refine vS ?_ GE374.out) | exact HB.out)⟩⟩
    · rw [if_neg c24] at H
      have c24b0 : (t387 == 0) = false := beq_eq_false_iff_ne.mpr c24
      have c24b1 : (t387 != 0) = true := bne_iff_ne.mpr c24
      (first | rw [c24b0] | (simp only [i64_w, i32_w]; rw [c24b0]) | skip)
      have H' := Aside0.mk H
      clear H
      obtain ⟨ASz31_0, cSz31_0, HGz31, hgz31, HSz31_0⟩ := HI370.out
      have hcz31_0 := cellS84_0 HGz31
      have hcz31_1 := cellS84_1 HGz31
      have hcz31_2 := cellS84_2 HGz31
      have hfz31_1 := bF HGz31 1
      have hfz31_2 := bF HGz31 2
      clear HGz31 hgz31
      go_wp2
      go_meet
      case rel => exact ⟨_, (false), (by first | rfl | (simp; done) | (simp [*]; done)), H', ⟨by first | omega | exact Nat.le_refl _⟩, ⟨by (with_reducible repeat (first | refine bN ?_ _ | refine bD ?_ | refine bA ?_ _)); refine bR ?_ NB369_374.out _; (with_reducible repeat (first | refine bN ?_ _ | refine bD ?_ | refine bA ?_ _)); exact BK369.out⟩, ⟨by (with_reducible repeat (first | refine bN ?_ _ | refine bD ?_ | refine bA ?_ _)); refine bP (cs := #[.int .i64 (wrap64 (t371)), .int .i64 t378, .string t382, .string (⟨#[]⟩ : ByteArray), .bool t379]) ?_ 3 _ rfl; (with_reducible repeat (first | refine bN ?_ _ | refine bD ?_ | refine bA ?_ _)); exact BK374.out⟩, ⟨by repeat (first | (with_reducible first | exact HI370.out | apply IsS84.alloc | apply IsS84.drewN | apply IsS84.drew | apply IsS84.set_1 | apply IsS84.set_2 | refine IsS84.far ?_ NB370_369.out _ | refine IsS84.far ?_ NB370_374.out _) | exact HI370.out)⟩, ⟨by repeat (first | (with_reducible first | exact HB.out | apply vA | apply vN | apply vD | refine vS ?_ (IsS84.ge HI370.out) | refine vS ?_ GE369.out | refine vS ?_ GE374.out) | exact HB.out)⟩⟩
  case rest =>
    clear HC8
    try clear c1
    try clear c2
    try clear p2
    try clear c4
    try clear c6
    try clear p6
    try clear c13
    try clear c14
    try clear c24
    try clear c24b0
    try clear c24b1
    try clear c27
    try clear c28
    try clear hcz15_0
    try clear hcz15_1
    try clear hcz15_2
    try clear hcz15_3
    try clear hcz15_4
    try clear hcz17_0
    try clear hcz17_1
    try clear hcz17_2
    try clear hcz17_3
    try clear hcz17_4
    try clear hcz19_0
    try clear hcz19_1
    try clear hcz19_2
    try clear hcz19_3
    try clear hcz19_4
    try clear hcz21_0
    try clear hcz21_1
    try clear hcz21_2
    try clear hcz21_3
    try clear hcz21_4
    try clear hcz23_0
    try clear hcz23_1
    try clear hcz23_2
    try clear hcz23_3
    try clear hcz23_4
    try clear hcz26_0
    try clear hcz26_1
    try clear hcz26_2
    try clear hcz29_0
    try clear hcz29_1
    try clear hcz29_2
    try clear hcz29_3
    try clear hcz29_4
    try clear hcz31_0
    try clear hcz31_1
    try clear hcz31_2
    try clear hfz15_0
    try clear hfz15_1
    try clear hfz15_2
    try clear hfz15_3
    try clear hfz15_4
    try clear hfz17_0
    try clear hfz17_1
    try clear hfz17_2
    try clear hfz17_3
    try clear hfz17_4
    try clear hfz19_0
    try clear hfz19_1
    try clear hfz19_2
    try clear hfz19_3
    try clear hfz19_4
    try clear hfz21_0
    try clear hfz21_1
    try clear hfz21_2
    try clear hfz21_3
    try clear hfz21_4
    try clear hfz23_0
    try clear hfz23_1
    try clear hfz23_2
    try clear hfz23_3
    try clear hfz23_4
    try clear hfz26_1
    try clear hfz26_2
    try clear hfz29_0
    try clear hfz29_1
    try clear hfz29_2
    try clear hfz29_3
    try clear hfz29_4
    try clear hfz31_1
    try clear hfz31_2
    obtain ⟨kq, x36_7, rfl, HA, HJ7, BK369, BK374, HI370, HB⟩ := hcut
    cases kq with
    | zero => exact absurd HA.out (by simp [record_Get.j0])
    | succ kj7 =>
      have H := HA.out
      clear HA
      simp only [record_Get.j0] at H
      by_cases c32 : x36_7 = true
      · subst c32
        have H1 : (some (0, 0, (⟨#[]⟩ : ByteArray), (⟨#[]⟩ : ByteArray), false, 0, 2)) = some (r1, r2, r3, r4, r5, r6, r7) := by rw [if_pos rfl] at H; exact H
        clear H
        have H := H1
        clear H1
        simp only [Option.some.injEq, Prod.mk.injEq] at H
        obtain ⟨rfl, rfl, rfl, rfl, rfl, rfl, rfl⟩ := H
        obtain ⟨ASz33_0, cSz33_0, HGz33, hgz33, HSz33_0⟩ := HI370.out
        have hcz33_0 := cellS84_0 HGz33
        have hcz33_1 := cellS84_1 HGz33
        have hcz33_2 := cellS84_2 HGz33
        have hfz33_1 := bF HGz33 1
        have hfz33_2 := bF HGz33 2
        clear HGz33 hgz33
        try go_wp2
        have n0_ : Aside0 ((wc.setCell ⟨gb370, 2, none⟩ (.int .i64 2)).heap[gb369]? = some (.cells #[.int .i64 0, .int .i64 0, .string (⟨#[]⟩ : ByteArray), .string (⟨#[]⟩ : ByteArray), .bool false] 34 (0, 0))) := ⟨by (with_reducible repeat (first | refine bN ?_ _ | refine bD ?_ | refine bA ?_ _)); refine bR ?_ NB369_370.out _; (with_reducible repeat (first | refine bN ?_ _ | refine bD ?_ | refine bA ?_ _)); exact BK369.out⟩
        have n1_ : Aside0 ((wc.setCell ⟨gb370, 2, none⟩ (.int .i64 2)).heap[gb374]? = some (.cells #[.int .i64 (wrap64 (t371)), .int .i64 t378, .string t382, .string t385, .bool t379] 34 (0, 0))) := ⟨by (with_reducible repeat (first | refine bN ?_ _ | refine bD ?_ | refine bA ?_ _)); refine bR ?_ NB374_370.out _; (with_reducible repeat (first | refine bN ?_ _ | refine bD ?_ | refine bA ?_ _)); exact BK374.out⟩
        have n2_ : Aside0 (IsS84 w (wc.setCell ⟨gb370, 2, none⟩ (.int .i64 2)) gb370 l0 t386 2) := ⟨by repeat (first | (with_reducible first | exact HI370.out | apply IsS84.alloc | apply IsS84.drewN | apply IsS84.drew | apply IsS84.set_1 | apply IsS84.set_2 | refine IsS84.far ?_ NB370_369.out _ | refine IsS84.far ?_ NB370_374.out _) | exact HI370.out)⟩
        have n3_ : Aside0 (Below w.heap.size w (wc.setCell ⟨gb370, 2, none⟩ (.int .i64 2))) := ⟨by repeat (first | (with_reducible first | exact HB.out | apply vA | apply vN | apply vD | refine vS ?_ (IsS84.ge HI370.out) | refine vS ?_ GE369.out | refine vS ?_ GE374.out) | exact HB.out)⟩
        (try clear BK369)
        (try clear BK374)
        (try clear HI370)
        (try clear HB)
        generalize (wc.setCell ⟨gb370, 2, none⟩ (.int .i64 2)) = w34 at n0_ n1_ n2_ n3_ ⊢
        have BK369 := n0_
        have BK374 := n1_
        have HI370 := n2_
        have HB := n3_
        clear n0_ n1_ n2_ n3_
        have n0_ := Aside0.mk (bD BK369.out)
        have n1_ := Aside0.mk (bD BK374.out)
        have n2_ := Aside0.mk (IsS84.drew HI370.out)
        have n3_ := Aside0.mk (vD HB.out)
        clear BK369
        clear BK374
        clear HI370
        clear HB
        have BK369 := n0_
        have BK374 := n1_
        have HI370 := n2_
        have HB := n3_
        clear n0_ n1_ n2_ n3_
        refine start_ (n := 8) (S := fun w' => w'.cell? ⟨gb370, 1, none⟩ = some (.int .i64 t386) ∧ w'.cell? ⟨gb370, 2, none⟩ = some (.int .i64 2)) (ds := []) #[false, false, false, false, false, false, false, false] (by kernel_rfl) rfl rfl ⟨(IsS84.cell_1 HI370.out), (IsS84.cell_2 HI370.out)⟩ (fun hHeld => ?_); refine with_tabW record_Get.tab10 record_Get.bits10 (fun HT_ HW_ => ?_)
        generalize w34.drew = w35 at BK369 BK374 HI370 HB hHeld ⊢
        refine pure_ (i := 0) (N := some 45) (v := ?_) (a' := ?_) #[true, false, false, false, false, false, false, false] rfl rfl (any_of HT_.out (by kernel_rfl)) (fun _ _ _ h => h) (Or.inl ⟨by rfl, ?_⟩) ?_ ?_
        rotate_left
        · intro w'
          go_simp
          with_reducible rfl
        rotate_left
        · simp only [Act.put, List.setIfInBounds_toArray, List.set_cons_zero, List.set_cons_succ, i64_w, i32_w]
          rfl
        refine pure_ (i := 1) (N := some 46) (v := ?_) (a' := ?_) #[true, true, false, false, false, false, false, false] rfl rfl (any_of HT_.out (by kernel_rfl)) (fun _ _ _ h => h) (Or.inl ⟨by rfl, ?_⟩) ?_ ?_
        rotate_left
        · intro w'
          go_simp
          with_reducible rfl
        rotate_left
        · simp only [Act.put, List.setIfInBounds_toArray, List.set_cons_zero, List.set_cons_succ, i64_w, i32_w]
          rfl
        refine pure_ (i := 2) (N := some 47) (v := ?_) (a' := ?_) #[true, true, true, false, false, false, false, false] rfl rfl (any_of HT_.out (by kernel_rfl)) (fun _ _ _ h => h) (Or.inl ⟨by rfl, ?_⟩) ?_ ?_
        rotate_left
        · intro w'
          go_simp
          with_reducible rfl
        rotate_left
        · simp only [Act.put, List.setIfInBounds_toArray, List.set_cons_zero, List.set_cons_succ, i64_w, i32_w]
          rfl
        refine pure_ (i := 3) (N := some 48) (v := ?_) (a' := ?_) #[true, true, true, true, false, false, false, false] rfl rfl (any_of HT_.out (by kernel_rfl)) (fun _ _ _ h => h) (Or.inl ⟨by rfl, ?_⟩) ?_ ?_
        rotate_left
        · intro w'
          go_simp
          with_reducible rfl
        rotate_left
        · simp only [Act.put, List.setIfInBounds_toArray, List.set_cons_zero, List.set_cons_succ, i64_w, i32_w]
          rfl
        refine take_ (i := 4) (N := some 49) (v := ?_) (a' := ?_) #[true, true, true, true, true, false, false, false] rfl rfl (take_ofW HT_.out HW_.out (by kernel_rfl)) (fun _ _ _ h => h) (Or.inl ⟨by rfl, ?_⟩) hHeld ?_ ?_
        rotate_left
        · rintro w' ⟨s0, s1⟩
          go_simp
          with_reducible rfl
        rotate_left
        · simp only [Act.put, List.setIfInBounds_toArray, List.set_cons_zero, List.set_cons_succ, i64_w, i32_w]
          rfl
        refine one_ (i := 5) (N := none) #[true, true, true, true, true, true, false, false] rfl rfl (one_of HT_.out (by kernel_rfl)) (by decide) (fun K hK => ?_)
        have hs36 : w35.cell? ⟨gb369, 0, none⟩ = some (.int .i64 0) := (bC BK369.out 0).trans rfl
        have hfs36 := bF BK369.out 0
        have hns36_1 := NB374_369.out
        have hms36_1 := NB369_374.out
        have hs37 : w35.cell? ⟨gb369, 1, none⟩ = some (.int .i64 0) := (bC BK369.out 1).trans rfl
        have hfs37 := bF BK369.out 1
        have hns37_1 := NB374_369.out
        have hms37_1 := NB369_374.out
        have hs38 : w35.cell? ⟨gb369, 2, none⟩ = some (.string (⟨#[]⟩ : ByteArray)) := (bC BK369.out 2).trans rfl
        have hfs38 := bF BK369.out 2
        have hns38_1 := NB374_369.out
        have hms38_1 := NB369_374.out
        have hs39 : w35.cell? ⟨gb369, 3, none⟩ = some (.string (⟨#[]⟩ : ByteArray)) := (bC BK369.out 3).trans rfl
        have hfs39 := bF BK369.out 3
        have hns39_1 := NB374_369.out
        have hms39_1 := NB369_374.out
        have hs40 : w35.cell? ⟨gb369, 4, none⟩ = some (.bool false) := (bC BK369.out 4).trans rfl
        have hfs40 := bF BK369.out 4
        have hns40_1 := NB374_369.out
        have hms40_1 := NB369_374.out
        refine skip_ (w1 := ?_) (by rfl) rfl ?_ ?_
        rotate_left
        · go_simp
          rfl
        refine hK.out _ _ ⟨((cell_far (p := ⟨gb369, _, none⟩) NB370_369.out _).trans (((cell_far (p := ⟨gb369, _, none⟩) NB370_369.out _).trans (((cell_far (p := ⟨gb369, _, none⟩) NB370_369.out _).trans (((cell_far (p := ⟨gb369, _, none⟩) NB370_369.out _).trans (((cell_far (p := ⟨gb369, _, none⟩) NB370_369.out _).trans (hHeld.1)))))))))), ((cell_far (p := ⟨gb369, _, none⟩) NB370_369.out _).trans (((cell_far (p := ⟨gb369, _, none⟩) NB370_369.out _).trans (((cell_far (p := ⟨gb369, _, none⟩) NB370_369.out _).trans (((cell_far (p := ⟨gb369, _, none⟩) NB370_369.out _).trans (((cell_far (p := ⟨gb369, _, none⟩) NB370_369.out _).trans (hHeld.2))))))))))⟩ (fun hHeld => ?_)
        clear hK K
        refine pure_ (i := 6) (N := some 3) (v := ?_) (a' := ?_) #[true, true, true, true, true, true, true, false] rfl rfl (any_of HT_.out (by kernel_rfl)) (fun _ _ _ h => h) (Or.inl ⟨by rfl, ?_⟩) ?_ ?_
        rotate_left
        · intro w'
          go_simp
          with_reducible rfl
        rotate_left
        · simp only [Act.put, List.setIfInBounds_toArray, List.set_cons_zero, List.set_cons_succ, i64_w, i32_w]
          rfl
        refine pure_ (i := 7) (N := some 4) (v := ?_) (a' := ?_) #[true, true, true, true, true, true, true, true] rfl rfl (any_of HT_.out (by kernel_rfl)) (fun _ _ _ h => h) (Or.inl ⟨by rfl, ?_⟩) ?_ ?_
        rotate_left
        · intro w'
          go_simp
          with_reducible rfl
        rotate_left
        · simp only [Act.put, List.setIfInBounds_toArray, List.set_cons_zero, List.set_cons_succ, i64_w, i32_w]
          rfl
        refine done_ (done_of HT_.out (by kernel_rfl)) ?_
        try go_wp2
        refine bodyPost_ret (results_ctt rfl _ _ gb369 34 #[.int .i64 0, .int .i64 0, .string (⟨#[]⟩ : ByteArray), .string (⟨#[]⟩ : ByteArray), .bool false] (0, 0) _ rfl (by (with_reducible repeat (first | refine bN ?_ _ | refine bD ?_ | refine bA ?_ _)); refine bP (cs := #[.int .i64 0, .int .i64 0, .string (⟨#[]⟩ : ByteArray), .string (⟨#[]⟩ : ByteArray), .bool false]) ?_ 4 _ rfl; (with_reducible repeat (first | refine bN ?_ _ | refine bD ?_ | refine bA ?_ _)); refine bP (cs := #[.int .i64 0, .int .i64 0, .string (⟨#[]⟩ : ByteArray), .string (⟨#[]⟩ : ByteArray), .bool false]) ?_ 3 _ rfl; (with_reducible repeat (first | refine bN ?_ _ | refine bD ?_ | refine bA ?_ _)); refine bP (cs := #[.int .i64 0, .int .i64 0, .string (⟨#[]⟩ : ByteArray), .string (⟨#[]⟩ : ByteArray), .bool false]) ?_ 2 _ rfl; (with_reducible repeat (first | refine bN ?_ _ | refine bD ?_ | refine bA ?_ _)); refine bP (cs := #[.int .i64 0, .int .i64 0, .string (⟨#[]⟩ : ByteArray), .string (⟨#[]⟩ : ByteArray), .bool false]) ?_ 1 _ rfl; (with_reducible repeat (first | refine bN ?_ _ | refine bD ?_ | refine bA ?_ _)); refine bP (cs := #[.int .i64 0, .int .i64 0, .string (⟨#[]⟩ : ByteArray), .string (⟨#[]⟩ : ByteArray), .bool false]) ?_ 0 _ rfl; (with_reducible repeat (first | refine bN ?_ _ | refine bD ?_ | refine bA ?_ _)); exact BK369.out) Try.underlying34 rfl (by kernel_rfl)) rfl ?_
        exact ⟨by first | rfl | (simp [*, eN, eS] <;> rfl) | (simp [eN, eS]; generalize ByteArray.toList _ = l_; cases l_ <;> rfl), by repeat (first | (with_reducible first | exact HB.out | apply vA | apply vN | apply vD | refine vS ?_ (IsS84.ge HI370.out) | refine vS ?_ GE369.out | refine vS ?_ GE374.out) | exact HB.out)⟩
      · replace c32 := Bool.eq_false_iff.mpr c32
        subst c32
        have H1 : (if t387 = 0 then (some ((wrap64 (t371)), t378, t382, t385, t379, t386, 0)) else (some (0, 0, (⟨#[]⟩ : ByteArray), (⟨#[]⟩ : ByteArray), false, 0, t387))) = some (r1, r2, r3, r4, r5, r6, r7) := by rw [if_neg (show ¬ (false = true) by decide)] at H; exact H
        clear H
        have H := H1
        clear H1
        by_cases c41 : t387 = 0
        · rw [if_pos c41] at H
          have c41b0 : (t387 == 0) = true := beq_iff_eq.mpr c41
          have c41b1 : (t387 != 0) = false := bne_eq_false_iff_eq.mpr c41
          clear c41
          simp only [Option.some.injEq, Prod.mk.injEq] at H
          obtain ⟨rfl, rfl, rfl, rfl, rfl, rfl, rfl⟩ := H
          obtain ⟨ASz42_0, cSz42_0, HGz42, hgz42, HSz42_0⟩ := HI370.out
          have hcz42_0 := cellS84_0 HGz42
          have hcz42_1 := cellS84_1 HGz42
          have hcz42_2 := cellS84_2 HGz42
          have hfz42_1 := bF HGz42 1
          have hfz42_2 := bF HGz42 2
          clear HGz42 hgz42
          try go_wp2
          have n0_ := Aside0.mk (bD BK369.out)
          have n1_ := Aside0.mk (bD BK374.out)
          have n2_ := Aside0.mk (IsS84.drew HI370.out)
          have n3_ := Aside0.mk (vD HB.out)
          clear BK369
          clear BK374
          clear HI370
          clear HB
          have BK369 := n0_
          have BK374 := n1_
          have HI370 := n2_
          have HB := n3_
          clear n0_ n1_ n2_ n3_
          refine start_ (n := 8) (S := fun w' => w'.cell? ⟨gb374, 0, none⟩ = some (.int .i64 (wrap64 (t371))) ∧ w'.cell? ⟨gb374, 1, none⟩ = some (.int .i64 t378) ∧ w'.cell? ⟨gb374, 2, none⟩ = some (.string t382) ∧ w'.cell? ⟨gb374, 3, none⟩ = some (.string t385) ∧ w'.cell? ⟨gb374, 4, none⟩ = some (.bool t379) ∧ w'.cell? ⟨gb370, 1, none⟩ = some (.int .i64 t386) ∧ w'.cell? ⟨gb370, 2, none⟩ = some (.int .i64 t387)) (ds := []) #[false, false, false, false, false, false, false, false] (by kernel_rfl) rfl rfl ⟨(bC BK374.out 0).trans rfl, (bC BK374.out 1).trans rfl, (bC BK374.out 2).trans rfl, (bC BK374.out 3).trans rfl, (bC BK374.out 4).trans rfl, (IsS84.cell_1 HI370.out), (IsS84.cell_2 HI370.out)⟩ (fun hHeld => ?_); refine with_tabW record_Get.tab11 record_Get.bits11 (fun HT_ HW_ => ?_)
          generalize wc.drew = w43 at BK369 BK374 HI370 HB hHeld ⊢
          refine pure_ (i := 1) (N := some 51) (v := ?_) (a' := ?_) #[false, true, false, false, false, false, false, false] rfl rfl (any_of HT_.out (by kernel_rfl)) (fun _ _ _ h => h) (Or.inl ⟨by rfl, ?_⟩) ?_ ?_
          rotate_left
          · intro w'
            go_simp
            with_reducible rfl
          rotate_left
          · simp only [Act.put, List.setIfInBounds_toArray, List.set_cons_zero, List.set_cons_succ, i64_w, i32_w]
            rfl
          refine pure_ (i := 2) (N := some 52) (v := ?_) (a' := ?_) #[false, true, true, false, false, false, false, false] rfl rfl (any_of HT_.out (by kernel_rfl)) (fun _ _ _ h => h) (Or.inl ⟨by rfl, ?_⟩) ?_ ?_
          rotate_left
          · intro w'
            go_simp
            with_reducible rfl
          rotate_left
          · simp only [Act.put, List.setIfInBounds_toArray, List.set_cons_zero, List.set_cons_succ, i64_w, i32_w]
            rfl
          refine pure_ (i := 3) (N := some 53) (v := ?_) (a' := ?_) #[false, true, true, true, false, false, false, false] rfl rfl (any_of HT_.out (by kernel_rfl)) (fun _ _ _ h => h) (Or.inl ⟨by rfl, ?_⟩) ?_ ?_
          rotate_left
          · intro w'
            go_simp
            with_reducible rfl
          rotate_left
          · simp only [Act.put, List.setIfInBounds_toArray, List.set_cons_zero, List.set_cons_succ, i64_w, i32_w]
            rfl
          refine take_ (i := 0) (N := some 50) (v := ?_) (a' := ?_) #[true, true, true, true, false, false, false, false] rfl rfl (take_ofW HT_.out HW_.out (by kernel_rfl)) (fun _ _ _ h => h) (Or.inl ⟨by rfl, ?_⟩) hHeld ?_ ?_
          rotate_left
          · rintro w' ⟨s0, s1, s2, s3, s4, s5, s6⟩
            go_simp
            with_reducible rfl
          rotate_left
          · simp only [Act.put, List.setIfInBounds_toArray, List.set_cons_zero, List.set_cons_succ, i64_w, i32_w]
            rfl
          refine take_ (i := 4) (N := some 54) (v := ?_) (a' := ?_) #[true, true, true, true, true, false, false, false] rfl rfl (take_ofW HT_.out HW_.out (by kernel_rfl)) (fun _ _ _ h => h) (Or.inl ⟨by rfl, ?_⟩) hHeld ?_ ?_
          rotate_left
          · rintro w' ⟨s0, s1, s2, s3, s4, s5, s6⟩
            go_simp
            with_reducible rfl
          rotate_left
          · simp only [Act.put, List.setIfInBounds_toArray, List.set_cons_zero, List.set_cons_succ, i64_w, i32_w]
            rfl
          refine one_ (i := 5) (N := none) #[true, true, true, true, true, true, false, false] rfl rfl (one_of HT_.out (by kernel_rfl)) (by decide) (fun K hK => ?_)
          have hs44 : w43.cell? ⟨gb369, 0, none⟩ = some (.int .i64 0) := (bC BK369.out 0).trans rfl
          have hfs44 := bF BK369.out 0
          have hns44_1 := NB374_369.out
          have hms44_1 := NB369_374.out
          have hs45 : w43.cell? ⟨gb369, 1, none⟩ = some (.int .i64 0) := (bC BK369.out 1).trans rfl
          have hfs45 := bF BK369.out 1
          have hns45_1 := NB374_369.out
          have hms45_1 := NB369_374.out
          have hs46 : w43.cell? ⟨gb369, 2, none⟩ = some (.string (⟨#[]⟩ : ByteArray)) := (bC BK369.out 2).trans rfl
          have hfs46 := bF BK369.out 2
          have hns46_1 := NB374_369.out
          have hms46_1 := NB369_374.out
          have hs47 : w43.cell? ⟨gb369, 3, none⟩ = some (.string (⟨#[]⟩ : ByteArray)) := (bC BK369.out 3).trans rfl
          have hfs47 := bF BK369.out 3
          have hns47_1 := NB374_369.out
          have hms47_1 := NB369_374.out
          have hs48 : w43.cell? ⟨gb369, 4, none⟩ = some (.bool false) := (bC BK369.out 4).trans rfl
          have hfs48 := bF BK369.out 4
          have hns48_1 := NB374_369.out
          have hms48_1 := NB369_374.out
          refine skip_ (w1 := ?_) (by rfl) rfl ?_ ?_
          rotate_left
          · go_simp
            rfl
          refine hK.out _ _ ⟨((cell_far (p := ⟨gb369, _, none⟩) NB374_369.out _).trans (((cell_far (p := ⟨gb369, _, none⟩) NB374_369.out _).trans (((cell_far (p := ⟨gb369, _, none⟩) NB374_369.out _).trans (((cell_far (p := ⟨gb369, _, none⟩) NB374_369.out _).trans (((cell_far (p := ⟨gb369, _, none⟩) NB374_369.out _).trans (hHeld.1)))))))))), ((cell_far (p := ⟨gb369, _, none⟩) NB374_369.out _).trans (((cell_far (p := ⟨gb369, _, none⟩) NB374_369.out _).trans (((cell_far (p := ⟨gb369, _, none⟩) NB374_369.out _).trans (((cell_far (p := ⟨gb369, _, none⟩) NB374_369.out _).trans (((cell_far (p := ⟨gb369, _, none⟩) NB374_369.out _).trans (hHeld.2.1)))))))))), ((cell_far (p := ⟨gb369, _, none⟩) NB374_369.out _).trans (((cell_far (p := ⟨gb369, _, none⟩) NB374_369.out _).trans (((cell_far (p := ⟨gb369, _, none⟩) NB374_369.out _).trans (((cell_far (p := ⟨gb369, _, none⟩) NB374_369.out _).trans (((cell_far (p := ⟨gb369, _, none⟩) NB374_369.out _).trans (hHeld.2.2.1)))))))))), ((cell_far (p := ⟨gb369, _, none⟩) NB374_369.out _).trans (((cell_far (p := ⟨gb369, _, none⟩) NB374_369.out _).trans (((cell_far (p := ⟨gb369, _, none⟩) NB374_369.out _).trans (((cell_far (p := ⟨gb369, _, none⟩) NB374_369.out _).trans (((cell_far (p := ⟨gb369, _, none⟩) NB374_369.out _).trans (hHeld.2.2.2.1)))))))))), ((cell_far (p := ⟨gb369, _, none⟩) NB374_369.out _).trans (((cell_far (p := ⟨gb369, _, none⟩) NB374_369.out _).trans (((cell_far (p := ⟨gb369, _, none⟩) NB374_369.out _).trans (((cell_far (p := ⟨gb369, _, none⟩) NB374_369.out _).trans (((cell_far (p := ⟨gb369, _, none⟩) NB374_369.out _).trans (hHeld.2.2.2.2.1)))))))))), ((cell_far (p := ⟨gb369, _, none⟩) NB370_369.out _).trans (((cell_far (p := ⟨gb369, _, none⟩) NB370_369.out _).trans (((cell_far (p := ⟨gb369, _, none⟩) NB370_369.out _).trans (((cell_far (p := ⟨gb369, _, none⟩) NB370_369.out _).trans (((cell_far (p := ⟨gb369, _, none⟩) NB370_369.out _).trans (hHeld.2.2.2.2.2.1)))))))))), ((cell_far (p := ⟨gb369, _, none⟩) NB370_369.out _).trans (((cell_far (p := ⟨gb369, _, none⟩) NB370_369.out _).trans (((cell_far (p := ⟨gb369, _, none⟩) NB370_369.out _).trans (((cell_far (p := ⟨gb369, _, none⟩) NB370_369.out _).trans (((cell_far (p := ⟨gb369, _, none⟩) NB370_369.out _).trans (hHeld.2.2.2.2.2.2))))))))))⟩ (fun hHeld => ?_)
          clear hK K
          refine pure_ (i := 6) (N := some 3) (v := ?_) (a' := ?_) #[true, true, true, true, true, true, true, false] rfl rfl (any_of HT_.out (by kernel_rfl)) (fun _ _ _ h => h) (Or.inl ⟨by rfl, ?_⟩) ?_ ?_
          rotate_left
          · intro w'
            go_simp
            with_reducible rfl
          rotate_left
          · simp only [Act.put, List.setIfInBounds_toArray, List.set_cons_zero, List.set_cons_succ, i64_w, i32_w]
            rfl
          refine pure_ (i := 7) (N := some 4) (v := ?_) (a' := ?_) #[true, true, true, true, true, true, true, true] rfl rfl (any_of HT_.out (by kernel_rfl)) (fun _ _ _ h => h) (Or.inl ⟨by rfl, ?_⟩) ?_ ?_
          rotate_left
          · intro w'
            go_simp
            with_reducible rfl
          rotate_left
          · simp only [Act.put, List.setIfInBounds_toArray, List.set_cons_zero, List.set_cons_succ, i64_w, i32_w]
            rfl
          refine done_ (done_of HT_.out (by kernel_rfl)) ?_
          try go_wp2
          refine bodyPost_ret (results_ctt rfl _ _ gb369 34 #[.int .i64 (wrap64 (t371)), .int .i64 t378, .string t382, .string t385, .bool t379] (0, 0) _ rfl (by (with_reducible repeat (first | refine bN ?_ _ | refine bD ?_ | refine bA ?_ _)); refine bP (cs := #[.int .i64 (wrap64 (t371)), .int .i64 t378, .string t382, .string t385, .bool false]) ?_ 4 _ rfl; (with_reducible repeat (first | refine bN ?_ _ | refine bD ?_ | refine bA ?_ _)); refine bP (cs := #[.int .i64 (wrap64 (t371)), .int .i64 t378, .string t382, .string (⟨#[]⟩ : ByteArray), .bool false]) ?_ 3 _ rfl; (with_reducible repeat (first | refine bN ?_ _ | refine bD ?_ | refine bA ?_ _)); refine bP (cs := #[.int .i64 (wrap64 (t371)), .int .i64 t378, .string (⟨#[]⟩ : ByteArray), .string (⟨#[]⟩ : ByteArray), .bool false]) ?_ 2 _ rfl; (with_reducible repeat (first | refine bN ?_ _ | refine bD ?_ | refine bA ?_ _)); refine bP (cs := #[.int .i64 (wrap64 (t371)), .int .i64 0, .string (⟨#[]⟩ : ByteArray), .string (⟨#[]⟩ : ByteArray), .bool false]) ?_ 1 _ rfl; (with_reducible repeat (first | refine bN ?_ _ | refine bD ?_ | refine bA ?_ _)); refine bP (cs := #[.int .i64 0, .int .i64 0, .string (⟨#[]⟩ : ByteArray), .string (⟨#[]⟩ : ByteArray), .bool false]) ?_ 0 _ rfl; (with_reducible repeat (first | refine bN ?_ _ | refine bD ?_ | refine bA ?_ _)); exact BK369.out) Try.underlying34 rfl (by kernel_rfl)) rfl ?_
          exact ⟨by first | rfl | (simp [*, eN, eS] <;> rfl) | (simp [eN, eS]; generalize ByteArray.toList _ = l_; cases l_ <;> rfl), by repeat (first | (with_reducible first | exact HB.out | apply vA | apply vN | apply vD | refine vS ?_ (IsS84.ge HI370.out) | refine vS ?_ GE369.out | refine vS ?_ GE374.out) | exact HB.out)⟩
        · rw [if_neg c41] at H
          have c41b0 : (t387 == 0) = false := beq_eq_false_iff_ne.mpr c41
          have c41b1 : (t387 != 0) = true := bne_iff_ne.mpr c41
          simp only [Option.some.injEq, Prod.mk.injEq] at H
          obtain ⟨rfl, rfl, rfl, rfl, rfl, rfl, rfl⟩ := H
          obtain ⟨ASz49_0, cSz49_0, HGz49, hgz49, HSz49_0⟩ := HI370.out
          have hcz49_0 := cellS84_0 HGz49
          have hcz49_1 := cellS84_1 HGz49
          have hcz49_2 := cellS84_2 HGz49
          have hfz49_1 := bF HGz49 1
          have hfz49_2 := bF HGz49 2
          clear HGz49 hgz49
          try go_wp2
          have n0_ := Aside0.mk (bD BK369.out)
          have n1_ := Aside0.mk (bD BK374.out)
          have n2_ := Aside0.mk (IsS84.drew HI370.out)
          have n3_ := Aside0.mk (vD HB.out)
          clear BK369
          clear BK374
          clear HI370
          clear HB
          have BK369 := n0_
          have BK374 := n1_
          have HI370 := n2_
          have HB := n3_
          clear n0_ n1_ n2_ n3_
          refine start_ (n := 8) (S := fun w' => w'.cell? ⟨gb370, 1, none⟩ = some (.int .i64 t386) ∧ w'.cell? ⟨gb370, 2, none⟩ = some (.int .i64 t387)) (ds := []) #[false, false, false, false, false, false, false, false] (by kernel_rfl) rfl rfl ⟨(IsS84.cell_1 HI370.out), (IsS84.cell_2 HI370.out)⟩ (fun hHeld => ?_); refine with_tabW record_Get.tab10 record_Get.bits10 (fun HT_ HW_ => ?_)
          generalize wc.drew = w50 at BK369 BK374 HI370 HB hHeld ⊢
          refine pure_ (i := 0) (N := some 45) (v := ?_) (a' := ?_) #[true, false, false, false, false, false, false, false] rfl rfl (any_of HT_.out (by kernel_rfl)) (fun _ _ _ h => h) (Or.inl ⟨by rfl, ?_⟩) ?_ ?_
          rotate_left
          · intro w'
            go_simp
            with_reducible rfl
          rotate_left
          · simp only [Act.put, List.setIfInBounds_toArray, List.set_cons_zero, List.set_cons_succ, i64_w, i32_w]
            rfl
          refine pure_ (i := 1) (N := some 46) (v := ?_) (a' := ?_) #[true, true, false, false, false, false, false, false] rfl rfl (any_of HT_.out (by kernel_rfl)) (fun _ _ _ h => h) (Or.inl ⟨by rfl, ?_⟩) ?_ ?_
          rotate_left
          · intro w'
            go_simp
            with_reducible rfl
          rotate_left
          · simp only [Act.put, List.setIfInBounds_toArray, List.set_cons_zero, List.set_cons_succ, i64_w, i32_w]
            rfl
          refine pure_ (i := 2) (N := some 47) (v := ?_) (a' := ?_) #[true, true, true, false, false, false, false, false] rfl rfl (any_of HT_.out (by kernel_rfl)) (fun _ _ _ h => h) (Or.inl ⟨by rfl, ?_⟩) ?_ ?_
          rotate_left
          · intro w'
            go_simp
            with_reducible rfl
          rotate_left
          · simp only [Act.put, List.setIfInBounds_toArray, List.set_cons_zero, List.set_cons_succ, i64_w, i32_w]
            rfl
          refine pure_ (i := 3) (N := some 48) (v := ?_) (a' := ?_) #[true, true, true, true, false, false, false, false] rfl rfl (any_of HT_.out (by kernel_rfl)) (fun _ _ _ h => h) (Or.inl ⟨by rfl, ?_⟩) ?_ ?_
          rotate_left
          · intro w'
            go_simp
            with_reducible rfl
          rotate_left
          · simp only [Act.put, List.setIfInBounds_toArray, List.set_cons_zero, List.set_cons_succ, i64_w, i32_w]
            rfl
          refine take_ (i := 4) (N := some 49) (v := ?_) (a' := ?_) #[true, true, true, true, true, false, false, false] rfl rfl (take_ofW HT_.out HW_.out (by kernel_rfl)) (fun _ _ _ h => h) (Or.inl ⟨by rfl, ?_⟩) hHeld ?_ ?_
          rotate_left
          · rintro w' ⟨s0, s1⟩
            go_simp
            with_reducible rfl
          rotate_left
          · simp only [Act.put, List.setIfInBounds_toArray, List.set_cons_zero, List.set_cons_succ, i64_w, i32_w]
            rfl
          refine one_ (i := 5) (N := none) #[true, true, true, true, true, true, false, false] rfl rfl (one_of HT_.out (by kernel_rfl)) (by decide) (fun K hK => ?_)
          have hs51 : w50.cell? ⟨gb369, 0, none⟩ = some (.int .i64 0) := (bC BK369.out 0).trans rfl
          have hfs51 := bF BK369.out 0
          have hns51_1 := NB374_369.out
          have hms51_1 := NB369_374.out
          have hs52 : w50.cell? ⟨gb369, 1, none⟩ = some (.int .i64 0) := (bC BK369.out 1).trans rfl
          have hfs52 := bF BK369.out 1
          have hns52_1 := NB374_369.out
          have hms52_1 := NB369_374.out
          have hs53 : w50.cell? ⟨gb369, 2, none⟩ = some (.string (⟨#[]⟩ : ByteArray)) := (bC BK369.out 2).trans rfl
          have hfs53 := bF BK369.out 2
          have hns53_1 := NB374_369.out
          have hms53_1 := NB369_374.out
          have hs54 : w50.cell? ⟨gb369, 3, none⟩ = some (.string (⟨#[]⟩ : ByteArray)) := (bC BK369.out 3).trans rfl
          have hfs54 := bF BK369.out 3
          have hns54_1 := NB374_369.out
          have hms54_1 := NB369_374.out
          have hs55 : w50.cell? ⟨gb369, 4, none⟩ = some (.bool false) := (bC BK369.out 4).trans rfl
          have hfs55 := bF BK369.out 4
          have hns55_1 := NB374_369.out
          have hms55_1 := NB369_374.out
          refine skip_ (w1 := ?_) (by rfl) rfl ?_ ?_
          rotate_left
          · go_simp
            rfl
          refine hK.out _ _ ⟨((cell_far (p := ⟨gb369, _, none⟩) NB370_369.out _).trans (((cell_far (p := ⟨gb369, _, none⟩) NB370_369.out _).trans (((cell_far (p := ⟨gb369, _, none⟩) NB370_369.out _).trans (((cell_far (p := ⟨gb369, _, none⟩) NB370_369.out _).trans (((cell_far (p := ⟨gb369, _, none⟩) NB370_369.out _).trans (hHeld.1)))))))))), ((cell_far (p := ⟨gb369, _, none⟩) NB370_369.out _).trans (((cell_far (p := ⟨gb369, _, none⟩) NB370_369.out _).trans (((cell_far (p := ⟨gb369, _, none⟩) NB370_369.out _).trans (((cell_far (p := ⟨gb369, _, none⟩) NB370_369.out _).trans (((cell_far (p := ⟨gb369, _, none⟩) NB370_369.out _).trans (hHeld.2))))))))))⟩ (fun hHeld => ?_)
          clear hK K
          refine pure_ (i := 6) (N := some 3) (v := ?_) (a' := ?_) #[true, true, true, true, true, true, true, false] rfl rfl (any_of HT_.out (by kernel_rfl)) (fun _ _ _ h => h) (Or.inl ⟨by rfl, ?_⟩) ?_ ?_
          rotate_left
          · intro w'
            go_simp
            with_reducible rfl
          rotate_left
          · simp only [Act.put, List.setIfInBounds_toArray, List.set_cons_zero, List.set_cons_succ, i64_w, i32_w]
            rfl
          refine pure_ (i := 7) (N := some 4) (v := ?_) (a' := ?_) #[true, true, true, true, true, true, true, true] rfl rfl (any_of HT_.out (by kernel_rfl)) (fun _ _ _ h => h) (Or.inl ⟨by rfl, ?_⟩) ?_ ?_
          rotate_left
          · intro w'
            go_simp
            with_reducible rfl
          rotate_left
          · simp only [Act.put, List.setIfInBounds_toArray, List.set_cons_zero, List.set_cons_succ, i64_w, i32_w]
            rfl
          refine done_ (done_of HT_.out (by kernel_rfl)) ?_
          try go_wp2
          refine bodyPost_ret (results_ctt rfl _ _ gb369 34 #[.int .i64 0, .int .i64 0, .string (⟨#[]⟩ : ByteArray), .string (⟨#[]⟩ : ByteArray), .bool false] (0, 0) _ rfl (by (with_reducible repeat (first | refine bN ?_ _ | refine bD ?_ | refine bA ?_ _)); refine bP (cs := #[.int .i64 0, .int .i64 0, .string (⟨#[]⟩ : ByteArray), .string (⟨#[]⟩ : ByteArray), .bool false]) ?_ 4 _ rfl; (with_reducible repeat (first | refine bN ?_ _ | refine bD ?_ | refine bA ?_ _)); refine bP (cs := #[.int .i64 0, .int .i64 0, .string (⟨#[]⟩ : ByteArray), .string (⟨#[]⟩ : ByteArray), .bool false]) ?_ 3 _ rfl; (with_reducible repeat (first | refine bN ?_ _ | refine bD ?_ | refine bA ?_ _)); refine bP (cs := #[.int .i64 0, .int .i64 0, .string (⟨#[]⟩ : ByteArray), .string (⟨#[]⟩ : ByteArray), .bool false]) ?_ 2 _ rfl; (with_reducible repeat (first | refine bN ?_ _ | refine bD ?_ | refine bA ?_ _)); refine bP (cs := #[.int .i64 0, .int .i64 0, .string (⟨#[]⟩ : ByteArray), .string (⟨#[]⟩ : ByteArray), .bool false]) ?_ 1 _ rfl; (with_reducible repeat (first | refine bN ?_ _ | refine bD ?_ | refine bA ?_ _)); refine bP (cs := #[.int .i64 0, .int .i64 0, .string (⟨#[]⟩ : ByteArray), .string (⟨#[]⟩ : ByteArray), .bool false]) ?_ 0 _ rfl; (with_reducible repeat (first | refine bN ?_ _ | refine bD ?_ | refine bA ?_ _)); exact BK369.out) Try.underlying34 rfl (by kernel_rfl)) rfl ?_
          exact ⟨by first | rfl | (simp [*, eN, eS] <;> rfl) | (simp [eN, eS]; generalize ByteArray.toList _ = l_; cases l_ <;> rfl), by repeat (first | (with_reducible first | exact HB.out | apply vA | apply vN | apply vD | refine vS ?_ (IsS84.ge HI370.out) | refine vS ?_ GE369.out | refine vS ?_ GE374.out) | exact HB.out)⟩

end Go.Proofs.Ytphnolgneojdhaa.V

-- printed by a program of this session (rowgen.py)
import Derived.Test.YtpafbpfcoacidaaRows
import Derived.Test.YtpafbpfcoacidaaUx20
import Derived.Test.YtpafbpfcoacidaaPureRecordPuts
import Derived.Test.YtpafbpfcoacidaaTUOpens
import Derived.WalkKit
import Derived.ProofKit
import Derived.OpenShut
import Derived.ShutString
import Derived.ChangeOld
import Derived.Below
import Derived.SizedLaws
import Derived.Test.YtpafbpfcoacidaaYUWSized
namespace Go.Proofs.Ytpafbpfcoacidaa.recordPuts
open Go.ChangeShapes Go.WideShapes Go.ChangeAt Go.RowKit Go.Proofs.YtpafbpfcoacidaaW.PrintWords Go.Proofs.Ytpafbpfcoacidaa.Opens
open Go.ChangeMaps (open_string shut_string)
set_option linter.unusedVariables false
theorem own : ownKnob Try.prog.godebug = none := by kernel_rfl
theorem laidOut : laidOutB Try.prog = true := by kernel_rfl
theorem opBytes (W : World) : Opens Try.prog W 30 (Kd.slice 5 (Kd.int .u8)) (fun xs => xs.length ≤ maxLen ∧ ∀ x ∈ xs, (Lit.int .u8 x).wf = true) := opens_slice (d := Kd.int .u8) Try.underlying30 (by kernel_rfl) (opens_int Try.underlying5)
theorem opRec (W : World) : Opens Try.prog W 25 U.k25 (fun _ => True) := opens_any (opens_iso (g := fun x => (⟨x.1, x.2.1, x.2.2.1, x.2.2.2.1, x.2.2.2.2⟩ : U.S25)) (fun _ => rfl) (opens_five Try.underlying25 (by kernel_rfl) (by kernel_rfl) (opens_int Try.underlying3) (opens_int Try.underlying3) (opens_string Try.underlying9) (opens_string Try.underlying9) (opens_bool Try.underlying4)))
set_option maxRecDepth 100000 in
theorem lifted (os : Os) (started : os.Started) (H : Type) (enc : TypeId × Value → H) :
    ReturnsInHanded {} Try.checked os 11 .any (Rows.recordPutsSpec.pre6 enc Try.prog Try.f11 Rows.recordPutsRow.domain false) (Rows.recordPutsSpec.post enc Try.prog Try.f11 false true false false) := by
  refine returnsInHanded_of_change_sized (C := Try.checked) own started (by kernel_rfl) Try.func11
    (ChangeSpec.witness6 (enc := enc) (C := Try.checked) false ⟨#[], #[.slice none 0 0, .agg #[.int .i64 0, .int .i64 0, .string ⟨#[]⟩, .string ⟨#[]⟩, .bool false], .slice none 0 0], []⟩ 8 (by kernel_rfl) (by kernel_rfl) (by kernel_rfl) (by kernel_rfl)) ?_
  intro W base args ds gs before hval0 hW hcnd hsz0 _
  have hval : ∀ (j : Nat) t v, Try.f11.params[j]? = some t → args[j]? = some v → Value.okWide Try.prog W .any base t v := hval0
  have hW' := hW
  obtain ⟨p, q, hA0, hV, rfl, hfz, hnd⟩ := hW
  have hA : DataW.TrodAll enc Try.prog W 0 (fun _ => true) true Try.f11.params.toList args.toList ds p := hA0
  rw [Try.params11] at hA hval
  obtain ⟨v0, vs0, d0, ds0, p0, q0, hargs, rfl, rfl, h0, r0⟩ := trodAll_cons hA
  obtain ⟨v1, vs1, d1, ds1, p1, q1, rfl, rfl, rfl, h1, r1⟩ := trodAll_cons r0
  obtain ⟨v2, vs2, d2, ds2, p2, q2, rfl, rfl, rfl, h2, r2⟩ := trodAll_cons r1
  obtain ⟨rfl, rfl, rfl⟩ := trodAll_nil r2
  obtain rfl : args = #[v0, v1, v2] := by cases args; simp_all
  obtain ⟨rfl, rfl⟩ := trodVars_none hV
  have k0 := h0
  have lt0 : ∀ x ∈ p0, x.block < W.heap.size := by obtain ⟨m, hm⟩ := k0; exact DataW.trod_lt m _ _ _ hm
  obtain ⟨a0, len0, cap0, rfl⟩ := okWide_slice Try.underlying30 (hval 0 30 v0 rfl rfl)
  obtain ⟨l0, rfl, hl0, hC0, hg0⟩ := slice_arg (opBytes W) h0
  have k1 := h1
  have lt1 : ∀ x ∈ p1, x.block < W.heap.size := by obtain ⟨m, hm⟩ := k1; exact DataW.trod_lt m _ _ _ hm
  obtain ⟨cs1, rfl, hsz1⟩ := okWide_struct Try.underlying25 (hval 1 25 v1 rfl rfl)
  obtain ⟨x1, hK1, hg1⟩ := agg_arg (opRec W) h1
  obtain rfl : cs1 = #[.int .i64 x1.f0, .int .i64 x1.f1, .string x1.f2, .string x1.f3, .bool x1.f4] := Array.toList_inj.1 (U.k25_open hK1)
  have k2 := h2
  have lt2 : ∀ x ∈ p2, x.block < W.heap.size := by obtain ⟨m, hm⟩ := k2; exact DataW.trod_lt m _ _ _ hm
  obtain ⟨a2, len2, cap2, rfl⟩ := okWide_slice Try.underlying30 (hval 2 30 v2 rfl rfl)
  obtain ⟨l2, rfl, hl2, hC2, hg2⟩ := slice_arg (opBytes W) h2
  clear hA0 hval0
  obtain ⟨k, h⟩ := Pure.RecordPuts l0 hg0.2 x1 l2 hg2.2
  refine (U.cooperagelaw4_RecordPuts.calls k a0 cap0 l0 x1.f0 x1.f1 x1.f2 x1.f3 x1.f4 a2 cap2 l2 true W hC0 hl0 hC2 hl2 h).mono fun e W' ⟨he, bel⟩ => ?_
  subst he
  exact ⟨_, rfl, _, _, _, [], _, [], hW', trodAll_mk1 (shut_bool Try.underlying4 _), (trodAll_cons_mk (Below.trod laidOut (by kernel_rfl) (of_decide_eq_true (by kernel_rfl)) k0 bel lt0) (trodAll_cons_mk (Below.trod laidOut (by kernel_rfl) (of_decide_eq_true (by kernel_rfl)) k1 bel lt1) (trodAll_cons_mk (Below.trod laidOut (by kernel_rfl) (of_decide_eq_true (by kernel_rfl)) k2 bel lt2) trodAll_mk0))), rfl, bel.frame _, fun h => by cases h⟩
theorem over : Rows.recordPutsRow.holds Try.pinned (OpenSpec.ofChange Rows.recordPutsSpec) :=
  OpenClaim.holds_of_wide 11 Try.f11 rfl rfl rfl rfl rfl rfl rfl ⟨rfl, rfl, rfl, rfl, rfl⟩ rfl rfl rfl rfl rfl (by kernel_rfl) Try.func11 (by kernel_rfl)
    (of_decide_eq_true (by kernel_rfl)) (by unfold Func.isWrapper; first | (rw [if_pos (by decide +kernel)]; kernel_rfl) | (rw [if_neg (by decide +kernel)]; exact ⟨rfl, rfl⟩))
    (fun os started H enc _ => lifted os started H enc)
theorem proved : Rows.RecordPutsSaid := over
#print axioms proved
end Go.Proofs.Ytpafbpfcoacidaa.recordPuts
namespace Go.Proofs.Ytpafbpfcoacidaa
/-- The row, under a short name, for the claim. -/
theorem recordPuts_holds : Rows.RecordPutsSaid := recordPuts.proved
end Go.Proofs.Ytpafbpfcoacidaa

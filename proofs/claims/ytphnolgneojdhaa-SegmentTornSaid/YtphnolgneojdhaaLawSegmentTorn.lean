-- printed by a program of this session (rowgen.py)
import Derived.Test.YtphnolgneojdhaaRows
import Derived.Test.YtphnolgneojdhaaSx25
import Derived.Test.YtphnolgneojdhaaPureSegmentTorn
import Derived.Test.YtphnolgneojdhaaTSOpens
import Derived.WalkKit
import Derived.ProofKit
import Derived.OpenShut
import Derived.ShutString
import Derived.ChangeOld
import Derived.Below
import Derived.SizedLaws
import Derived.Test.YtphnolgneojdhaaYSW
namespace Go.Proofs.Ytphnolgneojdhaa.segmentTorn
open Go.ChangeShapes Go.WideShapes Go.ChangeAt Go.RowKit Go.Proofs.YtphnolgneojdhaaW.PrintWords Go.Proofs.Ytphnolgneojdhaa.Opens
open Go.ChangeMaps (open_string shut_string)
set_option linter.unusedVariables false
theorem own : ownKnob Try.prog.godebug = none := by kernel_rfl
theorem laidOut : laidOutB Try.prog = true := by kernel_rfl
theorem opBytes (W : World) : Opens Try.prog W 37 (Kd.slice 5 (Kd.int .u8)) (fun xs => xs.length ≤ maxLen ∧ ∀ x ∈ xs, (Lit.int .u8 x).wf = true) := opens_slice (d := Kd.int .u8) Try.underlying37 (by kernel_rfl) (opens_int Try.underlying5)
theorem opRec (W : World) : Opens Try.prog W 34 S.k34 (fun _ => True) := opens_any (opens_iso (g := fun x => (⟨x.1, x.2.1, x.2.2.1, x.2.2.2.1, x.2.2.2.2⟩ : S.S34)) (fun _ => rfl) (opens_five Try.underlying34 (by kernel_rfl) (by kernel_rfl) (opens_int Try.underlying3) (opens_int Try.underlying3) (opens_string Try.underlying9) (opens_string Try.underlying9) (opens_bool Try.underlying4)))
theorem opRecs (W : World) : Opens Try.prog W 22 (Kd.slice 34 S.k34) (fun xs => xs.length ≤ maxLen ∧ ∀ x ∈ xs, True) := opens_slice (d := S.k34) Try.underlying22 (by kernel_rfl) (opRec W)
set_option maxRecDepth 100000 in
theorem lifted (os : Os) (started : os.Started) (H : Type) (enc : TypeId × Value → H) :
    ReturnsInHanded {} Try.checked os 5 .any (Rows.segmentTornSpec.pre6 enc Try.prog Try.f5 Rows.segmentTornRow.domain false) (Rows.segmentTornSpec.post enc Try.prog Try.f5 false true false false) := by
  refine returnsInHanded_of_change_sized (C := Try.checked) own started (by kernel_rfl) Try.func5
    (ChangeSpec.witness6 (enc := enc) (C := Try.checked) false ⟨#[], #[.slice none 0 0, .int .i64 0], []⟩ 8 (by kernel_rfl) (by kernel_rfl) (by kernel_rfl) (by kernel_rfl)) ?_
  intro W base args ds gs before hval0 hW hcnd hsz0 _
  have hval : ∀ (j : Nat) t v, Try.f5.params[j]? = some t → args[j]? = some v → Value.okWide Try.prog W .any base t v := hval0
  have hW' := hW
  obtain ⟨p, q, hA0, hV, rfl, hfz, hnd⟩ := hW
  have hA : DataW.TrodAll enc Try.prog W 0 (fun _ => true) true Try.f5.params.toList args.toList ds p := hA0
  rw [Try.params5] at hA hval
  obtain ⟨v0, vs0, d0, ds0, p0, q0, hargs, rfl, rfl, h0, r0⟩ := trodAll_cons hA
  obtain ⟨v1, vs1, d1, ds1, p1, q1, rfl, rfl, rfl, h1, r1⟩ := trodAll_cons r0
  obtain ⟨rfl, rfl, rfl⟩ := trodAll_nil r1
  obtain rfl : args = #[v0, v1] := by cases args; simp_all
  obtain ⟨rfl, rfl⟩ := trodVars_none hV
  have k0 := h0
  have lt0 : ∀ x ∈ p0, x.block < W.heap.size := by obtain ⟨m, hm⟩ := k0; exact DataW.trod_lt m _ _ _ hm
  obtain ⟨a0, len0, cap0, rfl⟩ := okWide_slice Try.underlying22 (hval 0 22 v0 rfl rfl)
  obtain ⟨l0, rfl, hl0, hC0, hg0⟩ := slice_arg (opRecs W) h0
  obtain ⟨a1, rfl, rfl, rfl, w1⟩ := open_int Try.underlying3 (hval 1 3 v1 rfl rfl) h1
  clear hA0 hval0
  obtain ⟨k, h⟩ := Pure.SegmentTorn l0 hg0.1 a1 w1
  refine (S.cooperagelaw8_SegmentTorn.calls k a0 cap0 l0 a1 true W hC0 hl0 h).mono fun e W' ⟨he, bel⟩ => ?_
  subst he
  exact ⟨_, rfl, _, _, _, [], _, [], hW', trodAll_mk1 (shut_bool Try.underlying4 _), (trodAll_cons_mk (Below.trod laidOut (by kernel_rfl) (of_decide_eq_true (by kernel_rfl)) k0 bel lt0) (trodAll_cons_mk (shut_int Try.underlying3 w1) trodAll_mk0)), rfl, bel.frame _, fun h => by cases h⟩
theorem over : Rows.segmentTornRow.holds Try.pinned (OpenSpec.ofChange Rows.segmentTornSpec) :=
  OpenClaim.holds_of_wide 5 Try.f5 rfl rfl rfl rfl rfl rfl rfl ⟨rfl, rfl, rfl, rfl, rfl⟩ rfl rfl rfl rfl rfl (by kernel_rfl) Try.func5 (by kernel_rfl)
    (of_decide_eq_true (by kernel_rfl)) (by unfold Func.isWrapper; first | (rw [if_pos (by decide +kernel)]; kernel_rfl) | (rw [if_neg (by decide +kernel)]; exact ⟨rfl, rfl⟩))
    (fun os started H enc _ => lifted os started H enc)
theorem proved : Rows.SegmentTornSaid := over
#print axioms proved
end Go.Proofs.Ytphnolgneojdhaa.segmentTorn
namespace Go.Proofs.Ytphnolgneojdhaa
/-- The row, under a short name, for the claim. -/
theorem segmentTorn_holds : Rows.SegmentTornSaid := segmentTorn.proved
end Go.Proofs.Ytphnolgneojdhaa

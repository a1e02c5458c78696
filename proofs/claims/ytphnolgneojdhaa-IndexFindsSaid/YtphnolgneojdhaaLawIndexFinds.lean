-- printed by a program of this session (rowgen.py)
import Derived.Test.YtphnolgneojdhaaRows
import Derived.Test.YtphnolgneojdhaaVx15
import Derived.Test.YtphnolgneojdhaaPureIndexFinds
import Derived.Test.YtphnolgneojdhaaTVOpens
import Derived.WalkKit
import Derived.ProofKit
import Derived.OpenShut
import Derived.ShutString
import Derived.ChangeOld
import Derived.Below
import Derived.SizedLaws
import Derived.Test.YtphnolgneojdhaaYVW
namespace Go.Proofs.Ytphnolgneojdhaa.indexFinds
open Go.ChangeShapes Go.WideShapes Go.ChangeAt Go.RowKit Go.Proofs.YtphnolgneojdhaaW.PrintWords Go.Proofs.Ytphnolgneojdhaa.Opens
open Go.ChangeMaps (open_string shut_string)
set_option linter.unusedVariables false
theorem own : ownKnob Try.prog.godebug = none := by kernel_rfl
theorem laidOut : laidOutB Try.prog = true := by kernel_rfl
theorem opBytes (W : World) : Opens Try.prog W 37 (Kd.slice 5 (Kd.int .u8)) (fun xs => xs.length ≤ maxLen ∧ ∀ x ∈ xs, (Lit.int .u8 x).wf = true) := opens_slice (d := Kd.int .u8) Try.underlying37 (by kernel_rfl) (opens_int Try.underlying5)
theorem opRec (W : World) : Opens Try.prog W 34 V.k34 (fun _ => True) := opens_any (opens_iso (g := fun x => (⟨x.1, x.2.1, x.2.2.1, x.2.2.2.1, x.2.2.2.2⟩ : V.S34)) (fun _ => rfl) (opens_five Try.underlying34 (by kernel_rfl) (by kernel_rfl) (opens_int Try.underlying3) (opens_int Try.underlying3) (opens_string Try.underlying9) (opens_string Try.underlying9) (opens_bool Try.underlying4)))
theorem opRecs (W : World) : Opens Try.prog W 22 (Kd.slice 34 V.k34) (fun xs => xs.length ≤ maxLen ∧ ∀ x ∈ xs, True) := opens_slice (d := V.k34) Try.underlying22 (by kernel_rfl) (opRec W)
theorem opInts (W : World) : Opens Try.prog W 55 (Kd.slice 3 (Kd.int .i64)) (fun xs => xs.length ≤ maxLen ∧ ∀ x ∈ xs, (Lit.int .i64 x).wf = true) := opens_slice (d := Kd.int .i64) Try.underlying55 (by kernel_rfl) (opens_int Try.underlying3)
set_option maxRecDepth 100000 in
theorem lifted (os : Os) (started : os.Started) (H : Type) (enc : TypeId × Value → H) :
    ReturnsInHanded {} Try.checked os 10 .any (Rows.indexFindsSpec.pre6 enc Try.prog Try.f10 Rows.indexFindsRow.domain false) (Rows.indexFindsSpec.post enc Try.prog Try.f10 false true false false) := by
  refine returnsInHanded_of_change_sized (C := Try.checked) own started (by kernel_rfl) Try.func10
    (ChangeSpec.witness6 (enc := enc) (C := Try.checked) false ⟨#[], #[.slice none 0 0, .slice none 0 0, .int .i64 0, .int .i64 0], []⟩ 8 (by kernel_rfl) (by kernel_rfl) (by kernel_rfl) (by kernel_rfl)) ?_
  intro W base args ds gs before hval0 hW hcnd hsz0 _
  have hval : ∀ (j : Nat) t v, Try.f10.params[j]? = some t → args[j]? = some v → Value.okWide Try.prog W .any base t v := hval0
  have hW' := hW
  obtain ⟨p, q, hA0, hV, rfl, hfz, hnd⟩ := hW
  have hA : DataW.TrodAll enc Try.prog W 0 (fun _ => true) true Try.f10.params.toList args.toList ds p := hA0
  rw [Try.params10] at hA hval
  obtain ⟨v0, vs0, d0, ds0, p0, q0, hargs, rfl, rfl, h0, r0⟩ := trodAll_cons hA
  obtain ⟨v1, vs1, d1, ds1, p1, q1, rfl, rfl, rfl, h1, r1⟩ := trodAll_cons r0
  obtain ⟨v2, vs2, d2, ds2, p2, q2, rfl, rfl, rfl, h2, r2⟩ := trodAll_cons r1
  obtain ⟨v3, vs3, d3, ds3, p3, q3, rfl, rfl, rfl, h3, r3⟩ := trodAll_cons r2
  obtain ⟨rfl, rfl, rfl⟩ := trodAll_nil r3
  obtain rfl : args = #[v0, v1, v2, v3] := by cases args; simp_all
  obtain ⟨rfl, rfl⟩ := trodVars_none hV
  have k0 := h0
  have lt0 : ∀ x ∈ p0, x.block < W.heap.size := by obtain ⟨m, hm⟩ := k0; exact DataW.trod_lt m _ _ _ hm
  obtain ⟨a0, len0, cap0, rfl⟩ := okWide_slice Try.underlying22 (hval 0 22 v0 rfl rfl)
  obtain ⟨l0, rfl, hl0, hC0, hg0⟩ := slice_arg (opRecs W) h0
  have k1 := h1
  have lt1 : ∀ x ∈ p1, x.block < W.heap.size := by obtain ⟨m, hm⟩ := k1; exact DataW.trod_lt m _ _ _ hm
  obtain ⟨a1, len1, cap1, rfl⟩ := okWide_slice Try.underlying55 (hval 1 55 v1 rfl rfl)
  obtain ⟨l1, rfl, hl1, hC1, hg1⟩ := slice_arg (opInts W) h1
  obtain ⟨a2, rfl, rfl, rfl, w2⟩ := open_int Try.underlying3 (hval 2 3 v2 rfl rfl) h2
  obtain ⟨a3, rfl, rfl, rfl, w3⟩ := open_int Try.underlying3 (hval 3 3 v3 rfl rfl) h3
  clear hA0 hval0
  obtain ⟨k, h⟩ := Pure.IndexFinds l0 hg0.1 l1 hg1.1 hg1.2 a2 w2 a3 w3
  refine (V.cooperagelaw9_IndexFinds.calls k a0 cap0 l0 a1 cap1 l1 a2 a3 true W hC0 hl0 hC1 hl1 h).mono fun e W' ⟨he, bel⟩ => ?_
  subst he
  exact ⟨_, rfl, _, _, _, [], _, [], hW', trodAll_mk1 (shut_bool Try.underlying4 _), (trodAll_cons_mk (Below.trod laidOut (by kernel_rfl) (of_decide_eq_true (by kernel_rfl)) k0 bel lt0) (trodAll_cons_mk (Below.trod laidOut (by kernel_rfl) (of_decide_eq_true (by kernel_rfl)) k1 bel lt1) (trodAll_cons_mk (shut_int Try.underlying3 w2) (trodAll_cons_mk (shut_int Try.underlying3 w3) trodAll_mk0)))), rfl, bel.frame _, fun h => by cases h⟩
theorem over : Rows.indexFindsRow.holds Try.pinned (OpenSpec.ofChange Rows.indexFindsSpec) :=
  OpenClaim.holds_of_wide 10 Try.f10 rfl rfl rfl rfl rfl rfl rfl ⟨rfl, rfl, rfl, rfl, rfl⟩ rfl rfl rfl rfl rfl (by kernel_rfl) Try.func10 (by kernel_rfl)
    (of_decide_eq_true (by kernel_rfl)) (by unfold Func.isWrapper; first | (rw [if_pos (by decide +kernel)]; kernel_rfl) | (rw [if_neg (by decide +kernel)]; exact ⟨rfl, rfl⟩))
    (fun os started H enc _ => lifted os started H enc)
theorem proved : Rows.IndexFindsSaid := over
#print axioms proved
end Go.Proofs.Ytphnolgneojdhaa.indexFinds
namespace Go.Proofs.Ytphnolgneojdhaa
/-- The row, under a short name, for the claim. -/
theorem indexFinds_holds : Rows.IndexFindsSaid := indexFinds.proved
end Go.Proofs.Ytphnolgneojdhaa

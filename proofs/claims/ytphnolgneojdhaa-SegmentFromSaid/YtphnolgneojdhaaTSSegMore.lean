/- Records that are the same; the example of the document; bytes that are whole. -/
import Derived.Test.YtphnolgneojdhaaTSScan
import Derived.Test.YtphnolgneojdhaaTSGoods
import Derived.Test.YtphnolgneojdhaaSx23
namespace Go.Proofs.Ytphnolgneojdhaa.TS
open Go.RowKit Go.Proofs.Ytphnolgneojdhaa.S Go.Proofs.YtphnolgneojdhaaW.PrintWords Go.Proofs.YtphnolgneojdhaaW.PrintLast Go.Proofs.YtphnolgneojdhaaW.PrintMore
set_option linter.unusedVariables false
set_option linter.unusedSimpArgs false

theorem same_rec_loop (l : List S34) (hl : l.length ≤ 1000000000) : ∀ (d i : Nat), i + d = l.length → Ev (fun k => cooperageref1_SameRecords.l0 k l l (i : Int)) true := by
  intro d
  induction d with
  | zero =>
    intro i hi
    refine Ev.step (fun k => by simp only [cooperageref1_SameRecords.l0]; rfl) ?_
    simp only [if_neg (show ¬ ((i : Int) < (l.length : Int)) by omega)]
    exact Ev.now _
  | succ d ih =>
    intro i hi
    have ew : wrap64 ((i : Int) + 1) = ((i + 1 : Nat) : Int) := w64n (by omega) (by omega)
    refine Ev.step (fun k => by simp only [cooperageref1_SameRecords.l0]; rfl) ?_
    simp only [if_pos (show ((i : Int) < (l.length : Int)) by clear ew; omega), if_pos (show ((0 : Int) ≤ (i : Int)) by clear ew; omega), beq_self_eq_true, Bool.not_true, Bool.or_self, Bool.false_eq_true, if_false, ew]
    exact ih (i + 1) (by clear ew; omega)
theorem same_rec_ev (l : List S34) (hl : l.length ≤ 1000000000) : Ev (fun k => cooperageref1_SameRecords.f k l l) true := by
  have h := same_rec_loop l hl l.length 0 (Nat.zero_add _)
  exact Ev.congr (fun k => by unfold cooperageref1_SameRecords.f; rw [if_pos rfl]; rfl) h
theorem segB_take_le (g : List S34) (j : Nat) : (segB (g.take j)).length ≤ (segB g).length := by
  conv => rhs; rw [← List.take_append_drop j g, segB_append, List.length_append]
  omega
theorem scan_full (g : List S34) (hr : ∀ x ∈ g, rightB (toR x) = true) (hp : g.Pairwise (fun x y => x.f0 < y.f0)) (hla : ∀ x ∈ g, -1 < x.f0) : scanF (segB g) = (g, ((segB g).length : Int)) := by
  obtain ⟨j, hj, hs, h1, h2⟩ := scan_torn g (segB g).length (segB g).length (-1) hr hp hla (Nat.le_refl _) (Nat.le_refl _)
  rw [List.take_of_length_le (Nat.le_refl _)] at hs
  have e : j = g.length := by
    rcases h2 with h | h
    · exact h
    · have := segB_take_le g (j + 1); omega
  subst e
  rw [List.take_of_length_le (Nat.le_refl _)] at hs
  exact hs
def sa : S34 := ⟨0, 0, ⟨#[97]⟩, ⟨#[]⟩, false⟩
def sb : S34 := ⟨1, 0, ⟨#[98]⟩, ⟨#[]⟩, false⟩
theorem salive_ev : Ev (fun k => cooperagelaw8_alive.f k) true := by
  have ha : rightB (toR sa) = true := by decide
  have hb : rightB (toR sb) = true := by decide
  have hr : ∀ x ∈ [sa, sb], rightB (toR x) = true := by
    intro x hx
    rcases List.mem_cons.1 hx with rfl | hx
    · exact ha
    · rw [List.mem_singleton.1 hx]; exact hb
  have hf := scan_full [sa, sb] hr (by simp [sa, sb]) (by
    intro x hx
    rcases List.mem_cons.1 hx with rfl | hx
    · decide
    · rw [List.mem_singleton.1 hx]; decide)
  have hlen := segB_len [sa, sb]
  have hpos := segB_right [sa, sb] hr
  simp only [List.length_cons, List.length_nil] at hlen hpos
  have hs := scan_ev (segB [sa, sb]) (segB_bytes _) (by omega)
  rw [hf] at hs
  unfold cooperagelaw8_alive.f
  simp only [Option.bind_some]
  refine Ev.bind (sbytes_ev [sa, sb] (by simp)) ?_
  refine Ev.bind hs ?_
  simp only [if_pos (show ((segB [sa, sb]).length : Int) > 0 by omega), if_true]
  refine Ev.bind (same_rec_ev [sa, sb] (by simp)) ?_
  exact Ev.now _
end Go.Proofs.Ytphnolgneojdhaa.TS

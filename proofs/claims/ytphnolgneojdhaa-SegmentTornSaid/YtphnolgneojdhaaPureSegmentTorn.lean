/- The statement on segments that were torn anywhere: the first records are read, as they were, and no whole one is left out. -/
import Derived.Test.YtphnolgneojdhaaTSSegMore
import Derived.Test.YtphnolgneojdhaaSx25
namespace Go.Proofs.Ytphnolgneojdhaa.Pure
open Go.RowKit Go.Proofs.Ytphnolgneojdhaa.S Go.Proofs.YtphnolgneojdhaaW.PrintWords Go.Proofs.YtphnolgneojdhaaW.PrintLast Go.Proofs.YtphnolgneojdhaaW.PrintMore Go.Proofs.Ytphnolgneojdhaa.TS
set_option linter.unusedVariables false
set_option linter.unusedSimpArgs false

theorem torn_end (l g : List S34) (n : Nat) (hr : ∀ x ∈ g, rightB (toR x) = true) (hp : g.Pairwise (fun x y => x.f0 < y.f0)) (hla : ∀ x ∈ g, -1 < x.f0) (hlen : g.length ≤ 60) : Ev (fun k => cooperagelaw8_SegmentTorn.l0 k l (n : Int) g (l.length : Int)) true := by
  have hbl := segB_len g
  have hmod : n % ((segB g).length + 1) < (segB g).length + 1 := Nat.mod_lt _ (by omega)
  have e1 : wrap64 (((segB g).length : Int) + 1) = (((segB g).length + 1 : Nat) : Int) := w64n (by omega) (by omega)
  have e2 : Int.tmod (n : Int) (((segB g).length + 1 : Nat) : Int) = ((n % ((segB g).length + 1) : Nat) : Int) := by rw [Int.ofNat_tmod]
  refine Ev.step (fun k => by simp only [cooperagelaw8_SegmentTorn.l0]; rfl) ?_
  simp only [if_neg (show ¬ ((l.length : Int) < (l.length : Int)) by clear e1 e2; omega)]
  refine Ev.bind (rsbytes_ev g (by clear e1 e2; omega)) ?_
  simp only [e1, e2]
  generalize n % ((segB g).length + 1) = m at *
  clear e1 e2
  have hml : m ≤ (segB g).length := by omega
  obtain ⟨j, hj, hs, h1, h2⟩ := scan_torn g m m (-1) hr hp hla hml (Nat.le_refl _)
  have htl : ((segB g).take m).length = m := by rw [List.length_take]; omega
  have hsc := scan_ev ((segB g).take m) ((segB_bytes g).take _) (by omega)
  unfold scanF at hsc
  rw [htl, hs] at hsc
  simp only [if_neg (show ¬ ((((segB g).length + 1 : Nat) : Int) = 0) by omega), if_pos (show (0 : Int) ≤ (m : Int) by omega), if_pos (show (m : Int) ≤ ((segB g).length : Int) by omega), Int.toNat_natCast]
  refine Ev.bind hsc ?_
  have hjl : (g.take j).length = j := by rw [List.length_take]; omega
  simp only [if_neg (show ¬ (((segB (g.take j)).length : Int) > (m : Int)) by omega), hjl, if_neg (show ¬ ((j : Int) > (g.length : Int)) by omega), if_pos (show (0 : Int) ≤ (j : Int) by omega), if_pos (show (j : Int) ≤ (g.length : Int) by omega), Int.toNat_natCast]
  refine Ev.bind (same_rec_ev (g.take j) (by omega)) ?_
  simp only [if_true]
  refine Ev.bind (rsbytes_ev (g.take j) (by omega)) ?_
  simp only [if_true]
  by_cases c : j = g.length
  · simp only [if_pos (show (j : Int) = (g.length : Int) by omega)]
    exact Ev.now _
  · have h3 : m < (segB (g.take (j + 1))).length := by
      rcases h2 with h | h
      · exact absurd h c
      · exact h
    have e3 : wrap64 ((j : Int) + 1) = ((j + 1 : Nat) : Int) := w64n (by omega) (by omega)
    simp only [if_neg (show ¬ ((j : Int) = (g.length : Int)) by clear e3; omega), e3, if_pos (show (0 : Int) ≤ ((j + 1 : Nat) : Int) by clear e3; omega), if_pos (show ((j + 1 : Nat) : Int) ≤ (g.length : Int) by clear e3; omega), Int.toNat_natCast]
    refine Ev.bind (rsbytes_ev (g.take (j + 1)) (by rw [List.length_take]; clear e3; omega)) ?_
    rw [decide_eq_true (show (m : Int) < ((segB (g.take (j + 1))).length : Int) by clear e3; omega)]
    exact Ev.now _
theorem torn_loop (l : List S34) (n : Nat) (hlen : l.length ≤ 60) :
    ∀ (d i : Nat) (acc : List S34), i + d = l.length → acc.length ≤ i → (∀ x ∈ acc, rightB (toR x) = true) → acc.Pairwise (fun x y => x.f0 < y.f0) → (∀ x ∈ acc, -1 < x.f0 ∧ x.f0 < (i : Int)) → Ev (fun k => cooperagelaw8_SegmentTorn.l0 k l (n : Int) acc (i : Int)) true := by
  intro d
  induction d with
  | zero =>
    intro i acc hi ha hr hp hla
    have e : i = l.length := by omega
    subst e
    exact torn_end l acc n hr hp (fun x hx => (hla x hx).1) (by omega)
  | succ d ih =>
    intro i acc hi ha hr hp hla
    have hlt : i < l.length := by omega
    refine Ev.step (fun k => by simp only [cooperagelaw8_SegmentTorn.l0]; rfl) ?_
    have ew : wrap64 ((i : Int) + 1) = ((i + 1 : Nat) : Int) := w64n (by omega) (by omega)
    have h1 := rright_some (toR (off l[i] i))
    simp only [toR, off] at h1
    simp only [if_pos (show ((i : Int) < (l.length : Int)) by clear ew; omega), if_pos (show ((0 : Int) ≤ (i : Int)) by clear ew; omega), rdT_get hlt, h1, Option.bind_some, ew, if_pos (show acc.length < 2513169434916 by clear ew; omega)]
    clear ew
    by_cases c : rightB (toR (off l[i] i)) = true
    · have hnext := ih (i + 1) (acc ++ [off l[i] i]) (by omega) (by rw [List.length_append]; simp only [List.length_cons, List.length_nil]; omega) (by
        intro x hx
        rcases List.mem_append.1 hx with hx | hx
        · exact hr x hx
        · rw [List.mem_singleton.1 hx]; exact c) (by
        rw [List.pairwise_append]
        refine ⟨hp, by simp, fun x hx y hy => ?_⟩
        rw [List.mem_singleton.1 hy]
        exact (hla x hx).2) (by
        intro x hx
        rcases List.mem_append.1 hx with hx | hx
        · have := hla x hx; omega
        · rw [List.mem_singleton.1 hx]; simp only [off]; omega)
      simp only [toR, off] at c
      simp only [if_pos c]
      exact hnext
    · have hnext := ih (i + 1) acc (by omega) (by omega) hr hp (fun x hx => by have := hla x hx; omega)
      simp only [toR, off] at c
      simp only [if_neg c]
      exact hnext
theorem SegmentTorn (l : List S34) (hl : l.length ≤ maxLen) (n : Int) (hn : (Lit.int .i64 n).wf = true) : ∃ k, cooperagelaw8_SegmentTorn.f k l n = some true := by
  apply Ev.rounds (g := fun k => cooperagelaw8_SegmentTorn.f k l n)
  unfold cooperagelaw8_SegmentTorn.f
  refine Ev.bind salive_ev ?_
  have out : Ev (fun k => cooperagelaw8_SegmentTorn.j0 k l n true true) true :=
    Ev.step (fun k => by simp only [cooperagelaw8_SegmentTorn.j0, if_true]) (Ev.now _)
  rcases big_ev l hl with h | ⟨h, h60, hs⟩
  · refine Ev.bind h ?_
    simp only [if_true]
    exact out
  · refine Ev.bind h ?_
    simp only [if_true, Bool.false_eq_true, if_false]
    by_cases c1 : n < 0
    · rw [decide_eq_true c1]; exact out
    rw [decide_eq_false c1]
    refine Ev.step (fun k => by simp only [cooperagelaw8_SegmentTorn.j0]; rfl) ?_
    simp only [Bool.false_eq_true, if_false]
    obtain ⟨m, rfl⟩ : ∃ m : Nat, n = (m : Int) := ⟨n.toNat, by omega⟩
    exact torn_loop l m h60 l.length 0 [] (Nat.zero_add _) (by simp) (by simp) List.Pairwise.nil (by simp)
end Go.Proofs.Ytphnolgneojdhaa.Pure

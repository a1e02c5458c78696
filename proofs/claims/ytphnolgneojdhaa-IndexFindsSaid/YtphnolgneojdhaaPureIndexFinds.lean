/- The statement on finding with marks: with the marks of Make, however few, the first record of an offset, and of a time, is found as it is without. -/
import Derived.Test.YtphnolgneojdhaaTVMarks
import Derived.Test.YtphnolgneojdhaaTVSeg
import Derived.Test.YtphnolgneojdhaaVx15
namespace Go.Proofs.Ytphnolgneojdhaa.Pure
open Go.RowKit Go.Proofs.Ytphnolgneojdhaa.V Go.Proofs.YtphnolgneojdhaaW.PrintWords Go.Proofs.YtphnolgneojdhaaW.PrintLast Go.Proofs.YtphnolgneojdhaaW.PrintMore Go.Proofs.Ytphnolgneojdhaa.TV
set_option linter.unusedVariables false
set_option linter.unusedSimpArgs false

theorem and7_in (z : Int) : 0 ≤ Go.bits .and .i64 z 7 ∧ Go.bits .and .i64 z 7 ≤ 7 := by
  have hle : (BitVec.ofInt 64 z &&& 7#64).toNat ≤ 7 := by rw [BitVec.toNat_and]; exact Nat.le_trans Nat.and_le_right (by decide)
  have e : Go.bits .and .i64 z 7 = IntKind.i64.wrap (((BitVec.ofInt 64 z &&& BitVec.ofInt 64 7).toNat : Nat) : Int) := rfl
  rw [e, show BitVec.ofInt 64 7 = 7#64 from by decide]
  generalize (BitVec.ofInt 64 z &&& 7#64).toNat = m at hle ⊢
  rw [wrap_i64 _ (by omega) (by omega)]
  omega
theorem first_is (q : S34 → Bool) : ∀ (l : List S34) (i : Nat) (h : i < l.length), (l.take i).any q = false → q l[i] = true → (firstFit q l).1 = l[i]
  | x :: l, 0, _, _, hq => by
    rw [List.getElem_cons_zero] at hq ⊢
    rw [firstFit, if_pos hq]
  | x :: l, i + 1, h, hn, hq => by
    rw [List.take_succ_cons, List.any_cons, Bool.or_eq_false_iff] at hn
    rw [List.getElem_cons_succ] at hq ⊢
    rw [firstFit, if_neg (by rw [hn.1]; decide)]
    exact first_is q l i (by simpa using h) hn.2 hq
theorem first_any (q : S34 → Bool) : ∀ (l : List S34), (firstFit q l).2 = l.any q
  | [] => rfl
  | x :: l => by
    rw [firstFit, List.any_cons]
    by_cases c : q x = true
    · rw [if_pos c, c]; rfl
    · rw [if_neg c, Bool.eq_false_iff.mpr c, first_any q l]; rfl
theorem any_take (q : S34 → Bool) (l : List S34) (i : Nat) (h : i < l.length) : (l.take (i + 1)).any q = ((l.take i).any q || q l[i]) := by
  rw [List.take_succ_eq_append_getElem h, List.any_append]; simp
theorem any_at (q : S34 → Bool) (l : List S34) (i : Nat) (h : i < l.length) (hq : q l[i] = true) : l.any q = true := List.any_eq_true.2 ⟨l[i], List.getElem_mem _, hq⟩
theorem finds_loop (n : Int) (g : List S34) (hl : g.length ≤ 60) (r s : S34) (hr : ∀ i (h : i < g.length), (g.take i).any (geO n) = false → geO n g[i] = true → r = g[i]) (hs : ∀ i (h : i < g.length), (g.take i).any (geT n) = false → geT n g[i] = true → s = g[i]) :
    ∀ (d i : Nat), i + d = g.length → Ev (fun k => cooperagelaw9_IndexFinds.l1 k n g (g.any (geO n)) (g.any (geT n)) (!(g.take i).any (geO n)) (!(g.take i).any (geT n)) (i : Int) r.f0 r.f1 r.f2 r.f3 r.f4 s.f0 s.f1 s.f2 s.f3 s.f4) true := by
  intro d
  induction d with
  | zero =>
    intro i hi
    refine Ev.step (fun k => by simp only [cooperagelaw9_IndexFinds.l1]; rfl) ?_
    simp only [if_neg (show ¬ ((i : Int) < (g.length : Int)) by omega)]
    rw [List.take_of_length_le (by omega), Bool.not_not, Bool.not_not]
    simp only [beq_self_eq_true, if_true]
    exact Ev.now _
  | succ d ih =>
    intro i hi
    have hlt : i < g.length := by omega
    have hn := ih (i + 1) (by omega)
    rw [any_take _ _ _ hlt, any_take _ _ _ hlt] at hn
    have hr' := hr i hlt
    have hs' := hs i hlt
    have ho := any_at (geO n) g i hlt
    have ht := any_at (geT n) g i hlt
    have ew : wrap64 ((i : Int) + 1) = ((i + 1 : Nat) : Int) := w64n (by omega) (by omega)
    have hi1 : (i : Int) < (g.length : Int) := by clear ew; omega
    have hi0 : (0 : Int) ≤ (i : Int) := by clear ew; omega
    generalize (g.take i).any (geO n) = A at *
    generalize (g.take i).any (geT n) = B at *
    have h5 : ∀ (x : Bool), x = (!B && geT n g[i]) → Ev (fun k => cooperagelaw9_IndexFinds.j5 k n g (g.any (geO n)) (g.any (geT n)) (!(A || geO n g[i])) (!B) (i : Int) x r.f0 r.f1 r.f2 r.f3 r.f4 s.f0 s.f1 s.f2 s.f3 s.f4) true := by
      intro x hx
      refine Ev.step (fun k => by simp only [cooperagelaw9_IndexFinds.j5]; rfl) ?_
      cases x with
      | true =>
        cases B with
        | true => simp at hx
        | false =>
          have hT : geT n g[i] = true := by simpa using hx.symm
          have hsi := hs' rfl hT
          have hfd := ht hT
          rw [hT] at hn
          simp only [Bool.or_true, Bool.not_true] at hn
          simp only [if_true, if_pos hi0, if_pos hi1, rdT_get hlt, hfd, ew]
          rw [hfd] at hn
          rw [hsi] at hn ⊢
          simp only [beq_self_eq_true, Bool.not_true, Bool.or_self, Bool.false_eq_true, if_false]
          exact hn
      | false =>
        simp only [Bool.false_eq_true, if_false, ew]
        have e : (B || geT n g[i]) = B := by
          cases hT : geT n g[i] with
          | false => exact Bool.or_false B
          | true =>
            rw [hT] at hx
            cases B with
            | false => exact absurd hx (by decide)
            | true => rfl
        rw [e] at hn
        exact hn
    have h4 : Ev (fun k => cooperagelaw9_IndexFinds.j4 k n g (g.any (geO n)) (g.any (geT n)) (!(A || geO n g[i])) (!B) (i : Int) r.f0 r.f1 r.f2 r.f3 r.f4 s.f0 s.f1 s.f2 s.f3 s.f4) true := by
      refine Ev.step (fun k => by simp only [cooperagelaw9_IndexFinds.j4]; rfl) ?_
      cases B with
      | true =>
        simp only [Bool.not_true, Bool.false_eq_true, if_false]
        exact h5 false rfl
      | false =>
        simp only [Bool.not_false, if_true, if_pos hi0, if_pos hi1, rdT_get hlt]
        exact h5 _ rfl
    refine Ev.step (fun k => by simp only [cooperagelaw9_IndexFinds.l1]; rfl) ?_
    simp only [if_pos hi1]
    cases A with
    | true =>
      simp only [Bool.not_true, Bool.false_eq_true, if_false]
      refine Ev.step (fun k => by simp only [cooperagelaw9_IndexFinds.j3]; rfl) ?_
      simp only [Bool.false_eq_true, if_false]
      simp only [Bool.true_or, Bool.not_true] at h4
      exact h4
    | false =>
      simp only [Bool.not_false, if_true, if_pos hi0, rdT_get hlt]
      refine Ev.step (fun k => by simp only [cooperagelaw9_IndexFinds.j3]; rfl) ?_
      by_cases c : g[i].f0 ≥ n
      · have hO : geO n g[i] = true := decide_eq_true c
        have hri := hr' rfl hO
        have hok := ho hO
        rw [hO] at h4
        simp only [Bool.or_true, Bool.not_true] at h4
        rw [decide_eq_true c]
        simp only [if_true, hok, if_pos hi0, if_pos hi1, rdT_get hlt]
        rw [hok] at h4
        rw [hri] at h4 ⊢
        simp only [beq_self_eq_true, Bool.not_true, Bool.or_self, Bool.false_eq_true, if_false]
        exact h4
      · have hO : geO n g[i] = false := decide_eq_false c
        rw [hO] at h4
        simp only [Bool.or_false, Bool.not_false] at h4
        rw [decide_eq_false c]
        simp only [Bool.false_eq_true, if_false]
        exact h4
theorem finds_make (l : List S34) (gaps : List Int) (hgl : l.length ≤ gaps.length) (e n : Int) (hlen : l.length ≤ 60) :
    ∀ (d i : Nat) (acc : List S34) (at_ : Int), i + d = l.length → acc.length ≤ i → 0 ≤ at_ → at_ ≤ 8 * (i : Int) → (∀ x ∈ acc, rightB (toR x) = true) → acc.Pairwise (fun x y => x.f0 < y.f0) → (∀ x ∈ acc, -1 < x.f0 ∧ x.f0 ≤ at_) →
    Ev (fun k => cooperagelaw9_IndexFinds.l0 k l gaps e n acc at_ (i : Int)) true := by
  intro d
  induction d with
  | zero =>
    intro i acc at_ hi ha h0 h8 hr hp hla
    refine Ev.step (fun k => by simp only [cooperagelaw9_IndexFinds.l0]; rfl) ?_
    simp only [if_neg (show ¬ ((i : Int) < (l.length : Int)) by omega)]
    have hbl := segB_len acc
    refine Ev.bind (rsbytes_ev acc (by omega)) ?_
    refine Ev.bind (make_ev acc e (by omega)) ?_
    refine Ev.bind (seekO_ev _ n (segB acc) (segB_bytes acc) (by omega)) ?_
    refine Ev.bind (seekT_ev _ n (segB acc) (segB_bytes acc) (by omega)) ?_
    have e1 := found_O acc e n hr hp (fun x hx => (hla x hx).1)
    have e2 := found_T acc e n hr hp (fun x hx => (hla x hx).1)
    simp only at e1 e2
    rw [e1, e2]
    simp only [tupF, first_any]
    have h := finds_loop n acc (by omega) (firstFit (geO n) acc).1 (firstFit (geT n) acc).1 (fun i h h1 h2 => first_is (geO n) acc i h h1 h2) (fun i h h1 h2 => first_is (geT n) acc i h h1 h2) acc.length 0 (Nat.zero_add _)
    exact h
  | succ d ih =>
    intro i acc at_ hi ha h0 h8 hr hp hla
    have hlt : i < l.length := by omega
    have hltg : i < gaps.length := by omega
    refine Ev.step (fun k => by simp only [cooperagelaw9_IndexFinds.l0]; rfl) ?_
    have hg := and7_in gaps[i]
    have ew : wrap64 ((i : Int) + 1) = ((i + 1 : Nat) : Int) := w64n (by omega) (by omega)
    have e1 : wrap64 (at_ + 1) = at_ + 1 := w64 (by clear ew; omega) (by clear ew; omega)
    simp only [if_pos (show ((i : Int) < (l.length : Int)) by clear ew e1; omega), if_pos (show ((0 : Int) ≤ (i : Int)) by clear ew e1; omega), if_pos (show ((i : Int) < (gaps.length : Int)) by clear ew e1; omega), rdT_get hlt, rd_get hltg, e1, ew]
    clear e1 ew
    generalize Go.bits .and .i64 gaps[i] 7 = b at hg ⊢
    have e2 : wrap64 (at_ + 1 + b) = at_ + 1 + b := w64 (by omega) (by omega)
    simp only [e2]
    clear e2
    have h1 := rright_some (toR ⟨at_ + 1 + b, l[i].f1, l[i].f2, l[i].f3, l[i].f4⟩)
    simp only [toR] at h1
    simp only [h1, Option.bind_some]
    by_cases c : rightB (toR ⟨at_ + 1 + b, l[i].f1, l[i].f2, l[i].f3, l[i].f4⟩) = true
    · have hnext := ih (i + 1) (acc ++ [⟨at_ + 1 + b, l[i].f1, l[i].f2, l[i].f3, l[i].f4⟩]) (at_ + 1 + b) (by omega) (by rw [List.length_append]; simp only [List.length_cons, List.length_nil]; omega) (by omega) (by omega) (by
        intro x hx
        rcases List.mem_append.1 hx with hx | hx
        · exact hr x hx
        · rw [List.mem_singleton.1 hx]; exact c) (by
        rw [List.pairwise_append]
        refine ⟨hp, by simp, fun x hx y hy => ?_⟩
        rw [List.mem_singleton.1 hy]
        have := (hla x hx).2
        simp only; omega) (by
        intro x hx
        rcases List.mem_append.1 hx with hx | hx
        · have := hla x hx; omega
        · rw [List.mem_singleton.1 hx]; simp only; omega)
      simp only [toR] at c
      simp only [if_pos c, if_pos (show acc.length < 2513169434916 by omega)]
      exact hnext
    · have hnext := ih (i + 1) acc (at_ + 1 + b) (by omega) (by omega) (by omega) (by omega) hr hp (fun x hx => by have := hla x hx; omega)
      simp only [toR] at c
      simp only [if_neg c]
      exact hnext
theorem IndexFinds (l : List S34) (hl : l.length ≤ maxLen) (gaps : List Int) (hgl : gaps.length ≤ maxLen) (hgw : ∀ x ∈ gaps, (Lit.int .i64 x).wf = true) (e : Int) (he : (Lit.int .i64 e).wf = true) (n : Int) (hn : (Lit.int .i64 n).wf = true) : ∃ k, cooperagelaw9_IndexFinds.f k l gaps e n = some true := by
  apply Ev.rounds (g := fun k => cooperagelaw9_IndexFinds.f k l gaps e n)
  unfold cooperagelaw9_IndexFinds.f
  refine Ev.bind ialive_ev ?_
  have out : Ev (fun k => cooperagelaw9_IndexFinds.j0 k l gaps e n true true) true :=
    Ev.step (fun k => by simp only [cooperagelaw9_IndexFinds.j0, if_true]) (Ev.now _)
  rcases big_ev l hl with h | ⟨h, h60, hs⟩
  · refine Ev.bind h ?_
    simp only [if_true]
    exact out
  · refine Ev.bind h ?_
    simp only [if_true, Bool.false_eq_true, if_false]
    by_cases c1 : (gaps.length : Int) < (l.length : Int)
    · rw [decide_eq_true c1]; exact out
    rw [decide_eq_false c1]
    refine Ev.step (fun k => by simp only [cooperagelaw9_IndexFinds.j0]; rfl) ?_
    simp only [Bool.false_eq_true, if_false]
    exact finds_make l gaps (by omega) e n h60 l.length 0 [] 0 (Nat.zero_add _) (by simp) (by omega) (by omega) (by simp) List.Pairwise.nil (by simp)
end Go.Proofs.Ytphnolgneojdhaa.Pure

/- The statement on reading from an offset on: however many at a time, one reads all, in order. -/
import Derived.Test.YtphnolgneojdhaaTSFrom
import Derived.Test.YtphnolgneojdhaaSx34
namespace Go.Proofs.Ytphnolgneojdhaa.Pure
open Go.RowKit Go.Proofs.Ytphnolgneojdhaa.S Go.Proofs.YtphnolgneojdhaaW.PrintWords Go.Proofs.YtphnolgneojdhaaW.PrintLast Go.Proofs.YtphnolgneojdhaaW.PrintMore Go.Proofs.Ytphnolgneojdhaa.TS
set_option linter.unusedVariables false
set_option linter.unusedSimpArgs false

/-- the records of a list from an offset on -/
def sel (a : Int) (l : List S34) : List S34 := l.filter fun x => decide (x.f0 ≥ a)
theorem sel_len (a : Int) (l : List S34) : (sel a l).length ≤ l.length := List.length_filter_le _ _
def thrice : Nat → List S34 → List S34
  | _, [] => []
  | i, x :: l => ⟨3 * (i : Int), x.f1, x.f2, x.f3, x.f4⟩ :: thrice (i + 1) l
theorem thrice_len : ∀ (l : List S34) (i : Nat), (thrice i l).length = l.length
  | [], _ => rfl
  | x :: l, i => by rw [thrice, List.length_cons, List.length_cons, thrice_len l (i + 1)]
theorem thrice_ge : ∀ (l : List S34) (i : Nat), ∀ x ∈ thrice i l, 3 * (i : Int) ≤ x.f0 ∧ x.f0 < 3 * ((i + l.length : Nat) : Int)
  | [], i => by simp [thrice]
  | x :: l, i => by
    intro y hy
    rw [thrice] at hy
    rcases List.mem_cons.1 hy with rfl | hy
    · simp only [List.length_cons]; omega
    · have := thrice_ge l (i + 1) y hy
      simp only [List.length_cons]; omega
theorem thrice_rise : ∀ (l : List S34) (i : Nat), (thrice i l).Pairwise (fun x y => x.f0 < y.f0)
  | [], i => by simp [thrice]
  | x :: l, i => by
    rw [thrice]
    refine List.pairwise_cons.2 ⟨fun y hy => ?_, thrice_rise l (i + 1)⟩
    have := thrice_ge l (i + 1) y hy
    simp only; omega
/-- behind the last of the first so many lies the rest -/
theorem sel_next (l : List S34) (hp : l.Pairwise (fun x y => x.f0 < y.f0)) (a : Int) (m : Nat) (z : S34) (hz : ((sel a l).take m)[((sel a l).take m).length - 1]? = some z) : sel (z.f0 + 1) l = (sel a l).drop m := by
  have hps : (sel a l).Pairwise (fun x y => x.f0 < y.f0) := hp.sublist List.filter_sublist
  have hall : ∀ x ∈ sel a l, x.f0 ≥ a := fun x hx => of_decide_eq_true (List.mem_filter.1 hx).2
  have hzm : z ∈ (sel a l).take m := List.mem_of_getElem? hz
  have hza := hall z (List.mem_of_mem_take hzm)
  have e1 : sel (z.f0 + 1) l = sel (z.f0 + 1) (sel a l) := by
    unfold sel
    rw [List.filter_filter]
    apply List.filter_congr
    intro x _
    by_cases c : x.f0 ≥ z.f0 + 1
    · rw [decide_eq_true c, decide_eq_true (show x.f0 ≥ a by omega)]; rfl
    · rw [decide_eq_false c]; rfl
  rw [e1]
  generalize sel a l = s at hz hps hzm ⊢
  have hcut : s.take m ++ s.drop m = s := List.take_append_drop m s
  rw [← hcut, List.pairwise_append] at hps
  obtain ⟨hp1, hp2, hp3⟩ := hps
  have e2 : (s.take m).filter (fun x => decide (x.f0 ≥ z.f0 + 1)) = [] := by
    rw [List.filter_eq_nil_iff]
    intro x hx
    have hle : x.f0 ≤ z.f0 := by
      obtain ⟨i, hi, rfl⟩ := List.getElem_of_mem hx
      obtain ⟨hj, rfl⟩ := List.getElem?_eq_some_iff.1 hz
      by_cases c : i = (s.take m).length - 1
      · subst c; exact Int.le_refl _
      · have := List.pairwise_iff_getElem.1 hp1 i ((s.take m).length - 1) hi hj (by omega)
        omega
    rw [decide_eq_false (show ¬ x.f0 ≥ z.f0 + 1 by omega)]; decide
  have e3 : (s.drop m).filter (fun x => decide (x.f0 ≥ z.f0 + 1)) = s.drop m := by
    rw [List.filter_eq_self]
    intro x hx
    have := hp3 z hzm x hx
    exact decide_eq_true (by omega)
  have e4 : sel (z.f0 + 1) (s.take m ++ s.drop m) = s.drop m := by
    unfold sel
    rw [List.filter_append, e2, e3, List.nil_append]
  rwa [hcut] at e4
theorem from_last (all : List S34) (a : Int) (hlen : all.length ≤ 60) : ∀ (d i : Nat) (acc : List S34) (got : List S34), i + d = all.length → acc.length ≤ i → got = acc ++ sel a (all.drop i) → Ev (fun k => cooperagelaw8_SegmentFrom.l2 k a all got acc (i : Int)) true := by
  intro d
  induction d with
  | zero =>
    intro i acc got hi ha hg
    refine Ev.step (fun k => by simp only [cooperagelaw8_SegmentFrom.l2]; rfl) ?_
    simp only [if_neg (show ¬ ((i : Int) < (all.length : Int)) by omega)]
    rw [List.drop_of_length_le (by omega)] at hg
    have : got = acc := by rw [hg]; simp [sel]
    subst this
    refine Ev.bind (same_rec_ev got (by omega)) ?_
    exact Ev.now _
  | succ d ih =>
    intro i acc got hi ha hg
    have hlt : i < all.length := by omega
    rw [List.drop_eq_getElem_cons hlt] at hg
    refine Ev.step (fun k => by simp only [cooperagelaw8_SegmentFrom.l2]; rfl) ?_
    have ew : wrap64 ((i : Int) + 1) = ((i + 1 : Nat) : Int) := w64n (by omega) (by omega)
    simp only [if_pos (show ((i : Int) < (all.length : Int)) by clear ew; omega), if_pos (show ((0 : Int) ≤ (i : Int)) by clear ew; omega), rdT_get hlt, ew]
    clear ew
    by_cases c1 : all[i].f0 ≥ a
    · simp only [if_pos c1, if_pos (show acc.length < 2513169434916 by omega)]
      refine ih (i + 1) (acc ++ [all[i]]) got (by omega) (by rw [List.length_append]; simp only [List.length_cons, List.length_nil]; omega) ?_
      rw [hg, List.append_assoc, sel, List.filter_cons_of_pos (by rw [decide_eq_true c1])]; rfl
    · simp only [if_neg c1]
      refine ih (i + 1) acc got (by omega) (by omega) ?_
      rw [hg, sel, List.filter_cons_of_neg (by rw [decide_eq_false c1]; decide)]; rfl
theorem from_turns (all : List S34) (a : Int) (m : Nat) (hm : 1 ≤ m) (hm2 : m ≤ 20) (hlen : all.length ≤ 60) (hp : all.Pairwise (fun x y => x.f0 < y.f0)) (hr : ∀ x ∈ all, 0 ≤ x.f0 ∧ x.f0 < 1000) :
    ∀ (d i : Nat) (got : List S34) (b : Int), i + d = all.length + 1 → i ≤ got.length → got ++ sel b all = sel a all → Ev (fun k => cooperagelaw8_SegmentFrom.l1 k a (m : Int) all got b (i : Int)) true := by
  have hend : Ev (fun k => cooperagelaw8_SegmentFrom.j3 k a all (sel a all)) true := by
    refine Ev.step (fun k => by simp only [cooperagelaw8_SegmentFrom.j3]; rfl) ?_
    exact from_last all a hlen all.length 0 [] _ (Nat.zero_add _) (by simp) (by simp)
  intro d
  induction d with
  | zero =>
    intro i got b hi hg he
    have h1 := congrArg List.length he
    have h2 := sel_len a all
    rw [List.length_append] at h1
    omega
  | succ d ih =>
    intro i got b hi hg he
    refine Ev.step (fun k => by simp only [cooperagelaw8_SegmentFrom.l1]; rfl) ?_
    simp only [if_pos (show ((i : Int) ≤ (all.length : Int)) by omega)]
    refine Ev.bind (from_ev all (by omega) b (m : Int)) ?_
    rw [fromL_take b m all 0, Nat.sub_zero]
    show Ev _ true
    have hfold : (all.filter fun x => decide (x.f0 ≥ b)) = sel b all := rfl
    simp only [hfold]
    have hl1 : ((sel b all).take m).length ≤ m := by rw [List.length_take]; omega
    have hl2 := sel_len b all
    have hl3 : ((sel b all).take m).length ≤ (sel b all).length := by rw [List.length_take]; omega
    have h1 := congrArg List.length he
    have h2 := sel_len a all
    rw [List.length_append] at h1
    simp only [if_neg (show ¬ ((((sel b all).take m).length : Int) > (m : Int)) by omega)]
    by_cases c0 : ((sel b all).take m).length = 0
    · simp only [if_pos (show (((sel b all).take m).length : Int) = 0 by omega)]
      have : sel b all = [] := by
        rw [List.length_take] at c0
        exact List.eq_nil_of_length_eq_zero (by omega)
      rw [this, List.append_nil] at he
      rw [he]
      exact hend
    · obtain ⟨z, hzg⟩ : ∃ z, ((sel b all).take m)[((sel b all).take m).length - 1]? = some z := ⟨_, List.getElem?_eq_getElem (by omega)⟩
      have hnx := sel_next all hp b m z hzg
      have hmem : z ∈ all := (List.mem_filter.1 (List.mem_of_mem_take (List.mem_of_getElem? hzg))).1
      have hz := hr z hmem
      have htd := List.take_append_drop m (sel b all)
      generalize (sel b all).take m = p at *
      obtain ⟨hlt, hzz⟩ := List.getElem?_eq_some_iff.1 hzg
      clear hzg hmem hfold
      have e1 : wrap64 ((p.length : Int) - 1) = ((p.length - 1 : Nat) : Int) := w64n (by omega) (by omega)
      have e2 : wrap64 ((i : Int) + 1) = ((i + 1 : Nat) : Int) := w64n (by clear e1; omega) (by clear e1; omega)
      have e3 : wrap64 (z.f0 + 1) = z.f0 + 1 := w64 (by clear e1 e2; omega) (by clear e1 e2; omega)
      simp only [if_neg (show ¬ ((p.length : Int) = 0) by clear e1 e2 e3; omega), if_pos (show got.length + p.length < 2513169434916 by clear e1 e2 e3; omega), e1, if_pos (show (0 : Int) ≤ ((p.length - 1 : Nat) : Int) by clear e1 e2 e3; omega), if_pos (show ((p.length - 1 : Nat) : Int) < (p.length : Int) by clear e1 e2 e3; omega), rdT_get hlt, hzz, e2, e3]
      clear e1 e2 e3
      refine ih (i + 1) (got ++ p) _ (by omega) (by rw [List.length_append]; omega) ?_
      rw [hnx, List.append_assoc, htd]
      exact he
theorem from_make (l : List S34) (a : Int) (m : Nat) (hm : 1 ≤ m) (hm2 : m ≤ 20) (hlen : l.length ≤ 60) :
    ∀ (d i : Nat) (acc : List S34), i + d = l.length → acc.length = i → acc ++ thrice i (l.drop i) = thrice 0 l → Ev (fun k => cooperagelaw8_SegmentFrom.l0 k l a (m : Int) acc (i : Int)) true := by
  intro d
  induction d with
  | zero =>
    intro i acc hi ha he
    refine Ev.step (fun k => by simp only [cooperagelaw8_SegmentFrom.l0]; rfl) ?_
    simp only [if_neg (show ¬ ((i : Int) < (l.length : Int)) by omega)]
    rw [List.drop_of_length_le (by omega), thrice, List.append_nil] at he
    rw [he]
    have hl := thrice_len l 0
    refine from_turns (thrice 0 l) a m hm hm2 (by omega) (thrice_rise l 0) (fun x hx => ?_) ((thrice 0 l).length + 1) 0 [] a (by omega) (by simp) (by simp)
    have := thrice_ge l 0 x hx
    omega
  | succ d ih =>
    intro i acc hi ha he
    have hlt : i < l.length := by omega
    rw [List.drop_eq_getElem_cons hlt, thrice] at he
    refine Ev.step (fun k => by simp only [cooperagelaw8_SegmentFrom.l0]; rfl) ?_
    have ew : wrap64 ((i : Int) + 1) = ((i + 1 : Nat) : Int) := w64n (by omega) (by omega)
    have e3 : wrap64 (3 * (i : Int)) = 3 * (i : Int) := w64 (by clear ew; omega) (by clear ew; omega)
    simp only [if_pos (show ((i : Int) < (l.length : Int)) by clear ew e3; omega), if_pos (show ((0 : Int) ≤ (i : Int)) by clear ew e3; omega), if_pos (show acc.length < 2513169434916 by clear ew e3; omega), rdT_get hlt, ew, e3]
    clear ew e3
    refine ih (i + 1) _ (by omega) (by rw [List.length_append]; simp only [List.length_cons, List.length_nil]; omega) ?_
    rw [List.append_assoc]
    exact he
theorem SegmentFrom (l : List S34) (hl : l.length ≤ maxLen) (a : Int) (ha : (Lit.int .i64 a).wf = true) (m : Int) (hm : (Lit.int .i64 m).wf = true) : ∃ k, cooperagelaw8_SegmentFrom.f k l a m = some true := by
  apply Ev.rounds (g := fun k => cooperagelaw8_SegmentFrom.f k l a m)
  unfold cooperagelaw8_SegmentFrom.f
  refine Ev.bind salive_ev ?_
  have out : Ev (fun k => cooperagelaw8_SegmentFrom.j0 k l a m true true) true :=
    Ev.step (fun k => by simp only [cooperagelaw8_SegmentFrom.j0, if_true]) (Ev.now _)
  rcases big_ev l hl with h | ⟨h, h60, hs⟩
  · refine Ev.bind h ?_
    simp only [if_true]
    exact out
  · refine Ev.bind h ?_
    simp only [if_true, Bool.false_eq_true, if_false]
    by_cases c1 : m < 1
    · simp only [if_pos c1]; exact out
    simp only [if_neg c1]
    by_cases c2 : m > 20
    · rw [decide_eq_true c2]; exact out
    rw [decide_eq_false c2]
    refine Ev.step (fun k => by simp only [cooperagelaw8_SegmentFrom.j0]; rfl) ?_
    simp only [Bool.false_eq_true, if_false]
    obtain ⟨n, rfl⟩ : ∃ n : Nat, m = (n : Int) := ⟨m.toNat, by omega⟩
    exact from_make l a n (by omega) (by omega) h60 l.length 0 [] (Nat.zero_add _) rfl (by simp)
end Go.Proofs.Ytphnolgneojdhaa.Pure

/- The plain law of From: of records those from an offset on, so many at most. -/
import Derived.Test.YtphnolgneojdhaaTSSegMore
import Derived.Test.YtphnolgneojdhaaSx32
namespace Go.Proofs.Ytphnolgneojdhaa.TS
open Go.RowKit Go.Proofs.Ytphnolgneojdhaa.S Go.Proofs.YtphnolgneojdhaaW.PrintWords Go.Proofs.YtphnolgneojdhaaW.PrintLast Go.Proofs.YtphnolgneojdhaaW.PrintMore
set_option linter.unusedVariables false
set_option linter.unusedSimpArgs false

def fromL (a m : Int) : List S34 → Nat → List S34
  | [], _ => []
  | x :: l, n => if x.f0 ≥ a ∧ (n : Int) < m then x :: fromL a m l (n + 1) else fromL a m l n
theorem fromL_full (a m : Int) : ∀ (l : List S34) (n : Nat), ¬ (n : Int) < m → fromL a m l n = []
  | [], _, _ => rfl
  | x :: l, n, h => by rw [fromL, if_neg (fun c => h c.2)]; exact fromL_full a m l n h
theorem from_loop (l : List S34) (hl : l.length ≤ 1000000) (a m : Int) : ∀ (d i : Nat) (acc : List S34), i + d = l.length → acc.length ≤ i → Ev (fun k => segment_From.l0 k a m acc l (l.length : Int) (i : Int)) (acc ++ fromL a m (l.drop i) acc.length) := by
  intro d
  induction d with
  | zero =>
    intro i acc hi ha
    refine Ev.step (fun k => by simp only [segment_From.l0]; rfl) ?_
    simp only [if_neg (show ¬ ((i : Int) < (l.length : Int)) by omega)]
    rw [List.drop_of_length_le (by omega), fromL, List.append_nil]
    exact Ev.now _
  | succ d ih =>
    intro i acc hi ha
    have hlt : i < l.length := by omega
    rw [List.drop_eq_getElem_cons hlt]
    refine Ev.step (fun k => by simp only [segment_From.l0]; rfl) ?_
    have ew : wrap64 ((i : Int) + 1) = ((i + 1 : Nat) : Int) := w64n (by omega) (by omega)
    simp only [if_pos (show ((i : Int) < (l.length : Int)) by clear ew; omega), if_pos (show ((0 : Int) ≤ (i : Int)) by clear ew; omega), rdT_get hlt, ew]
    clear ew
    by_cases c1 : l[i].f0 ≥ a
    · simp only [if_pos c1]
      by_cases c2 : (acc.length : Int) < m
      · simp only [if_pos c2, if_pos (show acc.length < 2513169434916 by omega)]
        have h := ih (i + 1) (acc ++ [l[i]]) (by omega) (by rw [List.length_append]; simp only [List.length_cons, List.length_nil]; omega)
        rw [fromL, if_pos ⟨c1, c2⟩]
        rw [List.append_assoc, List.length_append] at h
        exact h
      · simp only [if_neg c2]
        rw [fromL, if_neg (fun c => c2 c.2)]
        exact ih (i + 1) acc (by omega) (by omega)
    · simp only [if_neg c1]
      rw [fromL, if_neg (fun c => c1 c.1)]
      exact ih (i + 1) acc (by omega) (by omega)
theorem from_ev (l : List S34) (hl : l.length ≤ 1000000) (a m : Int) : Ev (fun k => segment_From.f k l a m) (fromL a m l 0) := by
  have h := from_loop l hl a m l.length 0 [] (Nat.zero_add _) (by simp)
  exact Ev.congr (fun k => by unfold segment_From.f; rfl) h
theorem rfrom_loop (l : List S34) (hl : l.length ≤ 1000000) (a m : Int) : ∀ (d i : Nat) (acc : List S34), i + d = l.length → acc.length ≤ i → Ev (fun k => cooperageref1_From.l0 k l a m acc (i : Int)) (acc ++ fromL a m (l.drop i) acc.length) := by
  intro d
  induction d with
  | zero =>
    intro i acc hi ha
    refine Ev.step (fun k => by simp only [cooperageref1_From.l0]; rfl) ?_
    simp only [if_neg (show ¬ ((i : Int) < (l.length : Int)) by omega)]
    refine Ev.step (fun k => by simp only [cooperageref1_From.j1]; rfl) ?_
    rw [List.drop_of_length_le (by omega), fromL, List.append_nil]
    simp only [Bool.false_eq_true, if_false]
    exact Ev.now _
  | succ d ih =>
    intro i acc hi ha
    have hlt : i < l.length := by omega
    refine Ev.step (fun k => by simp only [cooperageref1_From.l0]; rfl) ?_
    have ew : wrap64 ((i : Int) + 1) = ((i + 1 : Nat) : Int) := w64n (by omega) (by omega)
    simp only [if_pos (show ((i : Int) < (l.length : Int)) by clear ew; omega)]
    by_cases c2 : (acc.length : Int) < m
    · rw [decide_eq_true c2, List.drop_eq_getElem_cons hlt]
      refine Ev.step (fun k => by simp only [cooperageref1_From.j1]; rfl) ?_
      simp only [if_true, if_pos (show ((i : Int) < (l.length : Int)) by clear ew; omega), if_pos (show ((0 : Int) ≤ (i : Int)) by clear ew; omega), rdT_get hlt, ew]
      clear ew
      by_cases c1 : l[i].f0 ≥ a
      · simp only [if_pos c1, if_pos (show acc.length < 2513169434916 by omega)]
        have h := ih (i + 1) (acc ++ [l[i]]) (by omega) (by rw [List.length_append]; simp only [List.length_cons, List.length_nil]; omega)
        rw [fromL, if_pos ⟨c1, c2⟩]
        rw [List.append_assoc, List.length_append] at h
        exact h
      · simp only [if_neg c1]
        rw [fromL, if_neg (fun c => c1 c.1)]
        exact ih (i + 1) acc (by omega) (by omega)
    · clear ew
      rw [decide_eq_false c2, fromL_full a m _ _ c2, List.append_nil]
      refine Ev.step (fun k => by simp only [cooperageref1_From.j1]; rfl) ?_
      simp only [Bool.false_eq_true, if_false]
      exact Ev.now _
theorem rfrom_ev (l : List S34) (hl : l.length ≤ 1000000) (a m : Int) : Ev (fun k => cooperageref1_From.f k l a m) (fromL a m l 0) := by
  have h := rfrom_loop l hl a m l.length 0 [] (Nat.zero_add _) (by simp)
  exact Ev.congr (fun k => by unfold cooperageref1_From.f; rfl) h
theorem fromL_len (a m : Int) : ∀ (l : List S34) (n : Nat), (fromL a m l n).length ≤ l.length
  | [], _ => Nat.le_refl _
  | x :: l, n => by
    unfold fromL
    split
    · rw [List.length_cons, List.length_cons]; exact Nat.succ_le_succ (fromL_len a m l (n + 1))
    · rw [List.length_cons]; exact Nat.le_succ_of_le (fromL_len a m l n)
theorem fromL_take (a : Int) (m : Nat) : ∀ (l : List S34) (n : Nat), fromL a (m : Int) l n = (l.filter fun x => decide (x.f0 ≥ a)).take (m - n)
  | [], n => by simp [fromL]
  | x :: l, n => by
    unfold fromL
    by_cases c1 : x.f0 ≥ a
    · rw [List.filter_cons_of_pos (by rw [decide_eq_true c1])]
      by_cases c2 : n < m
      · rw [if_pos ⟨c1, by omega⟩, fromL_take a m l (n + 1), show m - n = (m - (n + 1)) + 1 by omega, List.take_succ_cons]
      · rw [if_neg (fun c => by have := c.2; omega), fromL_full _ _ _ _ (by omega), show m - n = 0 by omega, List.take_zero]
    · rw [if_neg (fun c => c1 c.1), List.filter_cons_of_neg (by rw [decide_eq_false c1]; decide), fromL_take a m l n]
end Go.Proofs.Ytphnolgneojdhaa.TS

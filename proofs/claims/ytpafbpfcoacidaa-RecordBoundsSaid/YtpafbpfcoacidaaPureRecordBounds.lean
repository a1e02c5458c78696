/- The statement on the ends of what may be: Right and Size answer as the lengths and the numbers say. -/
import Derived.Test.YtpafbpfcoacidaaTRRecordText
import Derived.Test.YtpafbpfcoacidaaTRRecordMore
import Derived.Test.YtpafbpfcoacidaaRx6
namespace Go.Proofs.Ytpafbpfcoacidaa.Pure
open Go.RowKit Go.Proofs.Ytpafbpfcoacidaa.R Go.Proofs.YtpafbpfcoacidaaW.PrintWords Go.Proofs.YtpafbpfcoacidaaW.PrintLast Go.Proofs.YtpafbpfcoacidaaW.PrintMore Go.Proofs.Ytpafbpfcoacidaa.TR

/-- what the last steps come to, of a record that may be or may not -/
theorem bounds_end (o t : Int) (key val : ByteArray) (d b : Bool) (h : rightB ⟨o, t, key, val, d⟩ = b) :
    Ev (fun k => (record_Right.f o t key val d).bind fun t1 => if (t1 == b) = true then (record_Size.f k o t key val d).bind fun t2 => some ((decide (t2 > 0)) == b) else some false) true := by
  have hr := right_some ⟨o, t, key, val, d⟩
  simp only at hr
  rw [hr, h]
  simp only [Option.bind_some, beq_self_eq_true, if_true]
  have hs := size_ev ⟨o, t, key, val, d⟩
  simp only at hs
  refine Ev.bind hs ?_
  unfold putBytes
  cases b with
  | true =>
    rw [if_pos h]
    have := (recBytes_le h).2
    rw [decide_eq_true (show (((recBytes ⟨o, t, key, val, d⟩).length : Int) > 0) by omega)]
    exact Ev.now _
  | false =>
    rw [if_neg (by rw [h]; decide)]
    exact Ev.now _
theorem right_of {o t : Int} {key val : ByteArray} {d p : Bool} (q : Bool) (hp : p = true ↔ (1 ≤ key.size ∧ key.size ≤ 200 ∧ val.size ≤ 2000 ∧ (d = true → val.size = 0))) (hq : q = true ↔ (0 ≤ o ∧ o ≤ 1125899906842624 ∧ -1099511627776 ≤ t ∧ t ≤ 1099511627776)) : rightB ⟨o, t, key, val, d⟩ = (p && q) := by
  rw [Bool.eq_iff_iff, rightB_iff, Bool.and_eq_true, hp, hq]
  constructor
  · rintro ⟨a1, a2, a3, a4, a5, a6, a7, a8⟩; exact ⟨⟨a5, a6, a7, a8⟩, a1, a2, a3, a4⟩
  · rintro ⟨⟨a5, a6, a7, a8⟩, a1, a2, a3, a4⟩; exact ⟨a1, a2, a3, a4, a5, a6, a7, a8⟩
set_option maxHeartbeats 4000000 in
theorem bounds_mid (w : Int) (key val : ByteArray) (d p : Bool) (hp : p = true ↔ (1 ≤ key.size ∧ key.size ≤ 200 ∧ val.size ≤ 2000 ∧ (d = true → val.size = 0))) : Ev (fun k => cooperagelaw4_RecordBounds.j1 k w p 0 0 key val d) true := by
  refine Ev.step (fun k => by simp only [cooperagelaw4_RecordBounds.j1]; rfl) ?_
  simp only [Option.bind_some]
  by_cases c1 : w < 0
  · simp only [if_pos c1]
    exact Ev.step (fun k => by simp only [cooperagelaw4_RecordBounds.j2, if_true]) (Ev.now _)
  simp only [if_neg c1]
  by_cases c2 : w ≥ 8
  · rw [decide_eq_true (show w ≥ (([0, 1125899906842624, 1125899906842625, (-1), 5, 5, 5, 5] : List Int).length : Int) from c2)]
    exact Ev.step (fun k => by simp only [cooperagelaw4_RecordBounds.j2, if_true]) (Ev.now _)
  rw [decide_eq_false (show ¬ w ≥ (([0, 1125899906842624, 1125899906842625, (-1), 5, 5, 5, 5] : List Int).length : Int) from c2)]
  refine Ev.step (fun k => by simp only [cooperagelaw4_RecordBounds.j2]; rfl) ?_
  simp only [Bool.false_eq_true, if_false, if_pos (show 0 ≤ w by omega)]
  simp only [if_pos (show w < (([0, 1125899906842624, 1125899906842625, (-1), 5, 5, 5, 5] : List Int).length : Int) from by simp only [List.length_cons, List.length_nil]; omega), if_pos (show w < (([0, 0, 0, 0, 1099511627776, 1099511627777, (-1099511627776), (-1099511627777)] : List Int).length : Int) from by simp only [List.length_cons, List.length_nil]; omega)]
  have hw : w = 0 ∨ w = 1 ∨ w = 2 ∨ w = 3 ∨ w = 4 ∨ w = 5 ∨ w = 6 ∨ w = 7 := by omega
  cases p with
  | false =>
    simp only [Bool.false_eq_true, if_false]
    exact bounds_end _ _ _ _ _ _ (by rw [right_of (p := false) (decide (0 ≤ rd [0, 1125899906842624, 1125899906842625, -1, 5, 5, 5, 5] w ∧ rd [0, 1125899906842624, 1125899906842625, -1, 5, 5, 5, 5] w ≤ 1125899906842624 ∧ -1099511627776 ≤ rd [0, 0, 0, 0, 1099511627776, 1099511627777, -1099511627776, -1099511627777] w ∧ rd [0, 0, 0, 0, 1099511627776, 1099511627777, -1099511627776, -1099511627777] w ≤ 1099511627776)) hp decide_eq_true_iff]; rfl)
  | true =>
    simp only [if_true]
    rcases hw with rfl | rfl | rfl | rfl | rfl | rfl | rfl | rfl <;> simp only [Int.reduceEq, if_true, if_false]
    · exact bounds_end _ _ _ _ _ _ (by rw [right_of (p := true) true hp (by decide)]; rfl)
    · exact bounds_end _ _ _ _ _ _ (by rw [right_of (p := true) true hp (by decide)]; rfl)
    · exact bounds_end _ _ _ _ _ _ (by rw [right_of (p := true) false hp (by decide)]; rfl)
    · exact bounds_end _ _ _ _ _ _ (by rw [right_of (p := true) false hp (by decide)]; rfl)
    · exact bounds_end _ _ _ _ _ _ (by rw [right_of (p := true) true hp (by decide)]; rfl)
    · exact bounds_end _ _ _ _ _ _ (by rw [right_of (p := true) false hp (by decide)]; rfl)
    · exact bounds_end _ _ _ _ _ _ (by rw [right_of (p := true) true hp (by decide)]; rfl)
    · exact bounds_end _ _ _ _ _ _ (by rw [right_of (p := true) false hp (by decide)]; rfl)
theorem RecordBounds : cooperagelaw4_RecordBounds.Pure := by
  intro key value which dead hkey hvalue hwhich
  apply Ev.rounds (g := fun k => cooperagelaw4_RecordBounds.f k key value which dead)
  unfold cooperagelaw4_RecordBounds.f
  refine Ev.bind ralive_ev ?_
  simp only [if_true]
  have out : Ev (fun k => cooperagelaw4_RecordBounds.j0 k key value which dead true true) true :=
    Ev.step (fun k => by simp only [cooperagelaw4_RecordBounds.j0, if_true]) (Ev.now _)
  by_cases c1 : key < 0
  · simp only [if_pos c1]; exact out
  by_cases c2 : key > 210
  · simp only [if_neg c1, if_pos c2]; exact out
  by_cases c3 : value < 0
  · simp only [if_neg c1, if_neg c2, if_pos c3]; exact out
  simp only [if_neg c1, if_neg c2, if_neg c3]
  by_cases c4 : value > 2010
  · rw [decide_eq_true c4]; exact out
  rw [decide_eq_false c4]
  refine Ev.step (fun k => by simp only [cooperagelaw4_RecordBounds.j0]; rfl) ?_
  simp only [Bool.false_eq_true, if_false]
  obtain ⟨sk, hk, evk⟩ := ltext_ev key (by omega) (by omega)
  obtain ⟨sv, hv, evv⟩ := ltext_ev value (by omega) (by omega)
  refine Ev.bind evk ?_
  refine Ev.bind evv ?_
  by_cases d1 : key ≥ 1
  · simp only [if_pos d1]
    by_cases d2 : key ≤ 200
    · simp only [if_pos d2]
      by_cases d3 : value ≤ 2000
      · simp only [if_pos d3]
        cases dead with
        | true =>
          simp only [if_true]
          refine bounds_mid _ _ _ _ _ ?_
          rw [beq_iff_eq]
          constructor
          · intro h; exact ⟨by omega, by omega, by omega, fun _ => by omega⟩
          · rintro ⟨_, _, _, h⟩; have := h rfl; omega
        | false =>
          simp only [Bool.false_eq_true, if_false]
          refine bounds_mid _ _ _ _ _ ?_
          constructor
          · intro h; exact ⟨by omega, by omega, by omega, fun h => by cases h⟩
          · intro _; rfl
      · simp only [if_neg d3]
        refine bounds_mid _ _ _ _ _ ?_
        constructor
        · intro h; cases h
        · rintro ⟨_, _, _, _⟩; omega
    · simp only [if_neg d2]
      refine bounds_mid _ _ _ _ _ ?_
      constructor
      · intro h; cases h
      · rintro ⟨_, _, _, _⟩; omega
  · simp only [if_neg d1]
    refine bounds_mid _ _ _ _ _ ?_
    constructor
    · intro h; cases h
    · rintro ⟨_, _, _, _⟩; omega
end Go.Proofs.Ytpafbpfcoacidaa.Pure

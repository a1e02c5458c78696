/- The plain law of finding: the first record of a list that fits; the place that marks tell (the program's own). -/
import Derived.Test.YtphnolgneojdhaaTVScan
import Derived.Test.YtphnolgneojdhaaTVIndexP
import Derived.Test.YtphnolgneojdhaaVx13
import Derived.Test.YtphnolgneojdhaaVx14
namespace Go.Proofs.Ytphnolgneojdhaa.TV
open Go.RowKit Go.Proofs.Ytphnolgneojdhaa.V Go.Proofs.YtphnolgneojdhaaW.PrintWords Go.Proofs.YtphnolgneojdhaaW.PrintLast Go.Proofs.YtphnolgneojdhaaW.PrintMore
set_option linter.unusedVariables false
set_option linter.unusedSimpArgs false

def noR : S34 := ⟨0, 0, ⟨#[]⟩, ⟨#[]⟩, false⟩
def firstFit (p : S34 → Bool) : List S34 → S34 × Bool
  | [] => (noR, false)
  | x :: l => if p x = true then (x, true) else firstFit p l
/-- a record, and whether there is one, as the program hands them back -/
def tupF (r : S34 × Bool) : Int × Int × ByteArray × ByteArray × Bool × Bool := (r.1.f0, r.1.f1, r.1.f2, r.1.f3, r.1.f4, r.2)
/-- the place from which is read: 0 for one that is none -/
def posOf (b : List Int) (p : Int) : Nat := if p < 0 then 0 else if p > (b.length : Int) then 0 else p.toNat
theorem posOf_le (b : List Int) (p : Int) : posOf b p ≤ b.length := by unfold posOf; split <;> (try split) <;> omega
/-- what is found in bytes from a place on -/
def found (p : S34 → Bool) (b : List Int) (pos : Int) : S34 × Bool := firstFit p (scanF (b.drop (posOf b pos))).1
def geO (n : Int) (x : S34) : Bool := decide (x.f0 ≥ n)
def geT (n : Int) (x : S34) : Bool := decide (x.f1 ≥ n)

theorem firstO_loop (l : List S34) (hl : l.length ≤ 1000000000) (n : Int) : ∀ (d i : Nat), i + d = l.length → Ev (fun k => index_Find_first.l0 k n l (l.length : Int) (i : Int)) (tupF (firstFit (geO n) (l.drop i))) := by
  intro d
  induction d with
  | zero =>
    intro i hi
    refine Ev.step (fun k => by simp only [index_Find_first.l0]; rfl) ?_
    simp only [if_neg (show ¬ ((i : Int) < (l.length : Int)) by omega)]
    rw [List.drop_of_length_le (by omega)]
    exact Ev.now _
  | succ d ih =>
    intro i hi
    have hlt : i < l.length := by omega
    rw [List.drop_eq_getElem_cons hlt]
    refine Ev.step (fun k => by simp only [index_Find_first.l0]; rfl) ?_
    have ew : wrap64 ((i : Int) + 1) = ((i + 1 : Nat) : Int) := w64n (by omega) (by omega)
    simp only [if_pos (show ((i : Int) < (l.length : Int)) by clear ew; omega), if_pos (show ((0 : Int) ≤ (i : Int)) by clear ew; omega), rdT_get hlt, index_Find_1.f, Option.bind_some, ew]
    clear ew
    by_cases c : l[i].f0 ≥ n
    · rw [firstFit, if_pos (show geO n l[i] = true from decide_eq_true c)]
      simp only [decide_eq_true c, if_true]
      exact Ev.now _
    · rw [firstFit, if_neg (show ¬ geO n l[i] = true from fun h => c (of_decide_eq_true h))]
      simp only [decide_eq_false c, Bool.false_eq_true, if_false]
      exact ih (i + 1) (by omega)
theorem firstT_loop (l : List S34) (hl : l.length ≤ 1000000000) (n : Int) : ∀ (d i : Nat), i + d = l.length → Ev (fun k => index_FindTime_first.l0 k n l (l.length : Int) (i : Int)) (tupF (firstFit (geT n) (l.drop i))) := by
  intro d
  induction d with
  | zero =>
    intro i hi
    refine Ev.step (fun k => by simp only [index_FindTime_first.l0]; rfl) ?_
    simp only [if_neg (show ¬ ((i : Int) < (l.length : Int)) by omega)]
    rw [List.drop_of_length_le (by omega)]
    exact Ev.now _
  | succ d ih =>
    intro i hi
    have hlt : i < l.length := by omega
    rw [List.drop_eq_getElem_cons hlt]
    refine Ev.step (fun k => by simp only [index_FindTime_first.l0]; rfl) ?_
    have ew : wrap64 ((i : Int) + 1) = ((i + 1 : Nat) : Int) := w64n (by omega) (by omega)
    simp only [if_pos (show ((i : Int) < (l.length : Int)) by clear ew; omega), if_pos (show ((0 : Int) ≤ (i : Int)) by clear ew; omega), rdT_get hlt, index_FindTime_1.f, Option.bind_some, ew]
    clear ew
    by_cases c : l[i].f1 ≥ n
    · rw [firstFit, if_pos (show geT n l[i] = true from decide_eq_true c)]
      simp only [decide_eq_true c, if_true]
      exact Ev.now _
    · rw [firstFit, if_neg (show ¬ geT n l[i] = true from fun h => c (of_decide_eq_true h))]
      simp only [decide_eq_false c, Bool.false_eq_true, if_false]
      exact ih (i + 1) (by omega)
theorem seekO_ev (ix : List S36) (n : Int) (b : List Int) (hb : Bytes b) (hl : b.length ≤ 1000000000) : Ev (fun k => index_Find.f k b ix n) (tupF (found (geO n) b (lastAt (index_Seek.p n) ix ix.length))) := by
  refine Ev.congr (fun k => by unfold index_Find.f; simp only [index_Seek.f, Option.bind_some]; rfl) ?_
  generalize lastAt (index_Seek.p n) ix ix.length = p
  have core : Ev (fun k => index_Find_first.j1 k b (posOf b p : Int) n) (tupF (found (geO n) b p)) := by
    have hle := posOf_le b p
    refine Ev.step (fun k => by simp only [index_Find_first.j1]; rfl) ?_
    simp only [if_pos (show (0 : Int) ≤ (posOf b p : Int) by omega), if_pos (show (posOf b p : Int) ≤ (b.length : Int) by omega), Int.toNat_natCast]
    have hd : (b.drop (posOf b p)).length ≤ 1000000000 := by rw [List.length_drop]; omega
    refine Ev.bind (scan_ev _ (hb.drop _) hd) ?_
    have hlen := scanF_len (b.drop (posOf b p))
    exact firstO_loop _ (by omega) n _ 0 (Nat.zero_add _)
  unfold index_Find_first.f
  unfold posOf at core
  by_cases c1 : p < 0
  · simp only [if_pos c1] at core ⊢
    exact Ev.step (fun k => by simp only [index_Find_first.j0, if_true]; rfl) core
  · simp only [if_neg c1] at core ⊢
    by_cases c2 : p > (b.length : Int)
    · simp only [if_pos c2] at core
      rw [decide_eq_true c2]
      exact Ev.step (fun k => by simp only [index_Find_first.j0, if_true]; rfl) core
    · simp only [if_neg c2] at core
      rw [decide_eq_false c2]
      rw [Int.toNat_of_nonneg (by omega)] at core
      exact Ev.step (fun k => by simp only [index_Find_first.j0, Bool.false_eq_true, if_false]) core
theorem seekT_ev (ix : List S36) (n : Int) (b : List Int) (hb : Bytes b) (hl : b.length ≤ 1000000000) : Ev (fun k => index_FindTime.f k b ix n) (tupF (found (geT n) b (lastAt (index_SeekTime.p n) ix ix.length))) := by
  refine Ev.congr (fun k => by unfold index_FindTime.f; simp only [index_SeekTime.f, Option.bind_some]; rfl) ?_
  generalize lastAt (index_SeekTime.p n) ix ix.length = p
  have core : Ev (fun k => index_FindTime_first.j1 k b (posOf b p : Int) n) (tupF (found (geT n) b p)) := by
    have hle := posOf_le b p
    refine Ev.step (fun k => by simp only [index_FindTime_first.j1]; rfl) ?_
    simp only [if_pos (show (0 : Int) ≤ (posOf b p : Int) by omega), if_pos (show (posOf b p : Int) ≤ (b.length : Int) by omega), Int.toNat_natCast]
    have hd : (b.drop (posOf b p)).length ≤ 1000000000 := by rw [List.length_drop]; omega
    refine Ev.bind (scan_ev _ (hb.drop _) hd) ?_
    have hlen := scanF_len (b.drop (posOf b p))
    exact firstT_loop _ (by omega) n _ 0 (Nat.zero_add _)
  unfold index_FindTime_first.f
  unfold posOf at core
  by_cases c1 : p < 0
  · simp only [if_pos c1] at core ⊢
    exact Ev.step (fun k => by simp only [index_FindTime_first.j0, if_true]; rfl) core
  · simp only [if_neg c1] at core ⊢
    by_cases c2 : p > (b.length : Int)
    · simp only [if_pos c2] at core
      rw [decide_eq_true c2]
      exact Ev.step (fun k => by simp only [index_FindTime_first.j0, if_true]; rfl) core
    · simp only [if_neg c2] at core
      rw [decide_eq_false c2]
      rw [Int.toNat_of_nonneg (by omega)] at core
      exact Ev.step (fun k => by simp only [index_FindTime_first.j0, Bool.false_eq_true, if_false]) core
end Go.Proofs.Ytphnolgneojdhaa.TV

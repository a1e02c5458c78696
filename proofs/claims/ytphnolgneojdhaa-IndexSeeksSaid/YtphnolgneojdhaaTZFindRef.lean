/- The plain law of finding, as the definition finds. -/
import Derived.Test.YtphnolgneojdhaaTZFind
import Derived.Test.YtphnolgneojdhaaTZScanRef
import Derived.Test.YtphnolgneojdhaaZx17
import Derived.Test.YtphnolgneojdhaaZx19
namespace Go.Proofs.Ytphnolgneojdhaa.TZ
open Go.RowKit Go.Proofs.Ytphnolgneojdhaa.Z Go.Proofs.YtphnolgneojdhaaW.PrintWords Go.Proofs.YtphnolgneojdhaaW.PrintLast Go.Proofs.YtphnolgneojdhaaW.PrintMore
set_option linter.unusedVariables false
set_option linter.unusedSimpArgs false

theorem rSeek_loop (ix : List S36) (hl : ix.length ≤ 1000000) (n : Int) : ∀ (d i : Nat), i + d = ix.length → Ev (fun k => cooperageref1_Seek.l0 k (ix.map conv) n (lastAt (index_Seek.p n) ix i) (i : Int)) (lastAt (index_Seek.p n) ix ix.length) := by
  intro d
  induction d with
  | zero =>
    intro i hi
    have e : i = ix.length := by omega
    subst e
    refine Ev.step (fun k => by simp only [cooperageref1_Seek.l0]; rfl) ?_
    simp only [List.length_map, if_neg (show ¬ ((ix.length : Int) < (ix.length : Int)) by omega)]
    exact Ev.now _
  | succ d ih =>
    intro i hi
    have hlt : i < ix.length := by omega
    have hlt2 : i < (ix.map conv).length := by rw [List.length_map]; exact hlt
    have hn := ih (i + 1) (by omega)
    refine Ev.step (fun k => by simp only [cooperageref1_Seek.l0]; rfl) ?_
    have ew : wrap64 ((i : Int) + 1) = ((i + 1 : Nat) : Int) := w64n (by omega) (by omega)
    simp only [List.length_map, if_pos (show ((i : Int) < (ix.length : Int)) by clear ew; omega), if_pos (show ((0 : Int) ≤ (i : Int)) by clear ew; omega), rdM'_get hlt2, List.getElem_map, conv, ew]
    clear ew
    rw [lastAt, rdM_get hlt] at hn
    by_cases c : ix[i].f0 ≤ n
    · rw [if_pos (show index_Seek.p n ix[i] = true from decide_eq_true c)] at hn
      simp only [if_pos c]
      exact hn
    · rw [if_neg (show ¬ index_Seek.p n ix[i] = true from fun h => c (of_decide_eq_true h))] at hn
      simp only [if_neg c]
      exact hn
theorem rSeek_ev (ix : List S36) (hl : ix.length ≤ 1000000) (n : Int) : Ev (fun k => cooperageref1_Seek.f k (ix.map conv) n) (lastAt (index_Seek.p n) ix ix.length) :=
  Ev.congr (fun k => by unfold cooperageref1_Seek.f; rfl) (rSeek_loop ix hl n ix.length 0 (Nat.zero_add _))
theorem rSeekTime_loop (ix : List S36) (hl : ix.length ≤ 1000000) (n : Int) : ∀ (d i : Nat), i + d = ix.length → Ev (fun k => cooperageref1_SeekTime.l0 k (ix.map conv) n (lastAt (index_SeekTime.p n) ix i) (i : Int)) (lastAt (index_SeekTime.p n) ix ix.length) := by
  intro d
  induction d with
  | zero =>
    intro i hi
    have e : i = ix.length := by omega
    subst e
    refine Ev.step (fun k => by simp only [cooperageref1_SeekTime.l0]; rfl) ?_
    simp only [List.length_map, if_neg (show ¬ ((ix.length : Int) < (ix.length : Int)) by omega)]
    exact Ev.now _
  | succ d ih =>
    intro i hi
    have hlt : i < ix.length := by omega
    have hlt2 : i < (ix.map conv).length := by rw [List.length_map]; exact hlt
    have hn := ih (i + 1) (by omega)
    refine Ev.step (fun k => by simp only [cooperageref1_SeekTime.l0]; rfl) ?_
    have ew : wrap64 ((i : Int) + 1) = ((i + 1 : Nat) : Int) := w64n (by omega) (by omega)
    simp only [List.length_map, if_pos (show ((i : Int) < (ix.length : Int)) by clear ew; omega), if_pos (show ((0 : Int) ≤ (i : Int)) by clear ew; omega), rdM'_get hlt2, List.getElem_map, conv, ew]
    clear ew
    rw [lastAt, rdM_get hlt] at hn
    by_cases c : ix[i].f1 < n
    · rw [if_pos (show index_SeekTime.p n ix[i] = true from decide_eq_true c)] at hn
      simp only [if_pos c]
      exact hn
    · rw [if_neg (show ¬ index_SeekTime.p n ix[i] = true from fun h => c (of_decide_eq_true h))] at hn
      simp only [if_neg c]
      exact hn
theorem rSeekTime_ev (ix : List S36) (hl : ix.length ≤ 1000000) (n : Int) : Ev (fun k => cooperageref1_SeekTime.f k (ix.map conv) n) (lastAt (index_SeekTime.p n) ix ix.length) :=
  Ev.congr (fun k => by unfold cooperageref1_SeekTime.f; rfl) (rSeekTime_loop ix hl n ix.length 0 (Nat.zero_add _))
theorem rbehind_ev (b : List Int) (hb : Bytes b) (hl : b.length ≤ 1000000000) (p : Int) : Ev (fun k => cooperageref1_behind.f k b p) (scanF (b.drop (posOf b p))).1 := by
  unfold cooperageref1_behind.f posOf
  have hd : ∀ i, (b.drop i).length ≤ 1000000000 := fun i => by rw [List.length_drop]; omega
  by_cases c1 : p < 0
  · simp only [if_pos c1, if_pos (show (0 : Int) ≤ (b.length : Int) by omega)]
    exact Ev.bind (rscan_ev _ (hb.drop _) (hd 0)) (Ev.now _)
  · by_cases c2 : p > (b.length : Int)
    · simp only [if_neg c1, if_pos c2, if_pos (show (0 : Int) ≤ (b.length : Int) by omega)]
      exact Ev.bind (rscan_ev _ (hb.drop _) (hd 0)) (Ev.now _)
    · simp only [if_neg c1, if_neg c2, if_pos (show (0 : Int) ≤ p by omega), if_pos (show p ≤ (b.length : Int) by omega)]
      exact Ev.bind (rscan_ev _ (hb.drop _) (hd _)) (Ev.now _)
theorem rFind_loop (l : List S34) (hl : l.length ≤ 1000000000) (n : Int) : ∀ (d i : Nat), i + d = l.length → Ev (fun k => cooperageref1_Find.l0 k n l (i : Int)) (tupF (firstFit (geO n) (l.drop i))) := by
  intro d
  induction d with
  | zero =>
    intro i hi
    refine Ev.step (fun k => by simp only [cooperageref1_Find.l0]; rfl) ?_
    simp only [if_neg (show ¬ ((i : Int) < (l.length : Int)) by omega)]
    rw [List.drop_of_length_le (by omega)]
    exact Ev.now _
  | succ d ih =>
    intro i hi
    have hlt : i < l.length := by omega
    rw [List.drop_eq_getElem_cons hlt]
    refine Ev.step (fun k => by simp only [cooperageref1_Find.l0]; rfl) ?_
    have ew : wrap64 ((i : Int) + 1) = ((i + 1 : Nat) : Int) := w64n (by omega) (by omega)
    simp only [if_pos (show ((i : Int) < (l.length : Int)) by clear ew; omega), if_pos (show ((0 : Int) ≤ (i : Int)) by clear ew; omega), rdT_get hlt, ew]
    clear ew
    by_cases c : l[i].f0 ≥ n
    · rw [firstFit, if_pos (show geO n l[i] = true from decide_eq_true c)]
      simp only [if_pos c]
      exact Ev.now _
    · rw [firstFit, if_neg (show ¬ geO n l[i] = true from fun h => c (of_decide_eq_true h))]
      simp only [if_neg c]
      exact ih (i + 1) (by omega)
theorem rFind_ev (ix : List S36) (hix : ix.length ≤ 1000000) (n : Int) (b : List Int) (hb : Bytes b) (hl : b.length ≤ 1000000000) : Ev (fun k => cooperageref1_Find.f k b (ix.map conv) n) (tupF (found (geO n) b (lastAt (index_Seek.p n) ix ix.length))) := by
  unfold cooperageref1_Find.f
  refine Ev.bind (rSeek_ev ix hix n) ?_
  refine Ev.bind (rbehind_ev b hb hl _) ?_
  have hlen := scanF_len (b.drop (posOf b (lastAt (index_Seek.p n) ix ix.length)))
  rw [List.length_drop] at hlen
  exact rFind_loop _ (by omega) n _ 0 (Nat.zero_add _)
theorem rFindTime_loop (l : List S34) (hl : l.length ≤ 1000000000) (n : Int) : ∀ (d i : Nat), i + d = l.length → Ev (fun k => cooperageref1_FindTime.l0 k n l (i : Int)) (tupF (firstFit (geT n) (l.drop i))) := by
  intro d
  induction d with
  | zero =>
    intro i hi
    refine Ev.step (fun k => by simp only [cooperageref1_FindTime.l0]; rfl) ?_
    simp only [if_neg (show ¬ ((i : Int) < (l.length : Int)) by omega)]
    rw [List.drop_of_length_le (by omega)]
    exact Ev.now _
  | succ d ih =>
    intro i hi
    have hlt : i < l.length := by omega
    rw [List.drop_eq_getElem_cons hlt]
    refine Ev.step (fun k => by simp only [cooperageref1_FindTime.l0]; rfl) ?_
    have ew : wrap64 ((i : Int) + 1) = ((i + 1 : Nat) : Int) := w64n (by omega) (by omega)
    simp only [if_pos (show ((i : Int) < (l.length : Int)) by clear ew; omega), if_pos (show ((0 : Int) ≤ (i : Int)) by clear ew; omega), rdT_get hlt, ew]
    clear ew
    by_cases c : l[i].f1 ≥ n
    · rw [firstFit, if_pos (show geT n l[i] = true from decide_eq_true c)]
      simp only [if_pos c]
      exact Ev.now _
    · rw [firstFit, if_neg (show ¬ geT n l[i] = true from fun h => c (of_decide_eq_true h))]
      simp only [if_neg c]
      exact ih (i + 1) (by omega)
theorem rFindTime_ev (ix : List S36) (hix : ix.length ≤ 1000000) (n : Int) (b : List Int) (hb : Bytes b) (hl : b.length ≤ 1000000000) : Ev (fun k => cooperageref1_FindTime.f k b (ix.map conv) n) (tupF (found (geT n) b (lastAt (index_SeekTime.p n) ix ix.length))) := by
  unfold cooperageref1_FindTime.f
  refine Ev.bind (rSeekTime_ev ix hix n) ?_
  refine Ev.bind (rbehind_ev b hb hl _) ?_
  have hlen := scanF_len (b.drop (posOf b (lastAt (index_SeekTime.p n) ix ix.length)))
  rw [List.length_drop] at hlen
  exact rFindTime_loop _ (by omega) n _ 0 (Nat.zero_add _)
end Go.Proofs.Ytphnolgneojdhaa.TZ

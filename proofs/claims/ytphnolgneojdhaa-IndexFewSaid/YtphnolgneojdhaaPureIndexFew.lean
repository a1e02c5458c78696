/- The statement on how many marks there are, and that they rise. -/
import Derived.Test.YtphnolgneojdhaaTSIndexMk
import Derived.Test.YtphnolgneojdhaaTSGoods
import Derived.Test.YtphnolgneojdhaaSx15
namespace Go.Proofs.Ytphnolgneojdhaa.Pure
open Go.RowKit Go.Proofs.Ytphnolgneojdhaa.S Go.Proofs.YtphnolgneojdhaaW.PrintWords Go.Proofs.YtphnolgneojdhaaW.PrintLast Go.Proofs.YtphnolgneojdhaaW.PrintMore Go.Proofs.Ytphnolgneojdhaa.TS
set_option linter.unusedVariables false

/-- the greatest time ahead of place j, and the bytes ahead of it -/
def tmAt (g : List S34) (j : Nat) : Int := (g.take j).foldl (fun t x => mx t x.f1) (-1099511627777)
def posAt (g : List S34) (j : Nat) : Nat := (segB (g.take j)).length
theorem tmAt_succ {g : List S34} {j : Nat} (h : j < g.length) : tmAt g (j + 1) = mx (tmAt g j) (g[j]).f1 := by
  unfold tmAt
  rw [List.take_succ_eq_append_getElem h, List.foldl_append]
  rfl
theorem posAt_succ {g : List S34} {j : Nat} (h : j < g.length) : posAt g (j + 1) = posAt g j + (piece g[j]).length := by
  unfold posAt
  rw [List.take_succ_eq_append_getElem h, segB_append, segB_one, List.length_append]
theorem mx_ge (a b : Int) : a ≤ mx a b := by unfold mx; split <;> omega
theorem tmAt_mono (g : List S34) : ∀ (d j : Nat), j + d ≤ g.length → tmAt g j ≤ tmAt g (j + d)
  | 0, j, _ => Int.le_refl _
  | d + 1, j, h => by
    have h1 := tmAt_mono g d j (by omega)
    have h2 := tmAt_succ (g := g) (j := j + d) (by omega)
    have h3 := mx_ge (tmAt g (j + d)) (g[j + d]'(by omega)).f1
    rw [← Nat.add_assoc, h2]; omega
theorem posAt_mono (g : List S34) (hg : ∀ x ∈ g, rightB (toR x) = true) : ∀ (d j : Nat), j + d ≤ g.length → posAt g j + d ≤ posAt g (j + d)
  | 0, j, _ => Nat.le_refl _
  | d + 1, j, h => by
    have h1 := posAt_mono g hg d j (by omega)
    have h2 := posAt_succ (g := g) (j := j + d) (by omega)
    have hr := hg _ (List.getElem_mem (show j + d < g.length by omega))
    have h3 := (frame_rec_len hr).2
    rw [← piece_right hr] at h3
    show posAt g j + (d + 1) ≤ posAt g (j + d + 1)
    rw [h2]; omega
def zR : S34 := ⟨0, 0, ⟨#[]⟩, ⟨#[]⟩, false⟩
def markAt (g : List S34) (j : Nat) : Int × Int × Int := ((g.getD j zR).f0, tmAt g j, (posAt g j : Int))
theorem mk_marks (g : List S34) (m : Nat) (hm : 1 ≤ m) (hg : ∀ x ∈ g, rightB (toR x) = true) : ∀ (d j : Nat), j + d = g.length → mk (m : Int) (g.drop j) j (posAt g j) (tmAt g j) = (((List.range g.length).drop j).filter fun i => decide (i % m = 0)).map (markAt g) := by
  intro d
  induction d with
  | zero =>
    intro j hj
    rw [List.drop_of_length_le (by omega), List.drop_of_length_le (by simp; omega)]
    rfl
  | succ d ih =>
    intro j hj
    have hlt : j < g.length := by omega
    have hlt2 : j < (List.range g.length).length := by simp; omega
    have hn := ih (j + 1) (by omega)
    rw [posAt_succ hlt, tmAt_succ hlt] at hn
    rw [List.drop_eq_getElem_cons hlt, List.drop_eq_getElem_cons hlt2, mk, if_pos (hg _ (List.getElem_mem hlt)), hn, List.getElem_range]
    have hmod : Int.tmod (j : Int) (m : Int) = ((j % m : Nat) : Int) := by rw [Int.ofNat_tmod]
    rw [hmod]
    by_cases c : j % m = 0
    · rw [if_pos (by omega), List.filter_cons_of_pos (by rw [decide_eq_true c]), List.map_cons]
      congr 1
      unfold markAt
      rw [List.getD_eq_getElem?_getD, List.getElem?_eq_getElem hlt, Option.getD_some]
    · rw [if_neg (by omega), List.filter_cons_of_neg (by rw [decide_eq_false c]; decide)]
theorem range_mod (m : Nat) (hm : 1 ≤ m) : ∀ n : Nat, ((List.range n).filter fun i => decide (i % m = 0)) = (List.range ((n + m - 1) / m)).map (· * m)
  | 0 => by
    have : (0 + m - 1) / m = 0 := Nat.div_eq_of_lt (by omega)
    rw [this]; rfl
  | n + 1 => by
    have ih := range_mod m hm n
    rw [List.range_succ, List.filter_append, ih]
    have hd := Nat.div_add_mod n m
    have hlt := Nat.mod_lt n (show m > 0 by omega)
    generalize hq : n / m = q at hd
    generalize hr : n % m = r at hd hlt
    by_cases c : r = 0
    · have e1 : (n + m - 1) / m = q := by
        rw [show n + m - 1 = m * q + (m - 1) from by omega, Nat.mul_add_div (by omega), Nat.div_eq_of_lt (show m - 1 < m by omega)]; omega
      have e2 : (n + 1 + m - 1) / m = q + 1 := by
        rw [show n + 1 + m - 1 = m * q + m from by omega, Nat.mul_add_div (by omega), Nat.div_self (by omega)]
      rw [e1, e2, List.range_succ, List.map_append]
      congr 1
      rw [List.filter_cons_of_pos (by rw [decide_eq_true]; omega)]
      simp only [List.filter_nil, List.map_cons, List.map_nil, List.cons.injEq, and_true]
      rw [Nat.mul_comm]; omega
    · have e1 : (n + m - 1) / m = q + 1 := by
        rw [show n + m - 1 = m * q + (m + (r - 1)) from by omega, Nat.mul_add_div (by omega), show m + (r - 1) = m * 1 + (r - 1) from by omega, Nat.mul_add_div (by omega), Nat.div_eq_of_lt (show r - 1 < m by omega)]
      have e2 : (n + 1 + m - 1) / m = q + 1 := by
        rw [show n + 1 + m - 1 = m * q + (m + r) from by omega, Nat.mul_add_div (by omega), show m + r = m * 1 + r from by omega, Nat.mul_add_div (by omega), Nat.div_eq_of_lt hlt]
      rw [e1, e2, List.filter_cons_of_neg (by rw [decide_eq_false]; decide; omega)]
      simp
/-- the marks that Make makes of records that all may be -/
theorem make_marks (g : List S34) (m : Nat) (hm : 1 ≤ m) (hg : ∀ x ∈ g, rightB (toR x) = true) : mk (mx 1 (m : Int)) g 0 0 (-1099511627777) = ((List.range ((g.length + m - 1) / m)).map (· * m)).map (markAt g) := by
  have e : mx 1 (m : Int) = (m : Int) := by unfold mx; split <;> omega
  have h := mk_marks g m hm hg g.length 0 (by omega)
  rw [List.drop_zero, List.drop_zero, range_mod m hm] at h
  rw [e]
  exact h
theorem few_marks (g : List S34) (m : Nat) (hm : 1 ≤ m) (hm2 : m ≤ 100) (hg : ∀ x ∈ g, rightB (toR x) = true) (hlen : g.length ≤ 60) (M : List S36) (hM : M = (((List.range ((g.length + m - 1) / m)).map (· * m)).map (markAt g)).map toM) :
    ∀ (d i : Nat), i + d = M.length → Ev (fun k => cooperagelaw9_IndexFew.l1 k (m : Int) g M (i : Int)) true := by
  have hML : M.length = (g.length + m - 1) / m := by rw [hM]; simp
  have hin : ∀ i, i < M.length → i * m < g.length := by
    intro i hi
    rw [hML] at hi
    have h1 : (i + 1) * m ≤ g.length + m - 1 := Nat.le_trans (Nat.mul_le_mul_right m hi) (Nat.div_mul_le_self _ _)
    rw [Nat.add_mul] at h1; omega
  have hat : ∀ i (h : i < M.length), M[i] = toM (markAt g (i * m)) := by
    intro i h
    subst hM
    simp
  intro d
  induction d with
  | zero =>
    intro i hi
    refine Ev.step (fun k => by simp only [cooperagelaw9_IndexFew.l1]; rfl) ?_
    simp only [if_neg (show ¬ ((i : Int) < (M.length : Int)) by omega)]
    exact Ev.now _
  | succ d ih =>
    intro i hi
    have hlt : i < M.length := by omega
    have hig := hin i hlt
    have hnext := ih (i + 1) (by omega)
    have hi60 : i ≤ i * m := Nat.le_mul_of_pos_right i (by omega)
    have em : wrap64 ((i : Int) * (m : Int)) = ((i * m : Nat) : Int) := w64n (by rw [Int.natCast_mul]) (by omega)
    have ew : wrap64 ((i : Int) + 1) = ((i + 1 : Nat) : Int) := by clear em; exact w64n (by omega) (by omega)
    refine Ev.step (fun k => by simp only [cooperagelaw9_IndexFew.l1]; rfl) ?_
    have hf0 : (M[i]).f0 = (g[i * m]).f0 := by
      rw [hat i hlt]
      simp only [toM, markAt]
      rw [List.getD_eq_getElem?_getD, List.getElem?_eq_getElem hig, Option.getD_some]
    simp only [if_pos (show ((i : Int) < (M.length : Int)) by clear em ew; omega), if_pos (show ((0 : Int) ≤ (i : Int)) by clear em ew; omega), em, if_pos (show ((0 : Int) ≤ ((i * m : Nat) : Int)) by clear em ew; omega), if_pos (show (((i * m : Nat) : Int) < (g.length : Int)) by clear em ew; omega), rdM_get hlt, rdT_get hig, hf0, if_true, ew]
    cases i with
    | zero =>
      have e0 : ((0 : Nat) : Int) = 0 := rfl
      have hz : M[0] = toM (markAt g 0) := by rw [hat 0 hlt, Nat.zero_mul]
      simp only [if_neg (show ¬ (((0 : Nat) : Int) > 0) by decide), if_pos e0, hz, toM, markAt]
      have hp0 : posAt g 0 = 0 := rfl
      have ht0 : tmAt g 0 = -1099511627777 := rfl
      simp only [hp0, ht0, if_pos e0, if_true]
      exact hnext
    | succ j =>
      have hlj : j < M.length := by omega
      have ej : wrap64 (((j + 1 : Nat) : Int) - 1) = (j : Int) := by clear em ew; exact w64n (by omega) (by omega)
      have hjm : j * m + m = (j + 1) * m := by rw [Nat.add_mul, Nat.one_mul]
      have hp := posAt_mono g hg m (j * m) (by rw [hjm]; clear em ew ej; omega)
      have ht := tmAt_mono g m (j * m) (by rw [hjm]; clear em ew ej; omega)
      rw [hjm] at hp ht
      have h1 : ¬ ((M[j + 1]).f2 ≤ (M[j]).f2) := by
        rw [hat (j + 1) hlt, hat j hlj]
        simp only [toM, markAt]
        clear em ew ej
        omega
      have h2 : ¬ ((M[j + 1]).f1 < (M[j]).f1) := by
        rw [hat (j + 1) hlt, hat j hlj]
        simp only [toM, markAt]
        clear em ew ej
        omega
      simp only [if_pos (show ((j + 1 : Nat) : Int) > 0 by clear em ew ej; omega), ej, if_pos (show ((0 : Int) ≤ (j : Int)) by clear em ew ej; omega), if_pos (show ((j : Int) < (M.length : Int)) by clear em ew ej; omega), rdM_get hlj, if_neg h1, if_neg h2, if_neg (show ¬ (((j + 1 : Nat) : Int) = 0) by clear em ew ej; omega)]
      exact hnext
theorem few_end (l g : List S34) (m : Nat) (hm : 1 ≤ m) (hm2 : m ≤ 100) (hg : ∀ x ∈ g, rightB (toR x) = true) (hlen : g.length ≤ 60) : Ev (fun k => cooperagelaw9_IndexFew.l0 k l (m : Int) g (l.length : Int)) true := by
  refine Ev.step (fun k => by simp only [cooperagelaw9_IndexFew.l0]; rfl) ?_
  simp only [if_neg (show ¬ ((l.length : Int) < (l.length : Int)) by omega)]
  have hmk := make_ev g (m : Int) (by omega)
  rw [make_marks g m hm hg] at hmk
  refine Ev.bind hmk ?_
  have e1 : wrap64 ((g.length : Int) + (m : Int)) = ((g.length + m : Nat) : Int) := w64n (by omega) (by omega)
  have e2 : wrap64 (((g.length + m : Nat) : Int) - 1) = ((g.length + m - 1 : Nat) : Int) := by clear e1; exact w64n (by omega) (by omega)
  have e3 : Int.tdiv ((g.length + m - 1 : Nat) : Int) (m : Int) = (((g.length + m - 1) / m : Nat) : Int) := by rw [Int.ofNat_tdiv]
  have hq : (g.length + m - 1) / m ≤ g.length + m - 1 := Nat.div_le_self _ _
  have e4 : wrap64 (((g.length + m - 1) / m : Nat) : Int) = (((g.length + m - 1) / m : Nat) : Int) := by clear e1 e2 e3; exact w64n rfl (by omega)
  simp only [if_neg (show ¬ ((m : Int) = 0) by clear e1 e2 e3 e4; omega), e1, e2, e3, e4]
  have e5 : ((List.map toM (List.map (markAt g) (List.map (fun x => x * m) (List.range ((g.length + m - 1) / m))))).length : Int) = (((g.length + m - 1) / m : Nat) : Int) := by simp
  simp only [if_pos e5]
  exact few_marks g m hm hm2 hg hlen _ rfl _ 0 (Nat.zero_add _)
theorem few_loop (l : List S34) (m : Nat) (hm : 1 ≤ m) (hm2 : m ≤ 100) (hlen : l.length ≤ 60) :
    ∀ (d i : Nat) (acc : List S34), i + d = l.length → acc.length ≤ i → (∀ x ∈ acc, rightB (toR x) = true) → Ev (fun k => cooperagelaw9_IndexFew.l0 k l (m : Int) acc (i : Int)) true := by
  intro d
  induction d with
  | zero =>
    intro i acc hi ha hr
    have e : i = l.length := by omega
    subst e
    exact few_end l acc m hm hm2 hr (by omega)
  | succ d ih =>
    intro i acc hi ha hr
    have hlt : i < l.length := by omega
    refine Ev.step (fun k => by simp only [cooperagelaw9_IndexFew.l0]; rfl) ?_
    have ew : wrap64 ((i : Int) + 1) = ((i + 1 : Nat) : Int) := w64n (by omega) (by omega)
    have h1 := rright_some (toR (off l[i] i))
    simp only [toR, off] at h1
    simp only [if_pos (show ((i : Int) < (l.length : Int)) by clear ew; omega), if_pos (show ((0 : Int) ≤ (i : Int)) by clear ew; omega), rdT_get hlt, h1, Option.bind_some, ew, if_pos (show acc.length < 2513169434916 by clear ew; omega)]
    by_cases c : rightB (toR (off l[i] i)) = true
    · have hnext := ih (i + 1) (acc ++ [off l[i] i]) (by clear ew; omega) (by rw [List.length_append]; simp only [List.length_cons, List.length_nil]; clear ew; omega) (by
        intro x hx
        rcases List.mem_append.1 hx with hx | hx
        · exact hr x hx
        · rw [List.mem_singleton.1 hx]; exact c)
      simp only [toR, off] at c
      simp only [if_pos c]
      exact hnext
    · have hnext := ih (i + 1) acc (by clear ew; omega) (by clear ew; omega) hr
      simp only [toR, off] at c
      simp only [if_neg c]
      exact hnext
theorem IndexFew (l : List S34) (hl : l.length ≤ maxLen) (e : Int) (he : (Lit.int .i64 e).wf = true) : ∃ k, cooperagelaw9_IndexFew.f k l e = some true := by
  apply Ev.rounds (g := fun k => cooperagelaw9_IndexFew.f k l e)
  unfold cooperagelaw9_IndexFew.f
  refine Ev.bind ialive_ev ?_
  have out : Ev (fun k => cooperagelaw9_IndexFew.j0 k l e true true) true :=
    Ev.step (fun k => by simp only [cooperagelaw9_IndexFew.j0, if_true]) (Ev.now _)
  rcases big_ev l hl with h | ⟨h, h60, hs⟩
  · refine Ev.bind h ?_
    simp only [if_true]
    exact out
  · refine Ev.bind h ?_
    simp only [if_true, Bool.false_eq_true, if_false]
    by_cases c1 : e < 1
    · simp only [if_pos c1]; exact out
    simp only [if_neg c1]
    by_cases c2 : e > 100
    · rw [decide_eq_true c2]; exact out
    rw [decide_eq_false c2]
    refine Ev.step (fun k => by simp only [cooperagelaw9_IndexFew.j0]; rfl) ?_
    simp only [Bool.false_eq_true, if_false]
    obtain ⟨m, rfl⟩ : ∃ m : Nat, e = (m : Int) := ⟨e.toNat, by omega⟩
    exact few_loop l m (by omega) (by omega) h60 l.length 0 [] (by omega) (by simp) (by simp)
end Go.Proofs.Ytphnolgneojdhaa.Pure

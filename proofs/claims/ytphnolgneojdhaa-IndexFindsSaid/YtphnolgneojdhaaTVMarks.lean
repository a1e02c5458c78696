/- The plain law of the places that marks tell: from any mark's place on a segment's bytes are the records from that mark on. -/
import Derived.Test.YtphnolgneojdhaaTVFind
namespace Go.Proofs.Ytphnolgneojdhaa.TV
open Go.RowKit Go.Proofs.Ytphnolgneojdhaa.V Go.Proofs.YtphnolgneojdhaaW.PrintWords Go.Proofs.YtphnolgneojdhaaW.PrintLast Go.Proofs.YtphnolgneojdhaaW.PrintMore
set_option linter.unusedVariables false
set_option linter.unusedSimpArgs false

/-- the greatest time ahead of place j, and the bytes ahead of it -/
def tmAt (g : List S34) (j : Nat) : Int := (g.take j).foldl (fun t x => mx t x.f1) (-1099511627777)
def posAt (g : List S34) (j : Nat) : Nat := (segB (g.take j)).length
theorem tmAt_succ {g : List S34} {j : Nat} (h : j < g.length) : tmAt g (j + 1) = mx (tmAt g j) (g[j]).f1 := by
  unfold tmAt
  rw [List.take_succ_eq_append_getElem h, List.foldl_append]
  rfl
theorem posAt_succ {g : List S34} {j : Nat} (h : j < g.length) : posAt g (j + 1) = posAt g j + (piece g[j]).length := by
  unfold posAt
  rw [List.take_succ_eq_append_getElem h, segB_append, segB_one, List.length_append]
theorem mx_ge (a b : Int) : a ≤ mx a b := by unfold mx; split <;> omega
theorem tmAt_mono (g : List S34) : ∀ (d j : Nat), j + d ≤ g.length → tmAt g j ≤ tmAt g (j + d)
  | 0, j, _ => Int.le_refl _
  | d + 1, j, h => by
    have h1 := tmAt_mono g d j (by omega)
    have h2 := tmAt_succ (g := g) (j := j + d) (by omega)
    have h3 := mx_ge (tmAt g (j + d)) (g[j + d]'(by omega)).f1
    rw [← Nat.add_assoc, h2]; omega
theorem posAt_mono (g : List S34) (hg : ∀ x ∈ g, rightB (toR x) = true) : ∀ (d j : Nat), j + d ≤ g.length → posAt g j + d ≤ posAt g (j + d)
  | 0, j, _ => Nat.le_refl _
  | d + 1, j, h => by
    have h1 := posAt_mono g hg d j (by omega)
    have h2 := posAt_succ (g := g) (j := j + d) (by omega)
    have hr := hg _ (List.getElem_mem (show j + d < g.length by omega))
    have h3 := (frame_rec_len hr).2
    rw [← piece_right hr] at h3
    show posAt g j + (d + 1) ≤ posAt g (j + d + 1)
    rw [h2]; omega
def zR : S34 := ⟨0, 0, ⟨#[]⟩, ⟨#[]⟩, false⟩
def markAt (g : List S34) (j : Nat) : Int × Int × Int := ((g.getD j zR).f0, tmAt g j, (posAt g j : Int))
theorem mk_marks (g : List S34) (m : Nat) (hm : 1 ≤ m) (hg : ∀ x ∈ g, rightB (toR x) = true) : ∀ (d j : Nat), j + d = g.length → mk (m : Int) (g.drop j) j (posAt g j) (tmAt g j) = (((List.range g.length).drop j).filter fun i => decide (i % m = 0)).map (markAt g) := by
  intro d
  induction d with
  | zero =>
    intro j hj
    rw [List.drop_of_length_le (by omega), List.drop_of_length_le (by simp; omega)]
    rfl
  | succ d ih =>
    intro j hj
    have hlt : j < g.length := by omega
    have hlt2 : j < (List.range g.length).length := by simp; omega
    have hn := ih (j + 1) (by omega)
    rw [posAt_succ hlt, tmAt_succ hlt] at hn
    rw [List.drop_eq_getElem_cons hlt, List.drop_eq_getElem_cons hlt2, mk, if_pos (hg _ (List.getElem_mem hlt)), hn, List.getElem_range]
    have hmod : Int.tmod (j : Int) (m : Int) = ((j % m : Nat) : Int) := by rw [Int.ofNat_tmod]
    rw [hmod]
    by_cases c : j % m = 0
    · rw [if_pos (by omega), List.filter_cons_of_pos (by rw [decide_eq_true c]), List.map_cons]
      congr 1
      unfold markAt
      rw [List.getD_eq_getElem?_getD, List.getElem?_eq_getElem hlt, Option.getD_some]
    · rw [if_neg (by omega), List.filter_cons_of_neg (by rw [decide_eq_false c]; decide)]
theorem mx_mono {a b n : Int} (h : mx a b < n) : a < n ∧ b < n := by unfold mx at h; split at h <;> omega
/-- what is ahead of a mark is no later than it tells -/
theorem tmAt_all (g : List S34) : ∀ (j : Nat), j ≤ g.length → ∀ n, tmAt g j < n → ∀ x ∈ g.take j, x.f1 < n
  | 0, _, _, _, x, hx => by simp at hx
  | j + 1, h, n, ht, x, hx => by
    rw [tmAt_succ (show j < g.length by omega)] at ht
    have h2 := mx_mono ht
    rw [List.take_succ_eq_append_getElem (show j < g.length by omega)] at hx
    rcases List.mem_append.1 hx with hx | hx
    · exact tmAt_all g j (by omega) n h2.1 x hx
    · rw [List.mem_singleton.1 hx]; exact h2.2
theorem mark_is (g : List S34) (e : Int) (he : 1 ≤ e) (hg : ∀ x ∈ g, rightB (toR x) = true) : ∀ x ∈ mk e g 0 0 (-1099511627777), ∃ j, j < g.length ∧ x = markAt g j := by
  obtain ⟨m, rfl⟩ : ∃ m : Nat, e = (m : Int) := ⟨e.toNat, by omega⟩
  have h := mk_marks g m (by omega) hg g.length 0 (by omega)
  rw [List.drop_zero, List.drop_zero] at h
  intro x hx
  have h2 : x ∈ mk (m : Int) (List.drop 0 g) 0 (posAt g 0) (tmAt g 0) := hx
  rw [List.drop_zero, h] at h2
  obtain ⟨j, hj, rfl⟩ := List.mem_map.1 h2
  exact ⟨j, by have := (List.mem_filter.1 hj).1; rwa [List.mem_range] at this, rfl⟩
theorem last_mem (p : S36 → Bool) (l : List S36) : ∀ n, n ≤ l.length → lastAt p l n = 0 ∨ ∃ m ∈ l, p m = true ∧ lastAt p l n = m.f2
  | 0, _ => .inl rfl
  | n + 1, h => by
    rw [lastAt, rdM_get (show n < l.length by omega)]
    by_cases c : p l[n] = true
    · rw [if_pos c]; exact .inr ⟨l[n], List.getElem_mem _, c, rfl⟩
    · rw [if_neg c]; exact last_mem p l n (by omega)
theorem firstFit_skip (q : S34 → Bool) : ∀ (a b : List S34), (∀ x ∈ a, ¬ q x = true) → firstFit q (a ++ b) = firstFit q b
  | [], _, _ => rfl
  | x :: a, b, h => by rw [List.cons_append, firstFit, if_neg (h x (by simp))]; exact firstFit_skip q a b (fun y hy => h y (by simp [hy]))
theorem found_at (q : S34 → Bool) (g : List S34) (hg : ∀ x ∈ g, rightB (toR x) = true) (hp : g.Pairwise (fun x y => x.f0 < y.f0)) (hla : ∀ x ∈ g, -1 < x.f0) (j : Nat) (hq : ∀ x ∈ g.take j, ¬ q x = true) : found q (segB g) (posAt g j : Int) = firstFit q g := by
  have hcut : segB g = segB (g.take j) ++ segB (g.drop j) := by rw [← segB_append, List.take_append_drop]
  have hle : posAt g j ≤ (segB g).length := segB_take_le g j
  have hpos : posOf (segB g) (posAt g j : Int) = posAt g j := by
    unfold posOf
    rw [if_neg (by omega), if_neg (by omega), Int.toNat_natCast]
  have hd : (segB g).drop (posAt g j) = segB (g.drop j) := by
    rw [hcut]; exact List.drop_left
  unfold found
  rw [hpos, hd, scan_full (g.drop j) (fun x hx => hg x (List.mem_of_mem_drop hx)) (hp.sublist (List.drop_sublist j g)) (fun x hx => hla x (List.mem_of_mem_drop hx))]
  conv => rhs; rw [← List.take_append_drop j g]
  rw [firstFit_skip q _ _ hq]
/-- with the marks of Make the first record of an offset is found as it is without -/
theorem found_O (g : List S34) (e : Int) (n : Int) (hg : ∀ x ∈ g, rightB (toR x) = true) (hp : g.Pairwise (fun x y => x.f0 < y.f0)) (hla : ∀ x ∈ g, -1 < x.f0) :
    let ix := (mk (mx 1 e) g 0 0 (-1099511627777)).map toM; found (geO n) (segB g) (lastAt (index_Seek.p n) ix ix.length) = firstFit (geO n) g := by
  intro ix
  rcases last_mem (index_Seek.p n) ix ix.length (Nat.le_refl _) with h | ⟨m, hm, hpm, h⟩
  · rw [h]
    exact found_at (geO n) g hg hp hla 0 (by simp)
  · obtain ⟨x, hx, rfl⟩ := List.mem_map.1 hm
    obtain ⟨j, hj, rfl⟩ := mark_is g (mx 1 e) (mx_pos e) hg x hx
    rw [h]
    refine found_at (geO n) g hg hp hla j (fun x hx c => ?_)
    have h1 : (markAt g j).1 ≤ n := of_decide_eq_true hpm
    have h2 : x.f0 ≥ n := of_decide_eq_true c
    unfold markAt at h1
    rw [List.getD_eq_getElem?_getD, List.getElem?_eq_getElem hj, Option.getD_some] at h1
    obtain ⟨i, hi, rfl⟩ := List.getElem_of_mem hx
    rw [List.length_take] at hi
    have h3 := List.pairwise_iff_getElem.1 hp i j (by omega) hj (by omega)
    rw [List.getElem_take] at h2
    omega
/-- .. and the first of a time -/
theorem found_T (g : List S34) (e : Int) (n : Int) (hg : ∀ x ∈ g, rightB (toR x) = true) (hp : g.Pairwise (fun x y => x.f0 < y.f0)) (hla : ∀ x ∈ g, -1 < x.f0) :
    let ix := (mk (mx 1 e) g 0 0 (-1099511627777)).map toM; found (geT n) (segB g) (lastAt (index_SeekTime.p n) ix ix.length) = firstFit (geT n) g := by
  intro ix
  rcases last_mem (index_SeekTime.p n) ix ix.length (Nat.le_refl _) with h | ⟨m, hm, hpm, h⟩
  · rw [h]
    exact found_at (geT n) g hg hp hla 0 (by simp)
  · obtain ⟨x, hx, rfl⟩ := List.mem_map.1 hm
    obtain ⟨j, hj, rfl⟩ := mark_is g (mx 1 e) (mx_pos e) hg x hx
    rw [h]
    refine found_at (geT n) g hg hp hla j (fun x hx c => ?_)
    have h1 : tmAt g j < n := of_decide_eq_true hpm
    have h2 : x.f1 ≥ n := of_decide_eq_true c
    have h3 := tmAt_all g j (by omega) n h1 x hx
    omega
end Go.Proofs.Ytphnolgneojdhaa.TV

/- Opening a parameter: what a datum that is trod says of the cells, kind by kind. -/
import Derived.Test.YtphnolgneojdhaaYVW
import Derived.Deep.Slices
import Derived.Deep.Fields
import Derived.ChangeArms
import Derived.WideShapes
namespace Go.Proofs.Ytphnolgneojdhaa.Opens
open Go Go.RowKit Go.Proofs.YtphnolgneojdhaaW.PrintWords Go.ChangeShapes Go.WideShapes Go.Deep
set_option linter.unusedVariables false

/-- Whatever is trod as of type t reads as of kind d, and is good. -/
def Opens {α : Type} (P : Program) (w : World) (t : TypeId) (d : Kd α) (good : α → Prop) : Prop :=
  ∀ (H : Type) (enc : TypeId × Value → H) (base : Nat) (spare : Nat → Bool) (held : Bool) (fuel : Nat) (cs : List Value) (x : DataW H × List MemPlace), DataW.trod enc P w base spare held fuel t cs = some x → ∃ v, d.K w v cs ∧ good v
section
variable {P : Program} {w : World} {t : TypeId}
theorem opens_int {k : IntKind} (ht : P.underlying t = some (.int k)) : Opens P w t (Kd.int k) (fun n => (Lit.int k n).wf = true) := by
  intro H enc base spare held fuel cs x h
  obtain ⟨n, rfl, _, hn⟩ := DataW.trod_int ht h
  exact ⟨n, rfl, hn⟩
theorem opens_string (ht : P.underlying t = some .string) : Opens P w t Kd.string (fun s => s.size ≤ maxLen) := by
  intro H enc base spare held fuel cs x h
  obtain ⟨s, rfl, _, hs⟩ := DataW.trod_string ht h
  exact ⟨s, rfl, hs⟩
theorem opens_bool (ht : P.underlying t = some .bool) : Opens P w t Kd.bool (fun _ => True) := by
  intro H enc base spare held fuel cs x h
  obtain ⟨b, rfl, _⟩ := DataW.trod_bool ht h
  exact ⟨b, rfl, trivial⟩
theorem list_of {α : Type} {Q : Nat → α → Prop} : ∀ (n : Nat), (∀ i, i < n → ∃ v, Q i v) → ∃ xs : List α, xs.length = n ∧ ∀ j p, xs[j]? = some p → Q j p
  | 0, _ => ⟨[], rfl, fun j p h => by simp at h⟩
  | n + 1, h => by
    obtain ⟨xs, hl, hx⟩ := list_of n (fun i hi => h i (by omega))
    obtain ⟨v, hv⟩ := h n (by omega)
    refine ⟨xs ++ [v], by simp [hl], fun j p hj => ?_⟩
    by_cases c : j < n
    · rw [List.getElem?_append_left (by omega)] at hj
      exact hx j p hj
    · have hjn : j < (xs ++ [v]).length := (List.getElem?_eq_some_iff.1 hj).1
      have e : j = n := by simp [hl] at hjn; omega
      subst e
      rw [List.getElem?_append_right (by omega), hl, Nat.sub_self] at hj
      simp at hj
      subst hj
      exact hv
theorem opens_slice {α : Type} {d : Kd α} {good : α → Prop} {e : TypeId} (ht : P.underlying t = some (.slice e)) (he : P.cellsOf e = d.sz) (ho : Opens P w e d good) :
    Opens P w t (Kd.slice e d) (fun xs => xs.length ≤ maxLen ∧ ∀ x ∈ xs, good x) := by
  intro H enc base spare held fuel cs x h
  rcases open_slice ht h with ⟨rfl, _⟩ | ⟨a, len, cap, m, n, D, Pl, rfl, hb, hl, hm, hmm, _, hx⟩
  · exact ⟨[], ⟨none, 0, rfl, Nat.le_refl _, rfl, by simp, fun h => absurd h (by simp)⟩, by simp, by simp⟩
  · have hle : len ≤ m := by rw [hmm]; split <;> omega
    obtain ⟨xs, hlen, hxs⟩ := list_of (Q := fun i v => (∃ c : List Value, c.length = d.sz ∧ d.K w v c ∧ ∀ j u, c[j]? = some u → w.cell? (a.add (i * d.sz + j)) = some u) ∧ good v) len (fun i hi => by
      obtain ⟨c, hc, htr⟩ := hx i (by omega)
      obtain ⟨v, hk, hg⟩ := ho H enc base spare held n c _ htr
      obtain ⟨_, hcl, hat⟩ := World.cells?_some hc
      rw [he] at hcl hat
      refine ⟨v, ⟨c, hcl, hk, fun j u hu => ?_⟩, hg⟩
      have hj : j < c.length := (List.getElem?_eq_some_iff.1 hu).1
      rw [← Go.Deep.add_add, hat j (by omega), hu])
    have hmax : len ≤ 9223372036854775807 := Nat.le_trans hl hm
    refine ⟨xs, ⟨some a, cap, by rw [hlen], by omega, rfl, by omega, fun _ => ⟨a, rfl, fun j p hj => ?_⟩⟩, by rw [hlen]; exact Nat.le_trans hl hm, fun y hy => ?_⟩
    · obtain ⟨⟨c, h1, h2, h3⟩, _⟩ := hxs j p hj
      exact ⟨c, h1, h2, h3⟩
    · obtain ⟨j, hj⟩ := List.getElem?_of_mem hy
      exact (hxs j y hj).2
/-- a struct of five fields of one cell each -/
theorem opens_five {α0 α1 α2 α3 α4 : Type} {d0 : Kd α0} {d1 : Kd α1} {d2 : Kd α2} {d3 : Kd α3} {d4 : Kd α4} {g0 : α0 → Prop} {g1 : α1 → Prop} {g2 : α2 → Prop} {g3 : α3 → Prop} {g4 : α4 → Prop} {f0 f1 f2 f3 f4 : Field}
    (ht : P.underlying t = some (.struct #[f0, f1, f2, f3, f4])) (hone : oneCellFields P #[f0, f1, f2, f3, f4] = true) (hC : P.cellsOf t = 5)
    (o0 : Opens P w f0.type d0 g0) (o1 : Opens P w f1.type d1 g1) (o2 : Opens P w f2.type d2 g2) (o3 : Opens P w f3.type d3 g3) (o4 : Opens P w f4.type d4 g4) :
    Opens P w t (Kd.pair d0 (Kd.pair d1 (Kd.pair d2 (Kd.pair d3 d4)))) (fun x => g0 x.1 ∧ g1 x.2.1 ∧ g2 x.2.2.1 ∧ g3 x.2.2.2.1 ∧ g4 x.2.2.2.2) := by
  intro H enc base spare held fuel cs x h
  obtain ⟨xs, n, _, _, hl, hlen, hg⟩ := DataW.trod_struct ht h
  rw [hC] at hl
  match cs, hl with
  | [c0, c1, c2, c3, c4], _ =>
    match xs, hlen with
    | [y0, y1, y2, y3, y4], _ =>
      have t0 := hg 0 f0 rfl
      have t1 := hg 1 f1 rfl
      have t2 := hg 2 f2 rfl
      have t3 := hg 3 f3 rfl
      have t4 := hg 4 f4 rfl
      rw [(hone_of hone 0 f0 rfl).1, (hone_of hone 0 f0 rfl).2] at t0
      rw [(hone_of hone 1 f1 rfl).1, (hone_of hone 1 f1 rfl).2] at t1
      rw [(hone_of hone 2 f2 rfl).1, (hone_of hone 2 f2 rfl).2] at t2
      rw [(hone_of hone 3 f3 rfl).1, (hone_of hone 3 f3 rfl).2] at t3
      rw [(hone_of hone 4 f4 rfl).1, (hone_of hone 4 f4 rfl).2] at t4
      obtain ⟨v0, k0, h0⟩ := o0 _ _ _ _ _ _ _ _ t0
      obtain ⟨v1, k1, h1⟩ := o1 _ _ _ _ _ _ _ _ t1
      obtain ⟨v2, k2, h2⟩ := o2 _ _ _ _ _ _ _ _ t2
      obtain ⟨v3, k3, h3⟩ := o3 _ _ _ _ _ _ _ _ t3
      obtain ⟨v4, k4, h4⟩ := o4 _ _ _ _ _ _ _ _ t4
      exact ⟨(v0, v1, v2, v3, v4), ⟨[c0], [c1, c2, c3, c4], rfl, k0, [c1], [c2, c3, c4], rfl, k1, [c2], [c3, c4], rfl, k2, [c3], [c4], rfl, k3, k4⟩, h0, h1, h2, h3, h4⟩
theorem opens_three {α0 α1 α2 : Type} {d0 : Kd α0} {d1 : Kd α1} {d2 : Kd α2} {g0 : α0 → Prop} {g1 : α1 → Prop} {g2 : α2 → Prop} {f0 f1 f2 : Field}
    (ht : P.underlying t = some (.struct #[f0, f1, f2])) (hone : oneCellFields P #[f0, f1, f2] = true) (hC : P.cellsOf t = 3)
    (o0 : Opens P w f0.type d0 g0) (o1 : Opens P w f1.type d1 g1) (o2 : Opens P w f2.type d2 g2) :
    Opens P w t (Kd.pair d0 (Kd.pair d1 d2)) (fun x => g0 x.1 ∧ g1 x.2.1 ∧ g2 x.2.2) := by
  intro H enc base spare held fuel cs x h
  obtain ⟨xs, n, _, _, hl, hlen, hg⟩ := DataW.trod_struct ht h
  rw [hC] at hl
  match cs, hl with
  | [c0, c1, c2], _ =>
    match xs, hlen with
    | [y0, y1, y2], _ =>
      have t0 := hg 0 f0 rfl
      have t1 := hg 1 f1 rfl
      have t2 := hg 2 f2 rfl
      rw [(hone_of hone 0 f0 rfl).1, (hone_of hone 0 f0 rfl).2] at t0
      rw [(hone_of hone 1 f1 rfl).1, (hone_of hone 1 f1 rfl).2] at t1
      rw [(hone_of hone 2 f2 rfl).1, (hone_of hone 2 f2 rfl).2] at t2
      obtain ⟨v0, k0, h0⟩ := o0 _ _ _ _ _ _ _ _ t0
      obtain ⟨v1, k1, h1⟩ := o1 _ _ _ _ _ _ _ _ t1
      obtain ⟨v2, k2, h2⟩ := o2 _ _ _ _ _ _ _ _ t2
      exact ⟨(v0, v1, v2), ⟨[c0], [c1, c2], rfl, k0, [c1], [c2], rfl, k1, k2⟩, h0, h1, h2⟩
theorem opens_iso {α β : Type} {d : Kd α} {good : α → Prop} {f : β → α} (g : α → β) (hfg : ∀ x, f (g x) = x) (ho : Opens P w t d good) : Opens P w t (Kd.iso d f) (fun x => good (f x)) := by
  intro H enc base spare held fuel cs x h
  obtain ⟨v, hk, hg⟩ := ho H enc base spare held fuel cs x h
  exact ⟨g v, by show d.K w (f (g v)) cs; rw [hfg]; exact hk, by show good (f (g v)); rw [hfg]; exact hg⟩
theorem opens_any {α : Type} {d : Kd α} {good : α → Prop} (ho : Opens P w t d good) : Opens P w t d (fun _ => True) := by
  intro H enc base spare held fuel cs x h
  obtain ⟨v, hk, _⟩ := ho H enc base spare held fuel cs x h
  exact ⟨v, hk, trivial⟩
/-- a slice that is a parameter -/
theorem slice_arg {α : Type} {d : Kd α} {good : List α → Prop} {e : TypeId} {H : Type} {enc : TypeId × Value → H} {base : Nat} {spare : Nat → Bool} {held : Bool} {a : Option Addr} {len cap : Nat} {D : DataW H} {ps : List MemPlace}
    (ho : Opens P w t (Kd.slice e d) good) (h : DataW.Trod enc P w base spare held t (.slice a len cap) D ps) : ∃ xs, len = xs.length ∧ len ≤ cap ∧ d.C w a xs.length xs ∧ good xs := by
  obtain ⟨fuel, hf⟩ := h
  obtain ⟨xs, ⟨A, c, hc, hl, hC⟩, hg⟩ := ho _ _ _ _ _ _ _ _ hf
  simp [Value.cells] at hc
  obtain ⟨rfl, rfl, rfl⟩ := hc
  exact ⟨xs, rfl, hl, hC, hg⟩
/-- a struct that is a parameter -/
theorem agg_arg {α : Type} {d : Kd α} {good : α → Prop} {H : Type} {enc : TypeId × Value → H} {base : Nat} {spare : Nat → Bool} {held : Bool} {cs : Array Value} {D : DataW H} {ps : List MemPlace}
    (ho : Opens P w t d good) (h : DataW.Trod enc P w base spare held t (.agg cs) D ps) : ∃ x, d.K w x cs.toList ∧ good x := by
  obtain ⟨fuel, hf⟩ := h
  exact ho _ _ _ _ _ _ _ _ hf
end
end Go.Proofs.Ytphnolgneojdhaa.Opens

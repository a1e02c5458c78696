/- The statement on rows of numbers: of at most 100 numbers, written one behind the other, Get reads one after another; longer rows are let pass. -/
import Derived.Test.YtdehemcahangmaaPureVarintFolds
import Derived.Test.YtdehemcahangmaaPx6
namespace Go.Proofs.Ytdehemcahangmaa.Pure
open Go.RowKit Go.Proofs.Ytdehemcahangmaa.P Go.Proofs.YtdehemcahangmaaW.PrintWords Go.Proofs.YtdehemcahangmaaW.PrintLast Go.Proofs.YtdehemcahangmaaW.PrintMore Go.Proofs.Ytdehemcahangmaa.T

/-- the bytes of numbers one behind the other -/
def encs (l : List Int) : List Int := l.flatMap fun x => enc x.toNat
def Nums64 (l : List Int) : Prop := ∀ x ∈ l, 0 ≤ x ∧ x < 18446744073709551616
theorem encs_append (a b : List Int) : encs (a ++ b) = encs a ++ encs b := List.flatMap_append
theorem encs_cons (x : Int) (b : List Int) : encs (x :: b) = enc x.toNat ++ encs b := List.flatMap_cons
theorem encs_nil : encs [] = [] := rfl
theorem encs_len : ∀ (l : List Int), Nums64 l → (encs l).length ≤ 10 * l.length
  | [], _ => by simp [encs]
  | x :: t, h => by
    have hx := h x List.mem_cons_self
    have h1 := enc_ten (n := x.toNat) (by omega)
    have h2 := encs_len t fun y hy => h y (List.mem_cons_of_mem _ hy)
    simp only [encs, List.flatMap_cons, List.length_append, List.length_cons] at h2 ⊢
    omega
theorem encs_bytes (l : List Int) : Bytes (encs l) := fun c hc => by
  obtain ⟨x, _, h⟩ := List.mem_flatMap.1 hc
  exact enc_bytes _ c h
theorem row_write (l : List Int) (hl : Nums64 l) (hlen : l.length ≤ 100) {r : Bool} (h : Ev (fun k => cooperagelaw1_VarintRow.l1 k l (encs l) 0 0) r) :
    ∀ (d i : Nat), i + d = l.length → Ev (fun k => cooperagelaw1_VarintRow.l0 k l (encs (l.take i)) (i : Int)) r := by
  intro d
  induction d with
  | zero =>
    intro i hi
    refine Ev.step (fun k => ?_) h
    simp only [cooperagelaw1_VarintRow.l0]
    rw [if_neg (by omega), List.take_of_length_le (by omega)]
  | succ d ih =>
    intro i hi
    have hlt : i < l.length := by omega
    have hx := hl _ (List.getElem_mem hlt)
    have hle := encs_len (l.take i) fun y hy => hl y (List.mem_of_mem_take hy)
    rw [List.length_take] at hle
    have h10 := enc_ten (n := (l[i]).toNat) (by omega)
    have hput := put_ev (encs (l.take i)) (l[i]).toNat (by omega)
    rw [show (((l[i]).toNat : Nat) : Int) = l[i] from by omega] at hput
    have e : encs (l.take i) ++ enc (l[i]).toNat = encs (l.take (i + 1)) := by
      rw [List.take_succ_eq_append_getElem hlt, encs_append, encs_cons, encs_nil, List.append_nil]
    rw [e] at hput
    refine Ev.step (f := fun k => (varint_Put.f k (encs (l.take i)) l[i]).bind fun t => cooperagelaw1_VarintRow.l0 k l t ((i + 1 : Nat) : Int)) (fun k => ?_) (Ev.bind hput (ih (i + 1) (by omega)))
    simp only [cooperagelaw1_VarintRow.l0]
    rw [if_pos (by omega), if_pos (by omega), rd_get hlt, w64 (by omega) (by omega)]
    rfl
theorem row_read (l : List Int) (hl : Nums64 l) (hlen : l.length ≤ 100) :
    ∀ (d i : Nat), i + d = l.length → Ev (fun k => cooperagelaw1_VarintRow.l1 k l (encs l) ((encs (l.take i)).length : Int) (i : Int)) true := by
  have htot := encs_len l hl
  intro d
  induction d with
  | zero =>
    intro i hi
    refine Ev.step (f := fun _ => some true) (fun k => ?_) (Ev.now _)
    simp only [cooperagelaw1_VarintRow.l1]
    rw [if_neg (by omega), List.take_of_length_le (by omega), beq_self_eq_true]
  | succ d ih =>
    intro i hi
    have hlt : i < l.length := by omega
    have hx := hl _ (List.getElem_mem hlt)
    have hsplit : encs l = encs (l.take i) ++ (enc (l[i]).toNat ++ encs (l.drop (i + 1))) := by
      conv => lhs; rw [← List.take_append_drop i l, List.drop_eq_getElem_cons hlt]
      rw [encs_append, encs_cons]
    have hle : (encs (l.take i)).length ≤ (encs l).length := by rw [hsplit]; simp
    have hpos := enc_pos (l[i]).toNat
    have e : encs (l.take (i + 1)) = encs (l.take i) ++ enc (l[i]).toNat := by
      rw [List.take_succ_eq_append_getElem hlt, encs_append, encs_cons, encs_nil, List.append_nil]
    have hget := get_ev ((encs l).drop (encs (l.take i)).length) ((encs_bytes l).drop _) (by simp only [List.length_drop]; omega)
    have hval : getB ((encs l).drop (encs (l.take i)).length) = (((l[i]).toNat : Int), ((enc (l[i]).toNat).length : Int), 0) := by
      rw [hsplit, List.drop_left, getB_enc (by omega)]
    rw [hval] at hget
    have hnext := ih (i + 1) (by omega)
    rw [e, List.length_append] at hnext
    have hlen2 : (encs (l.take i)).length + (enc (l[i]).toNat).length ≤ (encs l).length := by
      rw [← List.length_append, ← e]
      have := congrArg List.length hsplit
      simp only [List.length_append] at this
      rw [e, List.length_append]; omega
    refine Ev.step (f := fun k => (varint_Get.f k ((encs l).drop (encs (l.take i)).length)).bind fun g => if g.2.2 = 0 then (if g.1 = l[i] then (if g.2.1 < 1 then some false else cooperagelaw1_VarintRow.l1 k l (encs l) (wrap64 (((encs (l.take i)).length : Int) + g.2.1)) ((i + 1 : Nat) : Int)) else some false) else some false) (fun k => ?_) (Ev.bind hget ?_)
    · simp only [cooperagelaw1_VarintRow.l1]
      rw [if_pos (by omega), if_neg (by omega), if_pos (by omega), if_pos (by omega), rd_get hlt, w64 (n := (i : Int) + 1) (by omega) (by omega)]
      simp only [Int.toNat_natCast, cooperagelaw1_num.f, Option.bind_some, if_pos (show (0 : Int) ≤ (i : Int) by omega)]
      rfl
    · simp only [if_true, if_pos (show (((l[i]).toNat : Nat) : Int) = l[i] by omega), if_neg (show ¬ (((enc (l[i]).toNat).length : Int) < 1) by omega)]
      rw [w64 (by omega) (by omega)]
      exact hnext
theorem wf_u64s {l : List Int} (h : ∀ x ∈ l, (Lit.int .u64 x).wf = true) : Nums64 l := fun x hx => wf_u64 (h x hx)
theorem VarintRow : cooperagelaw1_VarintRow.Pure := by
  intro l h0 h1 hl
  apply Ev.rounds (g := fun k => cooperagelaw1_VarintRow.f k l)
  have hn := wf_u64s hl
  unfold cooperagelaw1_VarintRow.f
  refine Ev.bind valive_ev ?_
  simp only [if_true]
  by_cases c1 : (l.length : Int) > 100
  · rw [decide_eq_true c1]
    exact Ev.step (fun k => by simp only [cooperagelaw1_VarintRow.j0, if_true]) (Ev.now _)
  rw [decide_eq_false c1]
  refine Ev.step (f := fun k => cooperagelaw1_VarintRow.l0 k l [] 0) (fun k => by simp only [cooperagelaw1_VarintRow.j0]; rfl) ?_
  exact row_write l hn (by omega) (row_read l hn (by omega) l.length 0 (by omega)) l.length 0 (by omega)
end Go.Proofs.Ytdehemcahangmaa.Pure

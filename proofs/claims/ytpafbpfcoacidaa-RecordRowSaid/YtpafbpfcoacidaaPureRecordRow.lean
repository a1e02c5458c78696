/- The statement on records one behind the other, and on one with a bit turned. -/
import Derived.Test.YtpafbpfcoacidaaTURecordGet
import Derived.Test.YtpafbpfcoacidaaTURecordPutRef
import Derived.Test.YtpafbpfcoacidaaTURecordMore
import Derived.Test.YtpafbpfcoacidaaTURecordLaw
import Derived.Test.YtpafbpfcoacidaaUx19
namespace Go.Proofs.Ytpafbpfcoacidaa.Pure
open Go.RowKit Go.Proofs.Ytpafbpfcoacidaa.U Go.Proofs.YtpafbpfcoacidaaW.PrintWords Go.Proofs.YtpafbpfcoacidaaW.PrintLast Go.Proofs.YtpafbpfcoacidaaW.PrintMore Go.Proofs.Ytpafbpfcoacidaa.TU
set_option linter.unusedVariables false

/-- the record that a value of the program is -/
def toR (x : S25) : Rec := ⟨x.f0, x.f1, x.f2, x.f3, x.f4⟩
def goods (l : List S25) : List S25 := l.filter fun x => rightB (toR x)
def bytesR (l : List S25) : List Int := l.flatMap fun x => putBytes (toR x)
theorem goods_append (a b : List S25) : goods (a ++ b) = goods a ++ goods b := List.filter_append ..
theorem bytesR_append (a b : List S25) : bytesR (a ++ b) = bytesR a ++ bytesR b := List.flatMap_append
theorem bytesR_one (x : S25) : bytesR [x] = putBytes (toR x) := by simp [bytesR]
theorem bytesR_cons (x : S25) (l : List S25) : bytesR (x :: l) = putBytes (toR x) ++ bytesR l := List.flatMap_cons
theorem putBytes_le (r : Rec) : (putBytes r).length ≤ 2241 := by
  unfold putBytes; split
  · rename_i h; exact (recBytes_le h).1
  · simp
theorem bytesR_len : ∀ l : List S25, (bytesR l).length ≤ 2241 * l.length
  | [] => by simp [bytesR]
  | x :: l => by
    have h1 := bytesR_len l
    have h2 := putBytes_le (toR x)
    rw [bytesR_cons, List.length_append, List.length_cons]; omega
theorem bytesR_bytes : ∀ l : List S25, Bytes (bytesR l)
  | [] => Bytes.nil
  | x :: l => by rw [bytesR_cons]; exact (putBytes_bytes _).append (bytesR_bytes l)
theorem bytesR_goods : ∀ l : List S25, bytesR (goods l) = bytesR l
  | [] => rfl
  | x :: l => by
    have h1 := bytesR_goods l
    unfold goods at h1 ⊢
    by_cases c : rightB (toR x) = true
    · rw [List.filter_cons_of_pos (p := fun x => rightB (toR x)) c, bytesR_cons, bytesR_cons, h1]
    · rw [List.filter_cons_of_neg (p := fun x => rightB (toR x)) c, bytesR_cons, h1, putBytes, if_neg c, List.nil_append]
theorem rdT_get {l : List S25} {i : Nat} (h : i < l.length) : rd_T25 l (i : Int) = l[i] := by
  unfold rd_T25
  rw [Int.toNat_natCast, List.getD_eq_getElem?_getD, List.getElem?_eq_getElem h, Option.getD_some]
theorem diff_true {o t o' t' : Int} {k v k' v' : ByteArray} {d d' : Bool} (h : ¬ (o = o' ∧ t = t' ∧ k = k' ∧ v = v' ∧ d = d')) : (!(o == o') || (!(t == t') || (!(k.toList == k'.toList) || (!(v.toList == v'.toList) || (!(d == d')))))) = true := by
  rw [toList_beq, toList_beq]
  simp only [Bool.or_eq_true, Bool.not_eq_true', beq_eq_false_iff_ne, decide_eq_false_iff_not]
  by_cases a : o = o'
  · by_cases b : t = t'
    · by_cases c : k = k'
      · by_cases e : v = v'
        · by_cases f : d = d'
          · exact absurd ⟨a, b, c, e, f⟩ h
          · exact .inr (.inr (.inr (.inr f)))
        · exact .inr (.inr (.inr (.inl e)))
      · exact .inr (.inr (.inl c))
    · exact .inr (.inl b)
  · exact .inl a
theorem row_write (l : List S25) (n bit : Int) (hlen : l.length ≤ 20) (h : Ev (fun k => cooperagelaw4_RecordRow.l1 k n bit (bytesR l) (goods l) 0 0) true) :
    ∀ (d i : Nat), i + d = l.length → Ev (fun k => cooperagelaw4_RecordRow.l0 k l n bit (bytesR (l.take i)) (goods (l.take i)) (i : Int)) true := by
  intro d
  induction d with
  | zero =>
    intro i hi
    refine Ev.step (fun k => ?_) h
    simp only [cooperagelaw4_RecordRow.l0]
    rw [if_neg (by omega), List.take_of_length_le (by omega)]
  | succ d ih =>
    intro i hi
    have hlt : i < l.length := by omega
    have out : Ev (fun k => cooperagelaw4_RecordRow.j2 k l n bit (bytesR (l.take i)) (goods (l.take i)) (i : Int) true) true :=
      Ev.step (fun k => by simp only [cooperagelaw4_RecordRow.j2, if_true]) (Ev.now _)
    have hnext := ih (i + 1) (by omega)
    have ht : l.take (i + 1) = l.take i ++ [l[i]] := List.take_succ_eq_append_getElem hlt
    rw [ht, bytesR_append, goods_append, bytesR_one] at hnext
    have hbl := bytesR_len (l.take i)
    have hgl : (goods (l.take i)).length ≤ (l.take i).length := List.length_filter_le ..
    rw [List.length_take] at hbl hgl
    refine Ev.step (fun k => by simp only [cooperagelaw4_RecordRow.l0]; rfl) ?_
    simp only [if_pos (show (i : Int) < (l.length : Int) by omega), if_pos (show (0 : Int) ≤ (i : Int) by omega), rdT_get hlt]
    by_cases c1 : ((l[i].f3).size : Int) > 300
    · simp only [if_pos c1]; exact out
    simp only [if_neg c1]
    by_cases c2 : ((l[i].f2).size : Int) > 200
    · rw [decide_eq_true c2]; exact out
    rw [decide_eq_false c2]
    refine Ev.step (fun k => by simp only [cooperagelaw4_RecordRow.j2]; rfl) ?_
    simp only [Bool.false_eq_true, if_false, if_pos (show (i : Int) < (l.length : Int) by omega), if_pos (show (0 : Int) ≤ (i : Int) by omega), rdT_get hlt]
    have hp := putr_ev (bytesR (l.take i)) (toR l[i]) (by omega)
    have hr := rright_some (toR l[i])
    refine Ev.bind hp ?_
    simp only [toR] at hr
    simp only [hr, Option.bind_some]
    have ew : wrap64 ((i : Int) + 1) = ((i + 1 : Nat) : Int) := w64n (by omega) (by omega)
    rw [ew]
    by_cases c : rightB (toR l[i]) = true
    · have e1 : goods [l[i]] = [l[i]] := by unfold goods; rw [List.filter_cons_of_pos (p := fun x => rightB (toR x)) c]; rfl
      rw [e1] at hnext
      simp only [toR] at c
      simp only [if_pos c, if_pos (show (goods (l.take i)).length < 2513169434916 by omega)]
      exact hnext
    · have e1 : goods [l[i]] = [] := by unfold goods; rw [List.filter_cons_of_neg (p := fun x => rightB (toR x)) c]; rfl
      rw [e1, List.append_nil] at hnext
      simp only [toR] at c
      simp only [if_neg c]
      exact hnext
theorem goods_right {l : List S25} {x : S25} (h : x ∈ goods l) : rightB (toR x) = true := (List.mem_filter.1 h).2
/-- one byte turned: another record, or none -/
theorem turned_other (x : S25) (n bit : Int) (hn : 0 ≤ n) (hx : rightB (toR x) = true) (g : List S25) (hg : rd_T25 g 0 = x) (hpos : 0 < g.length) (b : List Int) (k0 : Int) :
    Ev (fun k => cooperagelaw4_RecordRow.j4 k n bit b g k0 false) true := by
  refine Ev.step (fun k => by simp only [cooperagelaw4_RecordRow.j4]; rfl) ?_
  simp only [Bool.false_eq_true, if_false, if_pos (show (0 : Int) < (g.length : Int) by omega), hg]
  have hp := rputr_ev [] (toR x) (by simp)
  refine Ev.bind hp ?_
  rw [List.nil_append, putBytes, if_pos hx]
  have hle := recBytes_le hx
  have hbs := recBytes_bytes (toR x)
  generalize hc : recBytes (toR x) = c at *
  obtain ⟨m, rfl⟩ : ∃ m : Nat, n = (m : Int) := ⟨n.toNat, by omega⟩
  have hlt : m % c.length < c.length := Nat.mod_lt _ (by omega)
  have hm : Int.tmod (m : Int) (c.length : Int) = ((m % c.length : Nat) : Int) := by rw [Int.ofNat_tmod]
  rw [hm]
  clear hm
  generalize m % c.length = i at *
  obtain ⟨s, hs, hsh, hxor⟩ := turned (z := bit) (hbs _ (List.getElem_mem hlt))
  have hrd : rd c (i : Int) = c[i] := rd_get hlt
  simp only [if_neg (show ¬ ((c.length : Int) = 0) by omega), if_pos (show (0 : Int) ≤ (i : Int) by omega), if_pos (show (i : Int) < (c.length : Int) by omega), hrd, Int.toNat_natCast]
  rw [hsh]
  simp only [if_pos (show (0 : Int) ≤ (s : Int) by omega)]
  rw [hxor]
  have hne := turn_ne (m := s) (hbs _ (List.getElem_mem hlt)) hs
  have hb2 : Bytes (c.set i (turn c[i] s)) := hbs.set _ turn_is
  have hgv := getr_ev _ hb2 (by rw [List.length_set]; omega)
  cases hget : getE (c.set i (turn c[i] s)) with
  | error e =>
    rw [hget] at hgv
    simp only [tupR] at hgv
    refine Ev.bind hgv ?_
    simp only [cooperagelaw4_num.f, Option.bind_some]
    by_cases c0 : e = 0
    · simp only [if_pos c0]
      rw [diff_true (by
        rintro ⟨_, _, hk, _, _⟩
        have := ((rightB_iff _).1 hx).2.2.2.2.1
        simp only [toR] at this
        rw [← hk] at this
        exact absurd this (by decide))]
      exact Ev.now _
    · simp only [if_neg c0]
      exact Ev.now _
  | ok p =>
    obtain ⟨r, w⟩ := p
    rw [hget] at hgv
    simp only [tupR] at hgv
    refine Ev.bind hgv ?_
    simp only [cooperagelaw4_num.f, Option.bind_some, if_true]
    rw [diff_true (by
      rintro ⟨h1, h2, h3, h4, h5⟩
      obtain ⟨a1, a2, a3⟩ := getE_ok hb2 hget
      have er : r = toR x := by cases r; simp only [toR]; simp only at h1 h2 h3 h4 h5; rw [h1, h2, h3, h4, h5]
      rw [er, hc] at a2 a3
      have hl2 : (c.set i (turn c[i] s)).length = c.length := List.length_set ..
      rw [List.drop_of_length_le (by omega), List.append_nil] at a2
      have h6 : (c.set i (turn c[i] s))[i]'(by omega) = c[i] := by simp only [a2]
      rw [List.getElem_set_self] at h6
      exact hne h6)]
    exact Ev.now _
theorem row_read (l : List S25) (n bit : Int) (hn : 0 ≤ n) (hlen : l.length ≤ 20) :
    ∀ (d i : Nat), i + d = (goods l).length → Ev (fun k => cooperagelaw4_RecordRow.l1 k n bit (bytesR l) (goods l) ((bytesR ((goods l).take i)).length : Int) (i : Int)) true := by
  have hbl := bytesR_len l
  have hbg := bytesR_goods l
  have hgl : (goods l).length ≤ l.length := List.length_filter_le ..
  have hgr : ∀ x ∈ goods l, rightB (toR x) = true := fun x hx => goods_right hx
  generalize goods l = g at *
  intro d
  induction d with
  | zero =>
    intro i hi
    refine Ev.step (fun k => by simp only [cooperagelaw4_RecordRow.l1]; rfl) ?_
    simp only [if_neg (show ¬ ((i : Int) < (g.length : Int)) by omega)]
    rw [List.take_of_length_le (by omega), hbg]
    by_cases c : (g.length : Int) = 0
    · simp only [if_pos c]
      refine Ev.step (fun k => by simp only [cooperagelaw4_RecordRow.j4, if_true]; rfl) ?_
      rw [beq_self_eq_true]
      exact Ev.now _
    · simp only [if_neg c]
      rw [bne_self_eq_false]
      have hp : 0 < g.length := by omega
      exact turned_other g[0] n bit hn (hgr _ (List.getElem_mem hp)) g (rdT_get hp) hp _ _
  | succ d ih =>
    intro i hi
    have hlt : i < g.length := by omega
    have hx := hgr _ (List.getElem_mem hlt)
    have hle := recBytes_le hx
    have hnext := ih (i + 1) (by omega)
    have ht : g.take (i + 1) = g.take i ++ [g[i]] := List.take_succ_eq_append_getElem hlt
    have hpb : putBytes (toR g[i]) = recBytes (toR g[i]) := by rw [putBytes, if_pos hx]
    rw [ht, bytesR_append, bytesR_one, hpb] at hnext
    have hsplit : bytesR l = bytesR (g.take i) ++ (recBytes (toR g[i]) ++ bytesR (g.drop (i + 1))) := by
      rw [← hbg]
      conv => lhs; rw [← List.take_append_drop i g, List.drop_eq_getElem_cons hlt]
      rw [bytesR_append, bytesR_cons, hpb]
    have hlen3 := congrArg List.length hsplit
    simp only [List.length_append] at hlen3
    refine Ev.step (fun k => by simp only [cooperagelaw4_RecordRow.l1]; rfl) ?_
    simp only [if_pos (show (i : Int) < (g.length : Int) by omega), if_neg (show ¬ (((bytesR (g.take i)).length : Int) > ((bytesR l).length : Int)) by omega), if_pos (show (0 : Int) ≤ ((bytesR (g.take i)).length : Int) by omega), if_pos (show ((bytesR (g.take i)).length : Int) ≤ ((bytesR l).length : Int) by omega), Int.toNat_natCast]
    have hd : (bytesR l).drop (bytesR (g.take i)).length = recBytes (toR g[i]) ++ bytesR (g.drop (i + 1)) := by rw [hsplit, List.drop_left]
    rw [hd]
    have hgv := getr_ev _ ((recBytes_bytes (toR g[i])).append (bytesR_bytes (g.drop (i + 1)))) (by rw [List.length_append]; omega)
    rw [getE_rec hx] at hgv
    simp only [tupR, toR] at hgv
    refine Ev.bind hgv ?_
    simp only [cooperagelaw4_num.f, Option.bind_some, if_true, if_pos (show (0 : Int) ≤ (i : Int) by omega), rdT_get hlt, toR, beq_self_eq_true, Bool.not_true, Bool.or_self, Bool.false_eq_true, if_false]
    have hrl : ¬ (((recBytes (⟨g[i].f0, g[i].f1, g[i].f2, g[i].f3, g[i].f4⟩ : Rec)).length : Int) < 1) := by
      have := hle.2; simp only [toR] at this; omega
    simp only [if_neg hrl]
    simp only [toR] at hnext hlen3
    rw [List.length_append] at hnext
    have e1 : wrap64 (((bytesR (g.take i)).length : Int) + ((recBytes (⟨g[i].f0, g[i].f1, g[i].f2, g[i].f3, g[i].f4⟩ : Rec)).length : Int)) = (((bytesR (g.take i)).length + (recBytes (⟨g[i].f0, g[i].f1, g[i].f2, g[i].f3, g[i].f4⟩ : Rec)).length : Nat) : Int) := w64n (by omega) (by omega)
    have e2 : wrap64 ((i : Int) + 1) = ((i + 1 : Nat) : Int) := w64n (by omega) (by clear e1; omega)
    rw [e1, e2]
    exact hnext
theorem RecordRow (l : List S25) (n : Int) (hn : (Lit.int .i64 n).wf = true) (bit : Int) (hb : (Lit.int .i64 bit).wf = true) : ∃ k, cooperagelaw4_RecordRow.f k l n bit = some true := by
  apply Ev.rounds (g := fun k => cooperagelaw4_RecordRow.f k l n bit)
  unfold cooperagelaw4_RecordRow.f
  refine Ev.bind ralive_ev ?_
  simp only [if_true]
  have out : Ev (fun k => cooperagelaw4_RecordRow.j0 k l n bit true true) true :=
    Ev.step (fun k => by simp only [cooperagelaw4_RecordRow.j0, if_true]) (Ev.now _)
  by_cases c1 : (l.length : Int) > 20
  · simp only [if_pos c1]; exact out
  simp only [if_neg c1]
  by_cases c2 : n < 0
  · rw [decide_eq_true c2]; exact out
  rw [decide_eq_false c2]
  refine Ev.step (fun k => by simp only [cooperagelaw4_RecordRow.j0]; rfl) ?_
  simp only [Bool.false_eq_true, if_false]
  exact row_write l n bit (by omega) (row_read l n bit (by omega) (by omega) (goods l).length 0 (by omega)) l.length 0 (by omega)
end Go.Proofs.Ytpafbpfcoacidaa.Pure

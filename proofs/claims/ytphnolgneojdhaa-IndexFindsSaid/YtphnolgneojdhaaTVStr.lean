/- Strings and the numbers of their bytes. -/
import Derived.Test.YtphnolgneojdhaaTVBase
import Derived.Lib.Bytes
namespace Go.Proofs.Ytphnolgneojdhaa.TV
open Go.RowKit Go.Proofs.YtphnolgneojdhaaW.PrintWords Go.Proofs.YtphnolgneojdhaaW.PrintLast
set_option linter.unusedVariables false
set_option linter.unusedSimpArgs false

theorem str_inj {a b : List Int} (ha : Bytes a) (hb : Bytes b) (h : (strOfNums a).toList = (strOfNums b).toList) : a = b := by
  rw [Lib.strOfNums_toList, Lib.strOfNums_toList] at h
  have e : ∀ l : List Int, Bytes l → (Lib.bytesOf l).map (fun c => (c.toNat : Int)) = l := by
    intro l hl
    unfold Lib.bytesOf
    rw [List.map_map]
    conv => rhs; rw [← List.map_id l]
    apply List.map_congr_left
    intro c hc
    have := hl c hc
    unfold IsB at this
    simp only [Function.comp, id_eq, UInt8.toNat_ofNat']
    omega
  rw [← e a ha, ← e b hb, h]
theorem str_iff {a b : List Int} (ha : Bytes a) (hb : Bytes b) : (strOfNums a).toList = (strOfNums b).toList ↔ a = b := ⟨str_inj ha hb, fun h => by rw [h]⟩
theorem str_beq {a b : List Int} (ha : Bytes a) (hb : Bytes b) : ((strOfNums a).toList == (strOfNums b).toList) = decide (a = b) := by
  by_cases h : a = b
  · subst h; simp
  · rw [decide_eq_false h, beq_eq_false_iff_ne]; intro e; exact h (str_inj ha hb e)

theorem toList_inj {a b : ByteArray} (h : a.toList = b.toList) : a = b := by
  rw [Lib.toList_data, Lib.toList_data] at h
  cases a with
  | mk a => cases b with
    | mk b => simp only at h; congr 1; exact Array.toList_inj.1 h
theorem toList_beq (a b : ByteArray) : (a.toList == b.toList) = decide (a = b) := by
  by_cases h : a = b
  · subst h; simp
  · rw [decide_eq_false h, beq_eq_false_iff_ne]; intro e; exact h (toList_inj e)
theorem bytesOf_bytes (s : ByteArray) : Bytes (bytesOf s) := by
  intro c hc
  simp only [bytesOf, List.mem_map] at hc
  obtain ⟨b, _, rfl⟩ := hc
  have := b.toNat_lt
  unfold IsB; omega
theorem str_of_bytes (s : ByteArray) : strOfNums (bytesOf s) = s := by
  apply toList_inj
  rw [Lib.strOfNums_toList, Lib.toList_data]
  unfold Lib.bytesOf bytesOf
  rw [List.map_map]
  conv => rhs; rw [← List.map_id s.data.toList]
  apply List.map_congr_left
  intro c hc
  simp only [Function.comp, id_eq]
  have := c.toNat_lt
  apply UInt8.toNat.inj
  simp
theorem bytes_of_str {l : List Int} (h : Bytes l) : bytesOf (strOfNums l) = l := str_inj (bytesOf_bytes _) h (by rw [str_of_bytes])
theorem str_size {l : List Int} (h : Bytes l) : (strOfNums l).size = l.length := by rw [← bytesOf_length, bytes_of_str h]
theorem bytesOf_inj {a b : ByteArray} (h : bytesOf a = bytesOf b) : a = b := by rw [← str_of_bytes a, h, str_of_bytes]
theorem empty_list (s : ByteArray) : s.toList = ([] : List UInt8) ↔ s.size = 0 := by
  rw [Lib.toList_data, ← data_length]
  constructor
  · intro h; rw [h]; rfl
  · intro h; exact List.eq_nil_of_length_eq_zero h
theorem empty_str {s : ByteArray} (h : s.size = 0) : s = (⟨#[]⟩ : ByteArray) := toList_inj (by rw [(empty_list s).2 h, Lib.toList_data])
/-- so many bytes from a place on -/
def cut (b : List Int) (i n : Nat) : List Int := (b.take (i + n)).drop i
theorem cut_bytes {b : List Int} (h : Bytes b) (i n : Nat) : Bytes (cut b i n) := (h.take _).drop _
theorem cut_len {b : List Int} {i n : Nat} (h : i + n ≤ b.length) : (cut b i n).length = n := by simp [cut]; omega
theorem cut_drop (b : List Int) (a i n : Nat) : cut (b.drop a) i n = cut b (a + i) n := by
  unfold cut
  rw [List.take_drop, List.drop_drop, Nat.add_assoc]
theorem cut_mid (a m c : List Int) : cut (a ++ (m ++ c)) a.length m.length = m := by
  unfold cut
  rw [← List.append_assoc, show a.length + m.length = (a ++ m).length from by simp, List.take_left, List.drop_left]
end Go.Proofs.Ytphnolgneojdhaa.TV

/- Plain facts on byte strings, lists of numbers and 64-bit wrapping, used by the proofs of this seat's laws. No condition. -/
import Derived.Test.YtkmfhfejogjnfaaXx0
namespace Go.Proofs.Ytkmfhfejogjnfaa.B
open Go.RowKit Go.Proofs.YtkmfhfejogjnfaaW.PrintWords Go.Proofs.YtkmfhfejogjnfaaW.PrintLast Go.Proofs.YtkmfhfejogjnfaaW.PrintMore
set_option linter.unusedVariables false
set_option linter.unusedSimpArgs false

theorem ba_ext {s t : ByteArray} (h : s.data.toList = t.data.toList) : s = t := by
  cases s with
  | mk a => cases t with
    | mk b => simpa [Array.toList_inj] using h
theorem ba_toList (s : ByteArray) : s.toList = s.data.toList := ByteArray.toList_eq s
theorem ba_toList_inj {s t : ByteArray} : s.toList = t.toList ↔ s = t := by
  rw [ba_toList, ba_toList]
  exact ⟨ba_ext, fun h => by rw [h]⟩
theorem ba_beq {s t : ByteArray} : (s.toList == t.toList) = decide (s = t) := by
  rw [Bool.eq_iff_iff]; simp [ba_toList_inj]
theorem ba_size (s : ByteArray) : s.size = s.data.toList.length := by rw [Array.length_toList]; rfl
theorem ba_append (s t : ByteArray) : (s ++ t).data.toList = s.data.toList ++ t.data.toList := by simp
theorem ba_extract (s : ByteArray) (a b : Nat) : (s.extract a b).data.toList = (s.data.toList.take b).drop a := by
  simp
  rw [List.drop_take]
/-- The bytes of a text, as numbers. -/
theorem ba_bytesOf {s t : ByteArray} : bytesOf s = bytesOf t ↔ s = t := by
  constructor
  · intro h
    refine ba_ext ?_
    unfold bytesOf at h
    exact (List.map_inj_right (fun x y hxy => UInt8.toNat_inj.mp (by omega))).mp h
  · intro h; rw [h]
theorem bytes_range (s : ByteArray) : ∀ x ∈ bytesOf s, 0 ≤ x ∧ x < 256 := by
  intro x hx
  obtain ⟨b, _, rfl⟩ := List.mem_map.mp hx
  have := UInt8.toNat_lt b
  omega
theorem bytes_str {xs : List Int} (h : ∀ x ∈ xs, 0 ≤ x ∧ x < 256) : bytesOf (strOfNums xs) = xs := by
  unfold bytesOf
  rw [strOfNums_data, List.map_map]
  conv => rhs; rw [← List.map_id xs]
  refine List.map_congr_left fun x hx => ?_
  have := h x hx
  simp
  omega
theorem str_bytes (s : ByteArray) : strOfNums (bytesOf s) = s := by
  rw [← ba_bytesOf]; exact bytes_str (bytes_range s)
theorem bytes_append (s t : ByteArray) : bytesOf (s ++ t) = bytesOf s ++ bytesOf t := by
  unfold bytesOf; rw [ba_append, List.map_append]
theorem bytes_extract (s : ByteArray) (a b : Nat) : bytesOf (s.extract a b) = ((bytesOf s).take b).drop a := by
  unfold bytesOf; rw [ba_extract, List.map_drop, List.map_take]
theorem bytes_empty : bytesOf ⟨#[]⟩ = [] := rfl
theorem str_nil : strOfNums [] = ⟨#[]⟩ := rfl
theorem str_append (xs ys : List Int) : strOfNums xs ++ strOfNums ys = strOfNums (xs ++ ys) := by
  refine ba_ext ?_
  rw [ba_append, strOfNums_data, strOfNums_data, strOfNums_data, List.map_append]
theorem str_extract (xs : List Int) (a b : Nat) : (strOfNums xs).extract a b = strOfNums ((xs.take b).drop a) := by
  refine ba_ext ?_
  rw [ba_extract, strOfNums_data, strOfNums_data, List.map_drop, List.map_take]
theorem ba_nil_append (s : ByteArray) : (⟨#[]⟩ : ByteArray) ++ s = s := ba_ext (by rw [ba_append]; rfl)
theorem ba_append_nil (s : ByteArray) : s ++ (⟨#[]⟩ : ByteArray) = s := ba_ext (by rw [ba_append]; simp)
theorem ba_append_assoc (s t u : ByteArray) : s ++ t ++ u = s ++ (t ++ u) := ba_ext (by simp [ba_append])
theorem ba_size_append (s t : ByteArray) : (s ++ t).size = s.size + t.size := by rw [ba_size, ba_append, List.length_append, ← ba_size, ← ba_size]
theorem ba_size_extract (s : ByteArray) (a b : Nat) : (s.extract a b).size = min b s.size - a := by rw [ba_size, ba_extract, List.length_drop, List.length_take, ← ba_size]
theorem ba_extract_append_left (s t : ByteArray) (a b : Nat) (h : b ≤ s.size) : (s ++ t).extract a b = s.extract a b := by
  refine ba_ext ?_
  rw [ba_extract, ba_extract, ba_append, List.take_append_of_le_length (by rw [← ba_size]; exact h)]
theorem ba_extract_append_right (s t : ByteArray) (a b : Nat) (h : s.size ≤ a) : (s ++ t).extract a b = t.extract (a - s.size) (b - s.size) := by
  refine ba_ext ?_
  rw [ba_extract, ba_extract, ba_append, List.take_append, List.drop_append]
  have h1 : List.drop a (List.take b s.data.toList) = [] := List.drop_eq_nil_of_le (by rw [List.length_take, ← ba_size]; omega)
  rw [h1, List.nil_append, List.length_take, ← ba_size]
  by_cases hb : b ≤ s.size
  · rw [show b - s.size = 0 by omega]; simp
  · rw [show min b s.size = s.size by omega]
theorem ba_extract_all (s : ByteArray) (b : Nat) (h : s.size ≤ b) : s.extract 0 b = s := by
  refine ba_ext ?_
  rw [ba_extract, List.drop_zero, List.take_of_length_le (by rw [← ba_size]; exact h)]
theorem ba_extract_split (s : ByteArray) (a b c : Nat) (h1 : a ≤ b) (h2 : b ≤ c) : s.extract a b ++ s.extract b c = s.extract a c := by
  refine ba_ext ?_
  rw [ba_append, ba_extract, ba_extract, ba_extract]
  have e : List.take b s.data.toList = List.take b (List.take c s.data.toList) := by rw [List.take_take, Nat.min_eq_left h2]
  rw [e]
  generalize List.take c s.data.toList = l
  rw [List.drop_take, ← List.take_append_drop (b - a) (List.drop a l)]
  congr 1
  · rw [List.take_append_drop]
  · rw [List.drop_drop, show a + (b - a) = b by omega]
theorem ba_empty_size {s : ByteArray} : s.size = 0 ↔ s = ⟨#[]⟩ := by
  constructor
  · intro h
    refine ba_ext (List.eq_nil_of_length_eq_zero ?_)
    rw [← ba_size]; exact h
  · rintro rfl; rfl
theorem ba_eq_nil {s : ByteArray} : s.toList = ([] : List UInt8) ↔ s = ⟨#[]⟩ := by
  rw [ba_toList]
  exact ⟨fun h => ba_ext (by rw [h]), fun h => by rw [h]⟩
/-- What a first step answers, and then the rest (the kernel must not hold the first step's text against its answer). -/
theorem bind_eq {α β : Type} {x : Option α} {a : α} {f : α → Option β} {r : Option β} (h : x = some a) (k : f a = r) : x.bind f = r := by rw [h]; exact k
theorem w64 {x : Int} (h0 : -9223372036854775808 ≤ x) (h1 : x ≤ 9223372036854775807) : wrap64 x = x := by
  unfold wrap64; omega
theorem wf64 {x : Int} (h : (Lit.int .i64 x).wf = true) : -9223372036854775808 ≤ x ∧ x ≤ 9223372036854775807 := by
  simp [Lit.wf, IntKind.min, IntKind.max, IntKind.bits, IntKind.signed] at h
  omega
end Go.Proofs.Ytkmfhfejogjnfaa.B

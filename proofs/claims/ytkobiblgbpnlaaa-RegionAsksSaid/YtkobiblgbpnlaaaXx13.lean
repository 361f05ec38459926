/- What each Go function that these laws use answers: as a Lean function, with the proof that the machine's call comes to it. Written by a program of this session (xprint.py). -/
import Derived.Test.YtkobiblgbpnlaaaXx0
namespace Go.Proofs.Ytkobiblgbpnlaaa.X
open Go.RowKit Go.Proofs.YtkobiblgbpnlaaaW.PrintWords Go.Proofs.YtkobiblgbpnlaaaW.PrintLast Go.Proofs.YtkobiblgbpnlaaaW.PrintMore
attribute [local go_sem] max2_int min2_int max_two min_two max_three min_three max_four min_four   -- for this text's walks alone
set_option linter.unusedVariables false
set_option linter.unusedSimpArgs false

-- NOT PRINTED: function 69 (slices_partitionOrdered_int)

-- NOT PRINTED: function 58 (slices_pdqsortOrdered_int)

-- NOT PRINTED: function 53 (slices_Sort_int_int)

-- NOT PRINTED: function 54 (slices_Compact_int_int)

/-! ### region_sorted: function 42 -/
/-- Numbers, each once, as they rise. -/
def srtM (M : List Int) : List Int := Lib.compact (M.mergeSort fun x y => decide (x ≤ y))
theorem put_block {enc : Int → Value} {w : World} {g off : Nat} {d : Array Int} {cur : Array Value} {e : TypeId} {fr : Nat × Nat} (h : w.heap[g]? = some (.cells cur e fr)) : (Sort.putRow enc w g off d).heap[g]? = some (.cells (Sort.putCells enc off d cur) e fr) := by
  simp [Sort.putRow, Sort.mapBlock, Array.getElem?_modify, h, Sort.onCells]
theorem put_other {enc : Int → Value} (w : World) (g off : Nat) (d : Array Int) (k : Nat) (h : k ≠ g) : (Sort.putRow enc w g off d).heap[k]? = w.heap[k]? := by
  simp [Sort.putRow, Sort.mapBlock, Array.getElem?_modify, Ne.symm h]
theorem putCells_take (enc : Int → Value) (l : List Int) (r : List Int) (cur : Array Value) (h : (l ++ r).length ≤ cur.size) : (Sort.putCells enc 0 (l ++ r).toArray cur).toList.take l.length = l.map enc := by
  apply List.ext_getElem?
  intro i
  by_cases hi : i < l.length
  · have h1 : i < cur.size := by rw [List.length_append] at h; omega
    have h2 : i < (l ++ r).length := by rw [List.length_append]; omega
    rw [List.getElem?_take_of_lt hi, List.getElem?_map, List.getElem?_eq_getElem hi, Array.getElem?_toList]
    unfold Sort.putCells
    rw [Array.getElem?_mapIdx, Array.getElem?_eq_getElem h1]
    simp only [Option.map_some, Nat.zero_le, true_and, Nat.zero_add, Nat.sub_zero]
    rw [if_pos (by simpa using h2), getElem!_pos _ i (by simpa using h2)]
    simp [List.getElem_append_left hi]
  · rw [List.getElem?_take_eq_none (by omega), List.getElem?_eq_none (by rw [List.length_map]; omega)]
theorem own_put {w w' : World} {base g cap : Nat} {l r : List Int} {cur : Array Value} (hb : base ≤ g) (hcap : cap ≤ maxLen) (hs : cur.size = cap) (hl : (l ++ r).length ≤ cap) (h : w'.heap[g]? = some (.cells (Sort.putCells (Value.int .i64) 0 (l ++ r).toArray cur) 3 (0, 0))) : w'.ownsRow base 3 1 (.slice (some ⟨g, 0, none⟩) l.length cap) l.length (l.map (Value.int .i64)) :=
  ⟨by simp, .inr ⟨g, cap, _, rfl, hb, h, by rw [List.length_append] at hl; omega, hcap, by simp [Sort.putCells, hs], by rw [Nat.mul_one]; exact putCells_take _ l r cur (by omega)⟩⟩
set_option maxHeartbeats 2000000 in
theorem sortedM_c (v : Value) (n : Nat) (xs : List Int) (base : Nat) (w : World) (ho : w.ownsRow base 3 1 v n (xs.map (Value.int .i64))) (hx : xs.length < 4611686018427387904) :
    Calls Try.prog 42 #[v] w fun e w' => ∃ v', e = .returned v' ∧ w'.ownsRow base 3 1 v' (srtM xs).length ((srtM xs).map (Value.int .i64)) ∧ v'.ownBlock = v.ownBlock ∧ w.grownBy w' v.ownBlock := by
  obtain ⟨hlen, hv⟩ := ho
  have hn : n = xs.length := by simpa using hlen.symm
  subst hn
  rcases hv with ⟨rfl, h0⟩ | ⟨g, cap, cur, rfl, hb, hg, hnc, hcm, hcs, htk⟩
  · have hx0 : xs = [] := List.length_eq_zero_iff.1 h0
    subst hx0
    have h1 := Try.slices_Sort_int_none none 0 w
    have h2 := Try.slices_Compact_int_empty none 0 w
    have H1 := Lib.hid h1
    have H2 := Lib.hid h2
    clear h1 h2
    go_enter Try.func42, Try.ntmps42
    go_wp2_with fail
    refine H1.out.mono ?_
    rintro e w' ⟨rfl, rfl⟩
    go_wp2_with fail
    refine H2.out.mono ?_
    rintro e w' ⟨rfl, rfl⟩
    go_wp2_with fail
    go_ret
    have he : srtM [] = [] := by unfold srtM; rw [List.mergeSort_nil]; rfl
    rw [he]
    exact ⟨_, rfl, World.ownsRow_nil _ _ _ _, rfl, ⟨rfl, rfl, rfl, Nat.le_refl _, fun _ _ _ => rfl⟩⟩
  · have hH : Sort.Holds (Value.int .i64) w g 0 xs.toArray := fun j hj => by
      have hj2 : j < xs.length := by simpa using hj
      have h3 : cur.toList[j]? = some (.int .i64 xs[j]) := by
        have h4 := congrArg (fun l : List Value => l[j]?) htk
        rw [Nat.mul_one, List.getElem?_take_of_lt hj2, List.getElem?_map, List.getElem?_eq_getElem hj2] at h4
        exact h4
      rw [Nat.zero_add]
      refine ⟨(blk_cell hg j).trans ?_, blk_frozen hg j⟩
      rw [← Array.getElem?_toList, h3, getElem!_pos _ j hj]
      simp
    have hgl := blk_lt hg
    have h1 := Try.slices_Sort_int g 0 cap xs w hH hgl hx
    have hsl : (xs.mergeSort fun x y => decide (x ≤ y)).length = xs.length := List.length_mergeSort _
    obtain ⟨ys, hys⟩ : ∃ ys, (xs.mergeSort fun x y => decide (x ≤ y)) = ys := ⟨_, rfl⟩
    have hS : srtM xs = Lib.compact ys := by unfold srtM; rw [hys]
    rw [hys] at h1 hsl
    have hcl : (Lib.compact ys).length ≤ ys.length := by
      unfold Lib.compact Lib.compactUpTo
      rw [List.length_map]
      exact Nat.le_trans (List.length_filter_le _ _) (by simp)
    have HC : ∀ W : World, Sort.Holds (Value.int .i64) W g 0 ys.toArray → Calls Try.prog 54 #[.slice (some ⟨g, 0, none⟩) xs.length cap] W fun e w' => e = .returned (.slice (some ⟨g, 0, none⟩) (Lib.compact ys).length cap) ∧ ∃ q, w' = Sort.putRow (Value.int .i64) (Sort.ahead W q) g 0 (Lib.compact ys ++ List.replicate (ys.length - (Lib.compact ys).length) 0).toArray := fun W hW => by
      have h2 := Try.slices_Compact_int g 0 cap ys W hW (by omega) (by omega)
      rw [hsl] at h2
      rwa [hsl]
    have H1 := Lib.hid h1
    have HC2 := Lib.hid HC
    have HH := Lib.hid hH
    have HG := Lib.hid hg
    have HK := Lib.hid (And.intro hb (And.intro hnc (And.intro hcm (And.intro hcs (And.intro hsl (And.intro hcl (And.intro hgl hS)))))))
    clear h1 HC hH hg hb hnc hcm hcs hsl hcl hys htk hlen hS
    go_enter Try.func42, Try.ntmps42
    go_wp2_with fail
    refine H1.out.mono ?_
    rintro e w1 ⟨rfl, n1, os, hw1⟩
    have HW1 := Lib.hid hw1
    obtain ⟨hb, hnc, hcm, hcs, hsl, hcl, hgl2, hS⟩ := HK.out
    have h2 : Sort.Holds (Value.int .i64) w1 g 0 ys.toArray := by
      rw [hw1]
      exact Sort.holds_grow _ _ os g 0 _ (by simpa using hgl2) (Sort.holds_putRow _ _ g 0 xs.toArray _ HH.out (by simpa using hsl))
    have H2 := Lib.hid h2
    clear hw1 h2 hb hnc hcm hcs hsl hcl hgl2 hS
    go_wp2_with fail
    refine (HC2.out w1 H2.out).mono ?_
    rintro e w2 ⟨rfl, q, hw2⟩
    have HW2 := Lib.hid hw2
    clear hw2
    go_wp2_with fail
    go_ret
    obtain ⟨hb, hnc, hcm, hcs, hsl, hcl, hgl2, hS⟩ := HK.out
    have hw1 := HW1.out
    have hw2 := HW2.out
    have b1 : w1.heap[g]? = some (.cells (Sort.putCells (Value.int .i64) 0 ys.toArray cur) 3 (0, 0)) := by
      rw [hw1, Sort.heap_grow_old _ _ (by simpa using hgl2)]
      exact put_block HG.out
    have b2 : w2.heap[g]? = some (.cells (Sort.putCells (Value.int .i64) 0 (Lib.compact ys ++ List.replicate (ys.length - (Lib.compact ys).length) 0).toArray (Sort.putCells (Value.int .i64) 0 ys.toArray cur)) 3 (0, 0)) := by
      rw [hw2]
      exact put_block (w := Sort.ahead w1 q) b1
    rw [hS]
    refine ⟨_, rfl, own_put (w := w) hb hcm (by simp [Sort.putCells, hcs]) (by rw [List.length_append, List.length_replicate]; omega) b2, rfl, ?_⟩
    rw [hw2, hw1]
    refine ⟨rfl, rfl, rfl, by simp [Sort.putRow, Sort.mapBlock, Sort.ahead, Sort.grow], fun k hk hne => ?_⟩
    have hkg : k ≠ g := fun e => hne (by rw [e]; rfl)
    rw [put_other _ _ _ _ _ hkg]
    show (Sort.grow _ os).heap[k]? = _
    rw [Sort.heap_grow_old _ _ (by simpa using hk), put_other _ _ _ _ _ hkg]
    rfl
def srtL (M : List Int) : List Int := Go.Proofs.Ytkobiblgbpnlaaa.RG.isrt M
theorem srtM_eq (M : List Int) : srtM M = srtL M := Go.Proofs.Ytkobiblgbpnlaaa.RG.srt_isrt M
theorem sorted_c (v : Value) (n : Nat) (xs : List Int) (base : Nat) (w : World) (ho : w.ownsRow base 3 1 v n (xs.map (Value.int .i64))) (hx : xs.length < 4611686018427387904) :
    Calls Try.prog 42 #[v] w fun e w' => ∃ v', e = .returned v' ∧ w'.ownsRow base 3 1 v' (srtL xs).length ((srtL xs).map (Value.int .i64)) ∧ v'.ownBlock = v.ownBlock ∧ w.grownBy w' v.ownBlock := by
  have h := sortedM_c v n xs base w ho hx
  rw [srtM_eq] at h
  exact h

-- NOT PRINTED: function 56 (region_span_56)

-- NOT PRINTED: function 47 (region_span_47)

end Go.Proofs.Ytkobiblgbpnlaaa.X

/- A queue at any place of a block: Put and Take. No condition. -/
import Derived.Test.YtogmfibilopppaaBLD
import Derived.Test.YtogmfibilopppaaShelf
import Derived.Lib.OwnBridge
import Derived.Maps.AppendAt
import Derived.OwnWalk
namespace Go.Proofs.Ytogmfibilopppaa.Q
open Go.RowKit Go.Proofs.YtogmfibilopppaaW.PrintWords
set_option linter.unusedVariables false
set_option linter.unusedSimpArgs false
theorem kept_putRow {α : Type} [Inhabited α] (enc : α → Value) (w : World) (q g : Nat) (d : Array α) : Kept w (Go.Sort.putRow enc (Go.Sort.ahead w q) g 0 d) (fun k => k = g) :=
  ⟨by simp [Go.Sort.putRow, Go.Sort.mapBlock, Go.Sort.ahead], fun k hk hn => by simp [Go.Sort.putRow, Go.Sort.mapBlock, Go.Sort.ahead, Array.getElem?_modify, show g ≠ k from fun e => hn e.symm]⟩
/-- A queue at cell o of block b (its type T, its cells cs; elements of type e): it holds xs in the row (none: nil). -/
def QAt (T e B b o : Nat) (cs : List Value) (row : Option Nat) (xs : List Value) (w : World) : Prop :=
  B ≤ b ∧ w.heap[b]? = some (.cells cs.toArray T (0, 0)) ∧ ∃ v, cs[o]? = some v ∧ w.ownsRow B e 1 v xs.length xs ∧ v.ownBlock = row ∧ row ≠ some b
theorem QAt.len {T e B b o : Nat} {cs : List Value} {row : Option Nat} {xs : List Value} {w : World} (h : QAt T e B b o cs row xs w) : o < cs.length := by
  obtain ⟨_, _, v, hv, _⟩ := h
  exact (List.getElem?_eq_some_iff.1 hv).1
theorem QAt.keep {T e B b o : Nat} {cs : List Value} {row : Option Nat} {xs : List Value} {w w1 : World} {S : Nat → Prop} (h : QAt T e B b o cs row xs w) (hk : Kept w w1 S) (hb : ¬ S b) (hr : ∀ k, row = some k → ¬ S k) : QAt T e B b o cs row xs w1 := by
  obtain ⟨h1, h2, v, h4, h5, h6, h7⟩ := h
  exact ⟨h1, blk_kept h2 hk hb, v, h4, own_move h5 (fun k hk' => hk.2 k (own_lt h5 k hk') (hr k (h6.symm.trans hk'))), h6, h7⟩
theorem QAt.drewN {T e B b o : Nat} {cs : List Value} {row : Option Nat} {xs : List Value} {w : World} (h : QAt T e B b o cs row xs w) (n : Nat) : QAt T e B b o cs row xs (w.drewN n) := h
/-- Another cell of the block is written. -/
theorem QAt.put {T e B b o : Nat} {cs : List Value} {row : Option Nat} {xs : List Value} {w : World} (h : QAt T e B b o cs row xs w) (j : Nat) (hj : j ≠ o) (u : Value) : QAt T e B b o (cs.set j u) row xs (w.setCell ⟨b, j, none⟩ u) := by
  obtain ⟨h1, h2, v, h4, h5, h6, h7⟩ := h
  exact ⟨h1, by simpa using blk_set h2 j u, v, by rw [List.getElem?_set_ne hj]; exact h4, own_move h5 (fun k hk => Below.heap_setCell _ _ _ _ (by rintro rfl; exact h7 (h6.symm.trans hk))), h6, h7⟩
theorem QAt.row_lt {T e B b o : Nat} {cs : List Value} {row : Option Nat} {xs : List Value} {w : World} (h : QAt T e B b o cs row xs w) (k : Nat) (hk : row = some k) : k < w.heap.size ∧ B ≤ k := by
  obtain ⟨h1, h2, v, h4, h5, h6, h7⟩ := h
  exact ⟨own_lt h5 k (h6.trans hk), own_base h5 k (h6.trans hk)⟩
theorem QAt.lt {T e B b o : Nat} {cs : List Value} {row : Option Nat} {xs : List Value} {w : World} (h : QAt T e B b o cs row xs w) : b < w.heap.size := blk_lt h.2.1

/-! ### elements: string -/
theorem info_s : (Try.prog.info? 9).map (fun i => (i.zero, i.size, i.bytes)) = some (some (.string ⟨#[]⟩), 1, 16) := by kernel_rfl
set_option maxHeartbeats 2000000 in
set_option maxRecDepth 100000 in
theorem Put_s (T B b o : Nat) (cs : List Value) (row : Option Nat) (xs : List Value) (x : ByteArray) (w : World) (h : QAt T 9 B b o cs row xs w) (hl : xs.length < 1000000000000) (hBw : B ≤ w.heap.size) :
    Calls Try.prog 25 #[.pointer (some ⟨b, o, none⟩), .string x] w fun e w' => e = .returned (.tuple #[]) ∧
      ∃ v row', QAt T 9 B b o (cs.set o v) row' (xs ++ [.string x]) w' ∧ (row' = row ∨ ∃ k, row' = some k ∧ w.heap.size ≤ k) ∧ Below B w w' ∧ Kept w w' (fun k => k = b ∨ row = some k) := by
  obtain ⟨i0, hi, hz0, hz1, hz2⟩ := info_parts info_s
  have hlen := h.len
  obtain ⟨hB, hbk, v, hv, hown, hrow, hne⟩ := h
  have c1 : w.cell? ⟨b, o, none⟩ = some v := by rw [blk_cell hbk]; simpa using hv
  have HR := Lib.hid hrow
  have HBK := Lib.hid hbk
  have HO := Lib.hid hown
  clear hv hrow hbk hown
  go_enter Try.func25, Try.ntmps25
  go_wp2_with (at_builtin; refine wpList_append_own_at _ rfl _ _ 47 rfl B 9 i0 (.string ⟨#[]⟩) 1 16 Try.underlying47 hi hz0 hz1 hz2 rfl (by decide) _ _ _ rfl (HO.out.alloc _) ⟨w.heap.size, 0, none⟩ 1 1 [.string x] rfl rfl ?c1 ?c2 ?c3 ?c4 ?c5 ?_)
  case c1 =>
    intro j u hj
    match j, hj with
    | 0, hj => simp at hj; subst hj; simp [Addr.add]
  case c2 => intro u hu; simp at hu; subst hu; rfl
  case c3 => unfold maxLen; omega
  case c4 => omega
  case c5 => simp; omega
  intro v' w2 hown' hgrow _ hat
  have hb1 : (w.alloc (.cells #[.string x] 9)).heap[b]? = some (.cells cs.toArray T (0, 0)) := blk_alloc HBK.out _
  have hb2 := blk_grown hb1 hgrow (by rw [HR.out]; exact Ne.symm hne)
  have f1 : w2.frozen? ⟨b, o, none⟩ = false := blk_frozen hb2 _
  have hsz : (w.alloc (.cells #[.string x] 9)).heap.size = w.heap.size + 1 := by simp
  have HS := Lib.hid hsz
  have d1 : w2.cell? ⟨b, o, none⟩ = some v := by
    rw [blk_cell hb2, ← blk_cell HBK.out]; exact c1
  have HG := Lib.hid hgrow
  have HN := Lib.hid hown'
  have HB2 := Lib.hid hb2
  have HAT := Lib.hid hat
  clear hgrow hown' hb2 hb1 hat hsz
  obtain ⟨ao, n', cap, rfl⟩ : ∃ ao n' cap, v' = .slice ao n' cap := by
    rcases HN.out.2 with ⟨hv, _⟩ | ⟨g, cap, cur, hv, _⟩
    · exact ⟨_, _, _, hv⟩
    · exact ⟨_, _, _, hv⟩
  go_wp2
  go_end0
  have HR2 := HR.out
  have HS2 := HS.out
  have hlt : b < w.heap.size := blk_lt HBK.out
  refine ⟨rfl, .slice ao n' cap, (Value.slice ao n' cap).ownBlock, ⟨hB, by simpa using blk_set HB2.out o (.slice ao n' cap), .slice ao n' cap, by rw [List.getElem?_set_self (by omega)], ?_, rfl, ?_⟩, ?_, ?_, ?_⟩
  · have := own_move (w1 := w2.setCell ⟨b, o, none⟩ (.slice ao n' cap)) HN.out (fun k hk => Below.heap_setCell _ _ _ _ (by
      rintro rfl
      rcases HAT.out with h | h
      · rw [hk] at h; exact hne (HR2.symm.trans h.symm)
      · rw [hk] at h; injection h with h; omega))
    simpa using this
  · rcases HAT.out with h | h
    · rw [h, HR2]; exact hne
    · rw [h]; intro h2; injection h2 with h2; omega
  · rcases HAT.out with h | h
    · exact .inl (h.trans HR2)
    · exact .inr ⟨_, h, by omega⟩
  · exact (((Below.refl B w).alloc hBw _).grown HG.out (by omega) (fun k hk => own_base HO.out k hk)).setCell (p := ⟨b, o, none⟩) hB _
  · exact Kept.setCell (p := ⟨b, o, none⟩) (Kept.of_grown HG.out ((Kept.refl w _).alloc _) (fun k hk => .inl (.inr (HR2.symm.trans hk)))) (.inl (.inl rfl)) _
set_option maxHeartbeats 2000000 in
set_option maxRecDepth 100000 in
theorem Take_none_s (T B b o : Nat) (cs : List Value) (row : Option Nat) (w : World) (h : QAt T 9 B b o cs row [] w) :
    Calls Try.prog 22 #[.pointer (some ⟨b, o, none⟩)] w fun e w' => e = .returned (.tuple #[.string ⟨#[]⟩, .bool false]) ∧ w = w' := by
  obtain ⟨hB, hbk, v, hv, hown, hrow, hne⟩ := h
  have c1 : w.cell? ⟨b, o, none⟩ = some v := by rw [blk_cell hbk]; simpa using hv
  obtain ⟨ao, cap, rfl⟩ : ∃ ao cap, v = .slice ao 0 cap := by
    rcases hown.2 with ⟨hv, h0⟩ | ⟨g, cap, cur, hv, _⟩
    · exact ⟨none, 0, hv⟩
    · exact ⟨_, _, hv⟩
  clear hB hbk hv hown hrow hne
  go_enter Try.func22, Try.ntmps22
  go_wp2
  go_ret2
  exact ⟨rfl, rfl⟩
set_option maxHeartbeats 2000000 in
set_option maxRecDepth 100000 in
theorem Take_s (T B b o : Nat) (cs : List Value) (row : Option Nat) (x : ByteArray) (xs : List ByteArray) (w : World) (hT : T ≠ 9) (h : QAt T 9 B b o cs row ((x :: xs).map Value.string) w) :
    Calls Try.prog 22 #[.pointer (some ⟨b, o, none⟩)] w fun e w' => e = .returned (.tuple #[.string x, .bool true]) ∧
      ∃ v, QAt T 9 B b o (cs.set o v) row (xs.map Value.string) w' ∧ Below B w w' ∧ Kept w w' (fun k => k = b ∨ row = some k) := by
  have hlen := h.len
  obtain ⟨hB, hbk, v, hv, hown, hrow, hne⟩ := h
  have c1 : w.cell? ⟨b, o, none⟩ = some v := by rw [blk_cell hbk]; simpa using hv
  
  have hn0 : v ≠ .slice none 0 0 := by
    rintro rfl
    rcases hown.2 with ⟨_, h0⟩ | ⟨g, cap, cur, hv, _⟩
    · simp at h0
    · cases hv
  have hxl : ((x :: xs).map Value.string).length = xs.length + 1 := by simp
  rw [hxl] at hown
  rw [show (x :: xs).map Value.string = ((x :: xs).map (·.data.toList)).map encStr from (Lib.map_encStr _).symm] at hown
  obtain ⟨g, cap, rfl, hbg, hgl, hnc, hcm, hlz, hH⟩ := Lib.holds_of_ownsRow hown hn0
  have hcm' : cap ≤ 9223372036854775807 := by unfold maxLen at hcm; omega
  have hc0 := (hH 0 (by simp)).1
  have hd := Try.slices_Delete_string g 0 cap 0 1 ((x :: xs).map (·.data.toList)) w hH (by simp; omega) hcm' (by omega) (by simp)
  have hzl : (((x :: xs).map (·.data.toList))).length = xs.length + 1 := by simp
  rw [hzl] at hd
  have HD := Lib.hid hd
  have HO := Lib.hid hown
  have HR := Lib.hid hrow
  have HBK := Lib.hid hbk
  have e0 : w.cell? ⟨g, 0, none⟩ = some (.string x) := by simpa [encStr] using hc0
  have hpos : ((0 : Nat) : Int) < ((xs.length + 1 : Nat) : Int) := by omega
  clear hd hown hrow hbk hv hH hc0 hn0 hzl hlz
  have hgb : g ≠ b := by rintro rfl; exact hne (HR.out.symm)
  have z1 : (((xs.length + 1 : Nat) : Int) == 0) = false := by simp; omega
  go_enter Try.func22, Try.ntmps22
  go_wp2_with fail
  refine HD.out.mono ?_
  rintro e w1 ⟨rfl, q, hw1⟩
  have hk1 : Kept w w1 (fun k => k = g) := by rw [hw1]; exact kept_putRow _ _ _ _ _
  have hb1 : Below B w w1 := by rw [hw1]; exact Lib.below_putRow (Below.refl B w) hbg
  have ho1 := Lib.ownsRow_putRow (q := q) (ys := (((x :: xs).map (·.data.toList))).take 0 ++ (((x :: xs).map (·.data.toList))).drop 1 ++ List.replicate (1 - 0) ([] : List UInt8)) (k := xs.length) HO.out (by simp) (by omega)
  rw [← hw1] at ho1
  have hb2 := blk_kept HBK.out hk1 (show ¬ b = g from fun e => hgb e.symm)
  have f1 : w1.frozen? ⟨b, o, none⟩ = false := blk_frozen hb2 _
  have d1 : w1.cell? ⟨b, o, none⟩ = some (.slice (some ⟨g, 0, none⟩) (xs.length + 1) cap) := by
    rw [blk_cell hb2, ← blk_cell HBK.out]; exact c1
  have HB2 := Lib.hid hb2
  have HN := Lib.hid ho1
  have HK1 := Lib.hid hk1
  clear hb2 ho1 hk1 hw1
  go_wp2
  go_ret2
  refine ⟨rfl, .slice (some ⟨g, 0, none⟩) xs.length cap, ⟨hB, by simpa using blk_set HB2.out o (.slice (some ⟨g, 0, none⟩) xs.length cap), .slice (some ⟨g, 0, none⟩) xs.length cap, by rw [List.getElem?_set_self (by omega)], ?_, (show (Value.slice (some ⟨g, 0, none⟩) xs.length cap).ownBlock = row from HR.out), hne⟩, hb1.setCell (p := ⟨b, o, none⟩) hB _, ?_⟩
  · have := own_move (w1 := w1.setCell ⟨b, o, none⟩ (.slice (some ⟨g, 0, none⟩) xs.length cap)) HN.out (fun k hk => Below.heap_setCell _ _ _ _ (by
      rintro rfl
      injection hk with hk
      exact hgb hk))
    have e2 : (((x :: xs).map (·.data.toList)).take 0 ++ ((x :: xs).map (·.data.toList)).drop 1 ++ List.replicate (1 - 0) ([] : List UInt8)).take xs.length = xs.map (·.data.toList) := by simp
    rw [e2, Lib.map_encStr] at this
    simpa using this
  · exact Kept.setCell (p := ⟨b, o, none⟩) (HK1.out.mono (fun k hk => .inr (by rw [hk]; exact HR.out.symm))) (.inl (.inl rfl)) _

/-! ### elements: int -/
theorem info_i : (Try.prog.info? 3).map (fun i => (i.zero, i.size, i.bytes)) = some (some (.int .i64 0), 1, 8) := by kernel_rfl
set_option maxHeartbeats 2000000 in
set_option maxRecDepth 100000 in
theorem Put_i (T B b o : Nat) (cs : List Value) (row : Option Nat) (xs : List Value) (x : Int) (w : World) (h : QAt T 3 B b o cs row xs w) (hl : xs.length < 1000000000000) (hBw : B ≤ w.heap.size) :
    Calls Try.prog 16 #[.pointer (some ⟨b, o, none⟩), .int .i64 x] w fun e w' => e = .returned (.tuple #[]) ∧
      ∃ v row', QAt T 3 B b o (cs.set o v) row' (xs ++ [.int .i64 x]) w' ∧ (row' = row ∨ ∃ k, row' = some k ∧ w.heap.size ≤ k) ∧ Below B w w' ∧ Kept w w' (fun k => k = b ∨ row = some k) := by
  obtain ⟨i0, hi, hz0, hz1, hz2⟩ := info_parts info_i
  have hlen := h.len
  obtain ⟨hB, hbk, v, hv, hown, hrow, hne⟩ := h
  have c1 : w.cell? ⟨b, o, none⟩ = some v := by rw [blk_cell hbk]; simpa using hv
  have HR := Lib.hid hrow
  have HBK := Lib.hid hbk
  have HO := Lib.hid hown
  clear hv hrow hbk hown
  go_enter Try.func16, Try.ntmps16
  go_wp2_with (at_builtin; refine wpList_append_own_at _ rfl _ _ 36 rfl B 3 i0 (.int .i64 0) 1 8 Try.underlying36 hi hz0 hz1 hz2 rfl (by decide) _ _ _ rfl (HO.out.alloc _) ⟨w.heap.size, 0, none⟩ 1 1 [.int .i64 x] rfl rfl ?c1 ?c2 ?c3 ?c4 ?c5 ?_)
  case c1 =>
    intro j u hj
    match j, hj with
    | 0, hj => simp at hj; subst hj; simp [Addr.add]
  case c2 => intro u hu; simp at hu; subst hu; rfl
  case c3 => unfold maxLen; omega
  case c4 => omega
  case c5 => simp; omega
  intro v' w2 hown' hgrow _ hat
  have hb1 : (w.alloc (.cells #[.int .i64 x] 3)).heap[b]? = some (.cells cs.toArray T (0, 0)) := blk_alloc HBK.out _
  have hb2 := blk_grown hb1 hgrow (by rw [HR.out]; exact Ne.symm hne)
  have f1 : w2.frozen? ⟨b, o, none⟩ = false := blk_frozen hb2 _
  have hsz : (w.alloc (.cells #[.int .i64 x] 3)).heap.size = w.heap.size + 1 := by simp
  have HS := Lib.hid hsz
  have d1 : w2.cell? ⟨b, o, none⟩ = some v := by
    rw [blk_cell hb2, ← blk_cell HBK.out]; exact c1
  have HG := Lib.hid hgrow
  have HN := Lib.hid hown'
  have HB2 := Lib.hid hb2
  have HAT := Lib.hid hat
  clear hgrow hown' hb2 hb1 hat hsz
  obtain ⟨ao, n', cap, rfl⟩ : ∃ ao n' cap, v' = .slice ao n' cap := by
    rcases HN.out.2 with ⟨hv, _⟩ | ⟨g, cap, cur, hv, _⟩
    · exact ⟨_, _, _, hv⟩
    · exact ⟨_, _, _, hv⟩
  go_wp2
  go_end0
  have HR2 := HR.out
  have HS2 := HS.out
  have hlt : b < w.heap.size := blk_lt HBK.out
  refine ⟨rfl, .slice ao n' cap, (Value.slice ao n' cap).ownBlock, ⟨hB, by simpa using blk_set HB2.out o (.slice ao n' cap), .slice ao n' cap, by rw [List.getElem?_set_self (by omega)], ?_, rfl, ?_⟩, ?_, ?_, ?_⟩
  · have := own_move (w1 := w2.setCell ⟨b, o, none⟩ (.slice ao n' cap)) HN.out (fun k hk => Below.heap_setCell _ _ _ _ (by
      rintro rfl
      rcases HAT.out with h | h
      · rw [hk] at h; exact hne (HR2.symm.trans h.symm)
      · rw [hk] at h; injection h with h; omega))
    simpa using this
  · rcases HAT.out with h | h
    · rw [h, HR2]; exact hne
    · rw [h]; intro h2; injection h2 with h2; omega
  · rcases HAT.out with h | h
    · exact .inl (h.trans HR2)
    · exact .inr ⟨_, h, by omega⟩
  · exact (((Below.refl B w).alloc hBw _).grown HG.out (by omega) (fun k hk => own_base HO.out k hk)).setCell (p := ⟨b, o, none⟩) hB _
  · exact Kept.setCell (p := ⟨b, o, none⟩) (Kept.of_grown HG.out ((Kept.refl w _).alloc _) (fun k hk => .inl (.inr (HR2.symm.trans hk)))) (.inl (.inl rfl)) _
set_option maxHeartbeats 2000000 in
set_option maxRecDepth 100000 in
theorem Take_none_i (T B b o : Nat) (cs : List Value) (row : Option Nat) (w : World) (h : QAt T 3 B b o cs row [] w) :
    Calls Try.prog 17 #[.pointer (some ⟨b, o, none⟩)] w fun e w' => e = .returned (.tuple #[.int .i64 0, .bool false]) ∧ w = w' := by
  obtain ⟨hB, hbk, v, hv, hown, hrow, hne⟩ := h
  have c1 : w.cell? ⟨b, o, none⟩ = some v := by rw [blk_cell hbk]; simpa using hv
  obtain ⟨ao, cap, rfl⟩ : ∃ ao cap, v = .slice ao 0 cap := by
    rcases hown.2 with ⟨hv, h0⟩ | ⟨g, cap, cur, hv, _⟩
    · exact ⟨none, 0, hv⟩
    · exact ⟨_, _, hv⟩
  clear hB hbk hv hown hrow hne
  go_enter Try.func17, Try.ntmps17
  go_wp2
  go_ret2
  exact ⟨rfl, rfl⟩
set_option maxHeartbeats 2000000 in
set_option maxRecDepth 100000 in
theorem Take_i (T B b o : Nat) (cs : List Value) (row : Option Nat) (x : Int) (xs : List Int) (w : World) (hT : T ≠ 3) (h : QAt T 3 B b o cs row ((x :: xs).map (Value.int .i64)) w) :
    Calls Try.prog 17 #[.pointer (some ⟨b, o, none⟩)] w fun e w' => e = .returned (.tuple #[.int .i64 x, .bool true]) ∧
      ∃ v, QAt T 3 B b o (cs.set o v) row (xs.map (Value.int .i64)) w' ∧ Below B w w' ∧ Kept w w' (fun k => k = b ∨ row = some k) := by
  have hlen := h.len
  obtain ⟨hB, hbk, v, hv, hown, hrow, hne⟩ := h
  have c1 : w.cell? ⟨b, o, none⟩ = some v := by rw [blk_cell hbk]; simpa using hv
  
  have hn0 : v ≠ .slice none 0 0 := by
    rintro rfl
    rcases hown.2 with ⟨_, h0⟩ | ⟨g, cap, cur, hv, _⟩
    · simp at h0
    · cases hv
  have hxl : ((x :: xs).map (Value.int .i64)).length = xs.length + 1 := by simp
  rw [hxl] at hown
  obtain ⟨g, cap, rfl, hbg, hgl, hnc, hcm, hlz, hH⟩ := Lib.holds_of_ownsRow hown hn0
  have hcm' : cap ≤ 9223372036854775807 := by unfold maxLen at hcm; omega
  have hc0 := (hH 0 (by simp)).1
  have hd := Try.slices_Delete_int g 0 cap 0 1 (x :: xs) w hH (by simp; omega) hcm' (by omega) (by simp)
  have hzl : ((x :: xs)).length = xs.length + 1 := by simp
  rw [hzl] at hd
  have HD := Lib.hid hd
  have HO := Lib.hid hown
  have HR := Lib.hid hrow
  have HBK := Lib.hid hbk
  have e0 : w.cell? ⟨g, 0, none⟩ = some (.int .i64 x) := by simpa [] using hc0
  have hpos : ((0 : Nat) : Int) < ((xs.length + 1 : Nat) : Int) := by omega
  clear hd hown hrow hbk hv hH hc0 hn0 hzl hlz
  have hgb : g ≠ b := by rintro rfl; exact hne (HR.out.symm)
  have z1 : (((xs.length + 1 : Nat) : Int) == 0) = false := by simp; omega
  go_enter Try.func17, Try.ntmps17
  go_wp2_with fail
  refine HD.out.mono ?_
  rintro e w1 ⟨rfl, q, hw1⟩
  have hk1 : Kept w w1 (fun k => k = g) := by rw [hw1]; exact kept_putRow _ _ _ _ _
  have hb1 : Below B w w1 := by rw [hw1]; exact Lib.below_putRow (Below.refl B w) hbg
  have ho1 := Lib.ownsRow_putRow (q := q) (ys := ((x :: xs)).take 0 ++ ((x :: xs)).drop 1 ++ List.replicate (1 - 0) (0 : Int)) (k := xs.length) HO.out (by simp) (by omega)
  rw [← hw1] at ho1
  have hb2 := blk_kept HBK.out hk1 (show ¬ b = g from fun e => hgb e.symm)
  have f1 : w1.frozen? ⟨b, o, none⟩ = false := blk_frozen hb2 _
  have d1 : w1.cell? ⟨b, o, none⟩ = some (.slice (some ⟨g, 0, none⟩) (xs.length + 1) cap) := by
    rw [blk_cell hb2, ← blk_cell HBK.out]; exact c1
  have HB2 := Lib.hid hb2
  have HN := Lib.hid ho1
  have HK1 := Lib.hid hk1
  clear hb2 ho1 hk1 hw1
  go_wp2
  go_ret2
  refine ⟨rfl, .slice (some ⟨g, 0, none⟩) xs.length cap, ⟨hB, by simpa using blk_set HB2.out o (.slice (some ⟨g, 0, none⟩) xs.length cap), .slice (some ⟨g, 0, none⟩) xs.length cap, by rw [List.getElem?_set_self (by omega)], ?_, (show (Value.slice (some ⟨g, 0, none⟩) xs.length cap).ownBlock = row from HR.out), hne⟩, hb1.setCell (p := ⟨b, o, none⟩) hB _, ?_⟩
  · have := own_move (w1 := w1.setCell ⟨b, o, none⟩ (.slice (some ⟨g, 0, none⟩) xs.length cap)) HN.out (fun k hk => Below.heap_setCell _ _ _ _ (by
      rintro rfl
      injection hk with hk
      exact hgb hk))
    have e2 : ((x :: xs).take 0 ++ (x :: xs).drop 1 ++ List.replicate (1 - 0) (0 : Int)).take xs.length = xs := by simp
    rw [e2] at this
    simpa using this
  · exact Kept.setCell (p := ⟨b, o, none⟩) (HK1.out.mono (fun k hk => .inr (by rw [hk]; exact HR.out.symm))) (.inl (.inl rfl)) _
set_option maxHeartbeats 1000000 in
set_option maxRecDepth 100000 in
theorem Len_i (T B b o : Nat) (cs : List Value) (row : Option Nat) (xs : List Value) (w : World) (h : QAt T 3 B b o cs row xs w) :
    Calls Try.prog 20 #[.pointer (some ⟨b, o, none⟩)] w fun e w' => e = .returned (.int .i64 xs.length) ∧ w = w' := by
  obtain ⟨hB, hbk, v, hv, hown, hrow, hne⟩ := h
  have c1 : w.cell? ⟨b, o, none⟩ = some v := by rw [blk_cell hbk]; simpa using hv
  obtain ⟨ao, cap, rfl⟩ : ∃ ao cap, v = .slice ao xs.length cap := by
    rcases hown.2 with ⟨hv, h0⟩ | ⟨g, cap, cur, hv, _⟩
    · exact ⟨none, 0, by rw [hv, h0]⟩
    · exact ⟨_, _, hv⟩
  clear hB hbk hv hown hrow hne
  go_enter Try.func20, Try.ntmps20
  go_wp2
  go_ret
  exact ⟨rfl, rfl⟩
theorem QAt.new (T e B : Nat) (w : World) (hB : B ≤ w.heap.size) : QAt T e B w.heap.size 0 [.slice none 0 0] none [] (w.alloc (.cells #[.slice none 0 0] T)) :=
  ⟨hB, heap_alloc_new w _, .slice none 0 0, rfl, World.ownsRow_nil _ _ _ _, rfl, by simp⟩
end Go.Proofs.Ytogmfibilopppaa.Q

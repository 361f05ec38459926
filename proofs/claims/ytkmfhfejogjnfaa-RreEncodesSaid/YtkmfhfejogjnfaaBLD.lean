/- strings.Builder at any place of a block: what Len, WriteString and String do to it. No condition. -/
import Derived.Test.YtkmfhfejogjnfaaWWords
import Derived.Lib.Builder
import Derived.Lib.AppendStr
import Derived.Lib.UnsafeStr
import Derived.Lib.Walk
import Derived.Lib.Hide
import Derived.Lib.Strings
import Derived.Laws.Externs
import Derived.WalkKit
import Derived.RegionTactic
import Derived.KernelRfl
import Derived.Deep.QuietTactic
import Derived.BigQuiet
import Derived.Test.YtkmfhfejogjnfaaProg
namespace Go.Proofs.Ytkmfhfejogjnfaa.BL
open Go.RowKit Go.Proofs.YtkmfhfejogjnfaaW.PrintWords
set_option linter.unusedVariables false
set_option linter.unusedSimpArgs false
theorem info_u8 : (Try.prog.info? 5).map (fun i => (i.zero, i.size, i.bytes)) = some (some (.int .u8 0), 1, 1) := by kernel_rfl
theorem info_bld : (Try.prog.info? 65).map (·.size) = some 2 := by kernel_rfl
theorem cells_u8 : Try.prog.cellsOf 5 = 1 := by kernel_rfl
/-- A builder at cells o, o + 1 of block b (its type T, its cells cs): it holds bs in the row (none: nil). -/
def BAt (T B b o : Nat) (cs : List Value) (row : Option Nat) (bs : List Value) (w : World) : Prop :=
  B ≤ b ∧ w.heap[b]? = some (.cells cs.toArray T (0, 0)) ∧ (cs[o]? = some (.pointer none) ∨ cs[o]? = some (.pointer (some ⟨b, o, none⟩))) ∧
    ∃ v, cs[o + 1]? = some v ∧ w.ownsRow B 5 1 v bs.length bs ∧ v.ownBlock = row ∧ row ≠ some b
theorem BAt.len {T B b o : Nat} {cs : List Value} {row : Option Nat} {bs : List Value} {w : World} (h : BAt T B b o cs row bs w) : o + 1 < cs.length := by
  obtain ⟨_, _, _, v, hv, _⟩ := h
  exact (List.getElem?_eq_some_iff.1 hv).1
theorem BAt.keep {T B b o : Nat} {cs : List Value} {row : Option Nat} {bs : List Value} {w w1 : World} {S : Nat → Prop} (h : BAt T B b o cs row bs w) (hk : Kept w w1 S) (hb : ¬ S b) (hr : ∀ k, row = some k → ¬ S k) : BAt T B b o cs row bs w1 := by
  obtain ⟨h1, h2, h3, v, h4, h5, h6, h7⟩ := h
  refine ⟨h1, blk_kept h2 hk hb, h3, v, h4, ?_, h6, h7⟩
  exact own_move h5 (fun k hk' => hk.2 k (own_lt h5 k hk') (hr k (h6.symm.trans hk')))
theorem BAt.drew {T B b o : Nat} {cs : List Value} {row : Option Nat} {bs : List Value} {w : World} (h : BAt T B b o cs row bs w) : BAt T B b o cs row bs w.drew := h
theorem BAt.drewN {T B b o : Nat} {cs : List Value} {row : Option Nat} {bs : List Value} {w : World} (h : BAt T B b o cs row bs w) (n : Nat) : BAt T B b o cs row bs (w.drewN n) := h
/-- Another cell of the block is written. -/
theorem BAt.put {T B b o : Nat} {cs : List Value} {row : Option Nat} {bs : List Value} {w : World} (h : BAt T B b o cs row bs w) (j : Nat) (hj : j ≠ o) (hj1 : j ≠ o + 1) (u : Value) (hT : T ≠ 5) : BAt T B b o (cs.set j u) row bs (w.setCell ⟨b, j, none⟩ u) := by
  obtain ⟨h1, h2, h3, v, h4, h5, h6, h7⟩ := h
  refine ⟨h1, by simpa using blk_set h2 j u, by rw [List.getElem?_set_ne hj]; exact h3, v, by rw [List.getElem?_set_ne hj1]; exact h4, ?_, h6, h7⟩
  exact own_move h5 (fun k hk => Below.heap_setCell _ _ _ _ (by rintro rfl; exact h7 (h6.symm.trans hk)))
/-- Does a builder lie at cell o of a variable of n cells of type T? (By the kernel at each use.) -/
def Lies (T n o : Nat) : Prop := liesAt Try.prog Try.prog.depth T (n / Try.prog.cellsOf T) o 65 1 = true
set_option maxHeartbeats 1000000 in
set_option maxRecDepth 100000 in
theorem copyCheck_c (T B b o : Nat) (cs : List Value) (row : Option Nat) (bs : List Value) (w : World) (hT : T ≠ 5) (hL : Lies T cs.length o) (h : BAt T B b o cs row bs w) :
    Calls Try.prog 54 #[.pointer (some ⟨b, o, none⟩)] w fun e w' => e = .returned (.tuple #[]) ∧ BAt T B b o (cs.set o (.pointer (some ⟨b, o, none⟩))) row bs w' ∧ Below B w w' ∧ Kept w w' (fun k => k = b) := by
  obtain ⟨j, hj, hjs⟩ := Option.map_eq_some_iff.1 info_bld
  have hlen := h.len
  obtain ⟨h1, h2, h3, v, h4, h5, h6, h7⟩ := h
  rcases h3 with h3 | h3
  · have c0 : w.cell? ⟨b, o, none⟩ = some (.pointer none) := by rw [blk_cell h2]; simpa using h3
    have f0 : w.frozen? ⟨b, o, none⟩ = false := blk_frozen h2 o
    have hsh : w.shape? b = some (T, cs.length) := by simp [World.shape?, h2]
    have HB := Lib.hid h2
    have H4 := Lib.hid h4
    have H5 := Lib.hid h5
    have H6 := Lib.hid h6
    clear h2 h3 h4 h5 h6
    go_enter Try.func54, Try.ntmps54
    go_wp2
    rw [Lib.run_to_unsafe w ⟨b, o, none⟩ Try.underlying62 Try.underlying109 hj (by rw [hjs]; decide) hsh (show o < cs.length by omega)]
    simp only [Result.andThen]
    rw [Oper.upon_value]
    go_wp2
    rw [run_callFunc_extern Try.func76 (by kernel_rfl) (by kernel_rfl) (by kernel_rfl) (e := Extern.AbiNoEscape.same) (by kernel_rfl)]
    rw [Lib.run_noEscape]
    simp only [Result.andThen]
    rw [Oper.upon_value]
    go_wp2
    rw [Lib.run_from_unsafe w ⟨b, o, none⟩ Try.underlying109 Try.underlying62 hj hsh hL]
    simp only [Result.andThen]
    rw [Oper.upon_value]
    go_wp2
    go_end0
    refine ⟨rfl, ⟨h1, by simpa using blk_set HB.out o (.pointer (some ⟨b, o, none⟩)),   .inr (by rw [List.getElem?_set_self (by omega)]), v, by rw [List.getElem?_set_ne (by omega)]; exact H4.out, ?_, H6.out, h7⟩, (Below.refl B w).setCell (p := ⟨b, o, none⟩) h1 _, Kept.setCell (S := fun k => k = b) (p := ⟨b, o, none⟩) (Kept.refl w _) (.inl rfl) _⟩
    exact own_move H5.out (fun k hk => Below.heap_setCell _ _ _ _ (by rintro rfl; exact h7 (H6.out.symm.trans hk)))
  · have c0 : w.cell? ⟨b, o, none⟩ = some (.pointer (some ⟨b, o, none⟩)) := by rw [blk_cell h2]; simpa using h3
    have hset : cs.set o (.pointer (some ⟨b, o, none⟩)) = cs := by
      refine List.ext_getElem? fun i => ?_
      by_cases hi : o = i
      · subst hi; rw [List.getElem?_set_self (by omega), h3]
      · rw [List.getElem?_set_ne hi]
    have HP : Hid (BAt T B b o (cs.set o (.pointer (some ⟨b, o, none⟩))) row bs w) := Lib.hid (by rw [hset]; exact ⟨h1, h2, .inr h3, v, h4, h5, h6, h7⟩)
    clear h1 h2 h3 h4 h5 h6 h7 hset
    go_enter Try.func54, Try.ntmps54
    go_wp2
    rw [Lib.run_neq_ptr_same w _ Try.underlying62 hj]
    go_wp2
    go_end0
    exact ⟨rfl, HP.out, Below.refl B _, Kept.refl _ _⟩
/-- Behind 'append(b, s...)' the row is the one that was, or a new one. -/
theorem run_append_str_at {P : Program} (w : World) (base : Nat) (t u ty e : TypeId) (i : TypeInfo) (ht : P.underlying t = some (.slice e)) (hu : P.underlying u = some .string) (hi : P.info? e = some i) (hz : i.zero = some (.int .u8 0))
    (hsize : i.size = 1) (hby : i.bytes = 1) (v : Value) (n : Nat) (xs : List Value) (hown : w.ownsRow base e 1 v n xs) (s : ByteArray)
    (h63 : n + s.size ≤ maxLen) (hbytes : n + s.size ≤ 140737488355328) (hbase : base ≤ w.heap.size) :
    ∃ v' w', (Builtin.append_ #[t, u] ty #[v, .string s]).run P w = .ok v' w' ∧ w'.ownsRow base e 1 v' (n + s.size) (xs ++ Lib.strCells s) ∧ w.grownBy w' v.ownBlock ∧ (v'.ownBlock = v.ownBlock ∨ ∃ k, v'.ownBlock = some k ∧ w.heap.size ≤ k) := by
  obtain ⟨v', w', hr, ho, hg, hn⟩ := Lib.run_append_own_string w base t u ty e i ht hu hi hz hsize hby v n xs hown s h63 hbytes hbase
  refine ⟨v', w', hr, ho, hg, ?_⟩
  have hsmall : n + s.size ≤ 9223372036854775807 := by simp only [maxLen] at h63; omega
  have hxl : xs.length = n := by simpa using hown.1
  rcases hown.2 with ⟨rfl, rfl⟩ | ⟨g, cap, cur, rfl, hbg, hgb, hnc, hcm, hcs, htake⟩
  · by_cases hm : s.size = 0
    · left; rw [hn.2 ⟨rfl, hm⟩]
    · have hr2 := run_append_nil_string (P := P) w t u ty e i (.int .u8 0) ht hu hi hz s (by omega) (by omega) (by rw [hby]; omega)
      rw [hr2] at hr
      injection hr with hr _
      subst hr
      exact .inr ⟨_, rfl, Nat.le_refl _⟩
  · by_cases hroom : n + s.size ≤ cap
    · have hcs' : cur.size = cap := by simpa using hcs
      have hr2 := Lib.run_append_room_string (P := P) w t u ty e i ht hu hi hsize g n cap cur hgb s hroom (by omega)
      rw [hr2] at hr
      injection hr with hr _
      subst hr
      exact .inl rfl
    · have holds : ∀ j u, xs[j]? = some u → w.cell? ((⟨g, 0, none⟩ : Addr).add j) = some u := hown.cells (g := g) rfl
      have hr2 := Lib.run_append_grow_string (P := P) w t u ty e i (.int .u8 0) ht hu hi hz ⟨g, 0, none⟩ n cap xs (by rw [hsize]; simpa using hxl) holds s (by omega) (by omega) (by rw [hby]; exact growslice_fits (by omega) (by omega))
      rw [hr2] at hr
      injection hr with hr _
      subst hr
      exact .inr ⟨_, rfl, Nat.le_refl _⟩
theorem wpList_append_str_at {P : Program} {w : World} {ops : Array Oper} {rest : List Oper} {o : Oper} {a : Act} {Q : Exit → Act → World → Prop} (hgd : o.guard = none) (sl x : Operand) (t u : TypeId)
    (ho : o.op = .call { callee := .builtin .append, args := #[sl, x], argTypes := #[t, u] })
    (base : Nat) (e : TypeId) (i : TypeInfo) (ht : P.underlying t = some (.slice e)) (hu : P.underlying u = some .string) (hi : P.info? e = some i) (hz : i.zero = some (.int .u8 0)) (hsize : i.size = 1) (hby : i.bytes = 1)
    (v : Value) (n : Nat) (xs : List Value) (hs : a.eval sl = v) (hown : w.ownsRow base e 1 v n xs) (s : ByteArray) (hx : a.eval x = .string s) (h63 : n + s.size ≤ maxLen) (hbytes : n + s.size ≤ 140737488355328) (hbase : base ≤ w.heap.size)
    (h : ∀ v' w', w'.ownsRow base e 1 v' (n + s.size) (xs ++ Lib.strCells s) → w.grownBy w' v.ownBlock → (v'.ownBlock = v.ownBlock ∨ ∃ k, v'.ownBlock = some k ∧ w.heap.size ≤ k) → wpList P ops Q rest (a.put o.dst v') w') : wpList P ops Q (o :: rest) a w := by
  refine wpList_plain hgd fun K hK => ?_
  obtain ⟨v', w', hr, h2, h3, h4⟩ := run_append_str_at (P := P) w base t u o.type e i ht hu hi hz hsize hby v n xs hown s h63 hbytes hbase
  unfold Oper.wp execOp
  simp only [ho, resolve, invoke, builtin, Sem.run_bind, Sem.run_pure, Result.andThen_ok, List.map_toArray, List.map_cons, List.map_nil, hs, hx, hr]
  exact hK _ _ (h v' w' h2 h3 h4)
set_option maxHeartbeats 2000000 in
set_option maxRecDepth 100000 in
/-- WriteString: the bytes come behind. -/
theorem WriteString_c (T B b o : Nat) (cs : List Value) (row : Option Nat) (bs : List Value) (s : ByteArray) (w : World) (hT : T ≠ 5) (hL : Lies T cs.length o) (h : BAt T B b o cs row bs w) (hl : bs.length + s.size ≤ 140737488355328) (hBw : B ≤ w.heap.size) :
    Calls Try.prog 29 #[.pointer (some ⟨b, o, none⟩), .string s] w fun e w' => e = .returned (.tuple #[.int .i64 s.size, .nilIface]) ∧
      ∃ v row', BAt T B b o ((cs.set o (.pointer (some ⟨b, o, none⟩))).set (o + 1) v) row' (bs ++ Lib.strCells s) w' ∧ (row' = row ∨ ∃ k, row' = some k ∧ w.heap.size ≤ k) ∧ Below B w w' ∧ Kept w w' (fun k => k = b ∨ row = some k) := by
  obtain ⟨i0, hi, hz0, hz1, hz2⟩ := info_parts info_u8
  go_enter Try.func29, Try.ntmps29
  go_wp2_with fail
  refine (copyCheck_c T B b o cs row bs _ hT hL h).mono ?_
  rintro e w1 ⟨rfl, h1, hb1, hk1⟩
  have hlen := h1.len
  rw [List.length_set] at hlen
  obtain ⟨hB, hbk, hp, v, hv, hown, hrow, hne⟩ := h1
  have hp' : (cs.set o (.pointer (some ⟨b, o, none⟩)))[o]? = some (.pointer (some ⟨b, o, none⟩)) := by rw [List.getElem?_set_self (by omega)]
  have c0 : w1.cell? ⟨b, o, none⟩ = some (.pointer (some ⟨b, o, none⟩)) := by rw [blk_cell hbk]; simpa using hp'
  have c1 : w1.cell? ⟨b, o + 1, none⟩ = some v := by rw [blk_cell hbk]; simpa using hv
  have HS := Lib.hid hp'
  have HV := Lib.hid hv
  have HR := Lib.hid hrow
  have HBK := Lib.hid hbk
  have HK1 := Lib.hid hk1
  have HO := Lib.hid hown
  clear h hp hv hp' hrow hbk hk1 hown
  go_wp2_with (at_builtin; refine wpList_append_str_at rfl _ _ 63 9 rfl B 5 i0 Try.underlying63 Try.underlying9 hi hz0 hz1 hz2 _ _ _ rfl HO.out s rfl ?c3 ?c4 ?c5 ?_)
  case c3 => unfold maxLen; omega
  case c4 => omega
  case c5 => have := hb1.size; omega
  intro v' w2 hown' hgrow hat
  have hlt : b < w1.heap.size := blk_lt HBK.out
  have hb2 := blk_grown HBK.out hgrow (by rw [HR.out]; exact Ne.symm hne)
  have d0 : w2.cell? ⟨b, o, none⟩ = some (.pointer (some ⟨b, o, none⟩)) := by rw [blk_cell hb2]; simpa using HS.out
  have d1 : w2.cell? ⟨b, o + 1, none⟩ = some v := by rw [blk_cell hb2]; simpa using HV.out
  have f1 : w2.frozen? ⟨b, o + 1, none⟩ = false := blk_frozen hb2 _
  have HG := Lib.hid hgrow
  have HN := Lib.hid hown'
  have HB2 := Lib.hid hb2
  have HAT := Lib.hid hat
  clear hat
  clear hgrow hown' hb2
  obtain ⟨ao, n', cap, rfl⟩ : ∃ ao n' cap, v' = .slice ao n' cap := by
    rcases HN.out.2 with ⟨hv, _⟩ | ⟨g, cap, cur, hv, _⟩
    · exact ⟨_, _, _, hv⟩
    · exact ⟨_, _, _, hv⟩
  go_wp2
  go_ret2
  have HR2 := HR.out
  refine ⟨rfl, .slice ao n' cap, (Value.slice ao n' cap).ownBlock, ⟨hB, by simpa using blk_set HB2.out (o + 1) (.slice ao n' cap), .inr (by rw [List.getElem?_set_ne (by omega)]; exact HS.out), .slice ao n' cap, by rw [List.getElem?_set_self (by rw [List.length_set]; omega)], ?_, rfl, ?_⟩, ?_, ?_, ?_⟩
  · have := own_move (w1 := w2.setCell ⟨b, o + 1, none⟩ (.slice ao n' cap)) HN.out (fun k hk => Below.heap_setCell _ _ _ _ (by
      rintro rfl
      rcases HAT.out with h | ⟨k, h, hk2⟩
      · rw [hk] at h; exact hne (HR2.symm.trans h.symm)
      · rw [hk] at h; injection h with h; omega))
    simpa [Lib.strCells_length] using this
  · rcases HAT.out with h | ⟨k, h, hk2⟩
    · rw [h, HR2]; exact hne
    · rw [h]; intro h2; injection h2 with h2; omega
  · rcases HAT.out with h | ⟨k, h, hk2⟩
    · exact .inl (h.trans HR2)
    · exact .inr ⟨k, h, Nat.le_trans hb1.size hk2⟩
  · exact (hb1.grown HG.out (by have := hb1.size; omega) (fun k hk => own_base HO.out k hk)).setCell (p := ⟨b, o + 1, none⟩) hB _
  · refine Kept.setCell (p := ⟨b, o + 1, none⟩) (Kept.of_grown HG.out (HK1.out.mono (fun k hk => .inl hk)) (fun k hk => .inl (.inr (HR2.symm.trans hk)))) (.inl (.inl rfl)) _
set_option maxHeartbeats 2000000 in
set_option maxRecDepth 100000 in
/-- The buffer's bytes are told. -/
theorem String_c (T B b o : Nat) (cs : List Value) (row : Option Nat) (l : List UInt8) (w : World) (h : BAt T B b o cs row (Lib.byteCells l) w) (hBw : B ≤ w.heap.size) :
    Calls Try.prog 32 #[.pointer (some ⟨b, o, none⟩)] w fun e w' => e = .returned (.string ⟨l.toArray⟩) ∧ Below B w w' := by
  obtain ⟨h1, h2, h3, v, h4, h5, h6, h7⟩ := h
  rw [Lib.byteCells_length] at h5
  have hc : w.cell? ⟨b, o + 1, none⟩ = some v := by rw [blk_cell h2]; simpa using h4
  have hlt : b < w.heap.size := blk_lt h2
  have hUS : ∀ (W : World) (q : Option Addr), (Builtin.unsafeString_ #[91, 3] 9 #[.pointer q, .int .i64 0]).run Try.prog W = .ok (.string .empty) W := fun W q => Lib.run_unsafeString_none W _ _ _ q
  rcases h5.2 with ⟨rfl, hl0⟩ | ⟨g, cap, cur, rfl, hbg, hg, hnc, hcm, hcs, htake⟩
  · obtain rfl := List.eq_nil_of_length_eq_zero hl0
    have c1 : w.drew.cell? ⟨b, o + 1, none⟩ = some (.slice none 0 0) := hc
    have hSD : (Builtin.unsafeSliceData_ #[63] 91 #[.slice none 0 0]).run Try.prog w.drew = .ok (.pointer none) w.drew := rfl
    clear h1 h2 h3 h4 h5 h6 h7 hl0
    go_enter Try.func32, Try.ntmps32
    go_wp2
    go_region
    all_goals (go_wp2; go_ret; exact ⟨rfl, Below.drew (Below.refl B w)⟩)
  · by_cases hl0 : l = []
    · subst hl0
      by_cases hc0 : cap = 0
      · subst hc0
        have c1 : w.drew.cell? ⟨b, o + 1, none⟩ = some (.slice (some ⟨g, 0, none⟩) 0 0) := hc
        have hSD : (Builtin.unsafeSliceData_ #[63] 91 #[.slice (some ⟨g, 0, none⟩) 0 0]).run Try.prog w.drew = .ok (.pointer (some ⟨w.drew.heap.size, 0, none⟩)) (w.drew.alloc (.view ⟨g, 0, none⟩ 5)) :=
          Lib.run_unsafeSliceData_zero w.drew _ _ 5 Try.underlying91 ⟨g, 0, none⟩ 0 (5, cur.size) (by have hg' : w.drew.heap[g]? = some (.cells cur 5 (0, 0)) := hg; simp [World.shape?, hg'])
        have c2 : (w.drew.alloc (.view ⟨g, 0, none⟩ 5)).cell? ⟨b, o + 1, none⟩ = some (.slice (some ⟨g, 0, none⟩) 0 0) := by
          have : (w.drew.alloc (.view ⟨g, 0, none⟩ 5)).heap[b]? = _ := (Below.heap_alloc w.drew _ b hlt).trans h2
          simp only [World.cell?, this]
          simpa using h4
        have c3 : (w.alloc (.view ⟨g, 0, none⟩ 5)).drew.cell? ⟨b, o + 1, none⟩ = some (.slice (some ⟨g, 0, none⟩) 0 0) := c2
        have c0 : w.cell? ⟨b, o + 1, none⟩ = some (.slice (some ⟨g, 0, none⟩) 0 0) := c1
        clear h1 h2 h3 h4 h5 h6 h7 hg hnc hcm hcs htake hc
        go_enter Try.func32, Try.ntmps32
        go_wp2
        go_region
        all_goals (go_wp2; go_ret; exact ⟨rfl, (Below.drew (Below.refl B w)).alloc hBw _⟩)
      · have c1 : w.drew.cell? ⟨b, o + 1, none⟩ = some (.slice (some ⟨g, 0, none⟩) 0 cap) := hc
        have hSD : (Builtin.unsafeSliceData_ #[63] 91 #[.slice (some ⟨g, 0, none⟩) 0 cap]).run Try.prog w.drew = .ok (.pointer (some ⟨g, 0, none⟩)) w.drew :=
          Lib.run_unsafeSliceData_row _ _ _ _ _ _ hc0
        clear h1 h2 h3 h4 h5 h6 h7 hg hnc hcm hcs htake hc0 hc
        go_enter Try.func32, Try.ntmps32
        go_wp2
        go_region
        all_goals (go_wp2; go_ret; exact ⟨rfl, Below.drew (Below.refl B w)⟩)
    · have hl1 : l.length ≠ 0 := fun h => hl0 (List.eq_nil_of_length_eq_zero h)
      have c1 : w.drew.cell? ⟨b, o + 1, none⟩ = some (.slice (some ⟨g, 0, none⟩) l.length cap) := hc
      have hSD : (Builtin.unsafeSliceData_ #[63] 91 #[.slice (some ⟨g, 0, none⟩) l.length cap]).run Try.prog w.drew = .ok (.pointer (some ⟨g, 0, none⟩)) w.drew :=
        Lib.run_unsafeSliceData_row _ _ _ _ _ _ (by omega)
      have hUS2 : (Builtin.unsafeString_ #[91, 3] 9 #[.pointer (some ⟨g, 0, none⟩), .int .i64 l.length]).run Try.prog w.drew = .ok (.string ⟨l.toArray⟩) (w.drew.freeze ⟨g, 0, none⟩ l.length) := by
        refine Lib.run_unsafeString_row w.drew 91 3 9 5 Try.underlying91 cells_u8 g cur.size (by have hg' : w.drew.heap[g]? = some (.cells cur 5 (0, 0)) := hg; simp [World.shape?, hg']) l hl0 (by omega) (by unfold maxLen at hcm; omega) ?_
        intro j x hx
        have := h5.cells (g := g) rfl j (.int .u8 x.toNat) (by simp [Lib.byteCells, hx])
        exact this
      clear hUS h1 h2 h3 h4 h5 h6 h7 hg hnc hcm hcs htake hc hl0 hl1
      go_enter Try.func32, Try.ntmps32
      go_wp2
      go_region
      all_goals (go_wp2; go_ret; exact ⟨rfl, Lib.below_freeze (Below.drew (Below.refl B w)) (p := ⟨g, 0, none⟩) hbg _⟩)
end Go.Proofs.Ytkmfhfejogjnfaa.BL

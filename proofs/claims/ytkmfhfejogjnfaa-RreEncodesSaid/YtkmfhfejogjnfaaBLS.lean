/- strings.Builder in a loop over an iterator: String with what it keeps; WriteString seen from the loop. No condition. -/
import Derived.Test.YtkmfhfejogjnfaaBLD
import Derived.Test.YtkmfhfejogjnfaaRFX
namespace Go.Proofs.Ytkmfhfejogjnfaa.BL
open Go.RowKit Go.Shelf Go.Proofs.YtkmfhfejogjnfaaW.PrintWords Go.Proofs.Ytkmfhfejogjnfaa.RX
set_option linter.unusedVariables false
set_option linter.unusedSimpArgs false
theorem kept_freeze {w W : World} {S : Nat → Prop} (h : Kept w W S) {p : Addr} (hp : S p.block) (n : Nat) : Kept w (W.freeze p n) S := by
  refine h.then_ (S2 := fun k => k = p.block) ?_ (fun k hk => by rw [hk]; exact .inl hp)
  unfold World.freeze
  split
  · exact Kept.refl _ _
  · refine ⟨by simp, fun i hi hn => ?_⟩
    simp only [Array.getElem?_modify]
    rw [if_neg (fun e => hn e.symm)]
set_option maxHeartbeats 2000000 in
set_option maxRecDepth 100000 in
/-- The buffer's bytes are told. -/
theorem String_k (T B b o : Nat) (cs : List Value) (row : Option Nat) (l : List UInt8) (w : World) (h : BAt T B b o cs row (Lib.byteCells l) w) (hBw : B ≤ w.heap.size) :
    Calls Try.prog 32 #[.pointer (some ⟨b, o, none⟩)] w fun e w' => e = .returned (.string ⟨l.toArray⟩) ∧ Below B w w' ∧ Kept w w' (fun k => row = some k) := by
  obtain ⟨h1, h2, h3, v, h4, h5, h6, h7⟩ := h
  have H6 := Lib.hid h6
  rw [Lib.byteCells_length] at h5
  have hc : w.cell? ⟨b, o + 1, none⟩ = some v := by rw [blk_cell h2]; simpa using h4
  have hlt : b < w.heap.size := blk_lt h2
  have hUS : ∀ (W : World) (q : Option Addr), (Builtin.unsafeString_ #[91, 3] 9 #[.pointer q, .int .i64 0]).run Try.prog W = .ok (.string .empty) W := fun W q => Lib.run_unsafeString_none W _ _ _ q
  rcases h5.2 with ⟨rfl, hl0⟩ | ⟨g, cap, cur, rfl, hbg, hg, hnc, hcm, hcs, htake⟩
  · obtain rfl := List.eq_nil_of_length_eq_zero hl0
    have c1 : w.drew.cell? ⟨b, o + 1, none⟩ = some (.slice none 0 0) := hc
    have hSD : (Builtin.unsafeSliceData_ #[63] 91 #[.slice none 0 0]).run Try.prog w.drew = .ok (.pointer none) w.drew := rfl
    clear h1 h2 h3 h4 h5 h6 h7 hl0
    go_enter Try.func32, Try.ntmps32
    go_wp2
    go_region
    all_goals (go_wp2; go_ret; exact ⟨rfl, Below.drew (Below.refl B w), Kept.drew (Kept.refl _ _)⟩)
  · by_cases hl0 : l = []
    · subst hl0
      by_cases hc0 : cap = 0
      · subst hc0
        have c1 : w.drew.cell? ⟨b, o + 1, none⟩ = some (.slice (some ⟨g, 0, none⟩) 0 0) := hc
        have hSD : (Builtin.unsafeSliceData_ #[63] 91 #[.slice (some ⟨g, 0, none⟩) 0 0]).run Try.prog w.drew = .ok (.pointer (some ⟨w.drew.heap.size, 0, none⟩)) (w.drew.alloc (.view ⟨g, 0, none⟩ 5)) :=
          Lib.run_unsafeSliceData_zero w.drew _ _ 5 Try.underlying91 ⟨g, 0, none⟩ 0 (5, cur.size) (by have hg' : w.drew.heap[g]? = some (.cells cur 5 (0, 0)) := hg; simp [World.shape?, hg'])
        have c2 : (w.drew.alloc (.view ⟨g, 0, none⟩ 5)).cell? ⟨b, o + 1, none⟩ = some (.slice (some ⟨g, 0, none⟩) 0 0) := by
          have : (w.drew.alloc (.view ⟨g, 0, none⟩ 5)).heap[b]? = _ := (Below.heap_alloc w.drew _ b hlt).trans h2
          simp only [World.cell?, this]
          simpa using h4
        have c3 : (w.alloc (.view ⟨g, 0, none⟩ 5)).drew.cell? ⟨b, o + 1, none⟩ = some (.slice (some ⟨g, 0, none⟩) 0 0) := c2
        have c0 : w.cell? ⟨b, o + 1, none⟩ = some (.slice (some ⟨g, 0, none⟩) 0 0) := c1
        clear h1 h2 h3 h4 h5 h6 h7 hg hnc hcm hcs htake hc
        go_enter Try.func32, Try.ntmps32
        go_wp2
        go_region
        all_goals (go_wp2; go_ret; exact ⟨rfl, (Below.drew (Below.refl B w)).alloc hBw _, Kept.alloc (Kept.drew (Kept.refl _ _)) _⟩)
      · have c1 : w.drew.cell? ⟨b, o + 1, none⟩ = some (.slice (some ⟨g, 0, none⟩) 0 cap) := hc
        have hSD : (Builtin.unsafeSliceData_ #[63] 91 #[.slice (some ⟨g, 0, none⟩) 0 cap]).run Try.prog w.drew = .ok (.pointer (some ⟨g, 0, none⟩)) w.drew :=
          Lib.run_unsafeSliceData_row _ _ _ _ _ _ hc0
        clear h1 h2 h3 h4 h5 h6 h7 hg hnc hcm hcs htake hc0 hc
        go_enter Try.func32, Try.ntmps32
        go_wp2
        go_region
        all_goals (go_wp2; go_ret; exact ⟨rfl, Below.drew (Below.refl B w), Kept.drew (Kept.refl _ _)⟩)
    · have hl1 : l.length ≠ 0 := fun h => hl0 (List.eq_nil_of_length_eq_zero h)
      have c1 : w.drew.cell? ⟨b, o + 1, none⟩ = some (.slice (some ⟨g, 0, none⟩) l.length cap) := hc
      have hSD : (Builtin.unsafeSliceData_ #[63] 91 #[.slice (some ⟨g, 0, none⟩) l.length cap]).run Try.prog w.drew = .ok (.pointer (some ⟨g, 0, none⟩)) w.drew :=
        Lib.run_unsafeSliceData_row _ _ _ _ _ _ (by omega)
      have hUS2 : (Builtin.unsafeString_ #[91, 3] 9 #[.pointer (some ⟨g, 0, none⟩), .int .i64 l.length]).run Try.prog w.drew = .ok (.string ⟨l.toArray⟩) (w.drew.freeze ⟨g, 0, none⟩ l.length) := by
        refine Lib.run_unsafeString_row w.drew 91 3 9 5 Try.underlying91 cells_u8 g cur.size (by have hg' : w.drew.heap[g]? = some (.cells cur 5 (0, 0)) := hg; simp [World.shape?, hg']) l hl0 (by omega) (by unfold maxLen at hcm; omega) ?_
        intro j x hx
        have := h5.cells (g := g) rfl j (.int .u8 x.toNat) (by simp [Lib.byteCells, hx])
        exact this
      clear hUS h1 h2 h3 h4 h5 h6 h7 hg hnc hcm hcs htake hc hl0 hl1
      go_enter Try.func32, Try.ntmps32
      go_wp2
      go_region
      all_goals (go_wp2; go_ret; exact ⟨rfl, Lib.below_freeze (Below.drew (Below.refl B w)) (p := ⟨g, 0, none⟩) hbg _, kept_freeze (Kept.drew (Kept.refl _ _)) (p := ⟨g, 0, none⟩) H6.out.symm _⟩)
/-- A loop's block that is no cells lies elsewhere. -/
theorem BAt.own {T B b o : Nat} {cs : List Value} {row : Option Nat} {bs : List Value} {w w1 : World} {r : Option Nat} (h : BAt T B b o cs row bs w) (hg : w.grownBy w1 r) (hr : ∀ q, r = some q → ∃ o : Obj, w.heap[q]? = some o ∧ o.isCells = false) : BAt T B b o cs row bs w1 := by
  have hk : Kept w w1 (fun k => r = some k) := ⟨hg.size, fun k hk hn => hg.block k hk (fun e => hn e.symm)⟩
  refine h.keep hk (fun e => ?_) (fun k hk2 e => ?_)
  · obtain ⟨ob, ho, hc⟩ := hr _ e
    rw [h.2.1] at ho
    injection ho with ho
    subst ho
    simp [Obj.isCells] at hc
  · obtain ⟨_, _, _, v, _, hown, hrow, _⟩ := h
    rcases hown.2 with ⟨rfl, _⟩ | ⟨g, cap, cur, rfl, _, hgb, _⟩
    · rw [← hrow] at hk2; cases hk2
    · rw [← hrow] at hk2
      obtain rfl : g = k := by simpa [Value.ownBlock] using hk2
      obtain ⟨ob, ho, hc⟩ := hr _ e
      rw [hgb] at ho
      injection ho with ho
      subst ho
      simp [Obj.isCells] at hc
theorem BAt.row_cells {T B b o : Nat} {cs : List Value} {row : Option Nat} {bs : List Value} {w : World} (h : BAt T B b o cs row bs w) (k : Nat) (hk : k = b ∨ row = some k) (ob : Obj) (ho : w.heap[k]? = some ob) : ob.isCells = true := by
  rcases hk with rfl | hk
  · rw [h.2.1] at ho; injection ho with ho; subst ho; rfl
  · obtain ⟨_, _, _, v, _, hown, hrow, _⟩ := h
    rcases hown.2 with ⟨rfl, _⟩ | ⟨g, cap, cur, rfl, _, hgb, _⟩
    · rw [← hrow] at hk; cases hk
    · rw [← hrow] at hk
      obtain rfl : g = k := by simpa [Value.ownBlock] using hk
      rw [hgb] at ho; injection ho with ho; subst ho; rfl
theorem others_of_kept {w w1 : World} {S : Nat → Prop} (hk : Kept w w1 S) (hS : ∀ k, S k → ∀ o : Obj, w.heap[k]? = some o → o.isCells = true) : KeepsOthers w w1 :=
  ⟨hk.1, fun k o hko hc => (hk.2 k (blk_lt hko) (fun hs => by rw [hS k hs o hko] at hc; cases hc)).trans hko⟩
/-- What a loop over an iterator says of a builder of its own, alone in block b (its type T): the row lies at or behind n₀. -/
def Bld (T B b n₀ : Nat) (acc : List Value) (w : World) : Prop := ∃ (cs : List Value) (row : Option Nat), BAt T B b 0 cs row acc w ∧ cs.length = 2 ∧ ∀ k, row = some k → n₀ ≤ k
theorem Bld.own {T B b n₀ B' : Nat} {β : Type} (f : β → List Value) : OwnFrom B' (fun (s : β) w => Bld T B b n₀ (f s) w) := fun s w w1 r ⟨cs, row, h, hl, hn⟩ hg hr =>
  ⟨cs, row, h.own hg (fun q e => (hr q e).2), hl, hn⟩
theorem Bld.below {T B b n₀ : Nat} {acc : List Value} {w w1 : World} (h : Bld T B b n₀ acc w) (hb : Below w.heap.size w w1) : Bld T B b n₀ acc w1 := by
  obtain ⟨cs, row, h, hl, hn⟩ := h
  exact ⟨cs, row, h.keep (Kept.of_below hb (fun _ => False)) (fun e => e) (fun _ _ e => e), hl, hn⟩
theorem Bld.new {T b n₀ : Nat} {w : World} (h : w.heap[b]? = some (.cells #[.pointer none, .slice none 0 0] T (0, 0))) (B : Nat) (hB : B ≤ b) : Bld T B b n₀ [] w :=
  ⟨[.pointer none, .slice none 0 0], none, ⟨hB, h, .inl rfl, .slice none 0 0, rfl, World.ownsRow_nil _ _ _ _, rfl, by simp⟩, rfl, fun k e => by cases e⟩
/-- A text is written behind. -/
theorem Write_b {T B b n₀ : Nat} {acc : List Value} (s : ByteArray) {w : World} (hT : T ≠ 5) (hL : Lies T 2 0) (h : Bld T B b n₀ acc w) (hl : acc.length + s.size ≤ 140737488355328) (hBw : B ≤ w.heap.size) (hn : n₀ ≤ w.heap.size) :
    Calls Try.prog 29 #[.pointer (some ⟨b, 0, none⟩), .string s] w fun e w' => e = .returned (.tuple #[.int .i64 s.size, .nilIface]) ∧
      Bld T B b n₀ (acc ++ Lib.strCells s) w' ∧ KeepsOthers w w' ∧ (∀ W0, KP b W0 w → W0.heap.size ≤ n₀ → KP b W0 w') ∧ KeepRow n₀ b w w' ∧ Below B w w' := by
  obtain ⟨cs, row, h, hlen, hrow⟩ := h
  refine (WriteString_c T B b 0 cs row acc s w hT (by rw [hlen]; exact hL) h hl hBw).mono ?_
  rintro e w' ⟨rfl, v, row', h2, h3, h4, h5⟩
  refine ⟨rfl, ⟨_, row', h2, by simp [hlen], fun k hk => ?_⟩, others_of_kept h5 (fun k hk o ho => h.row_cells k hk o ho), fun W0 h0 hW => ?_, ⟨h5.1, fun q hq hne => ?_⟩, h4⟩
  · rcases h3 with h3 | ⟨q, h3, hq⟩
    · exact hrow k (h3.symm.trans hk)
    · rw [h3] at hk; injection hk with hk; omega
  · exact ⟨h4.os.trans h0.os, h4.tape.trans h0.tape, h4.output.trans h0.output, Nat.le_trans h0.size h5.1, fun q hq hne => (h5.2 q (by have := h0.size; omega) (fun e => e.elim hne (fun e => by have := hrow q e; omega))).trans (h0.block q hq hne)⟩
  · exact h5.2 q (by omega) (fun e => e.elim hne (fun e => by have := hrow q e; omega))
/-- What was written is told. -/
theorem String_b {T B b n₀ : Nat} (l : List UInt8) {w : World} (h : Bld T B b n₀ (Lib.byteCells l) w) (hBw : B ≤ w.heap.size) :
    Calls Try.prog 32 #[.pointer (some ⟨b, 0, none⟩)] w fun e w' => e = .returned (.string ⟨l.toArray⟩) ∧ Below B w w' ∧ Kept w w' (fun k => n₀ ≤ k ∧ ∀ o : Obj, w.heap[k]? = some o → o.isCells = true) := by
  obtain ⟨cs, row, h, hlen, hrow⟩ := h
  refine (String_k T B b 0 cs row l w h hBw).mono ?_
  rintro e w' ⟨rfl, h1, h2⟩
  exact ⟨rfl, h1, h2.mono (fun k hk => ⟨hrow k hk, fun o ho => h.row_cells k (.inr hk) o ho⟩)⟩
end Go.Proofs.Ytkmfhfejogjnfaa.BL

/- A pipe: New, Len, Room, Passed, Put, Take by what it holds. No condition. -/
import Derived.Test.YtogmfibilopppaaQU
import Derived.Test.YtogmfibilopppaaXx
import Derived.Test.YtogmfibilopppaaB0
import Derived.Deep.LoopGhost
import Derived.Deep.RegionWith
namespace Go.Proofs.Ytogmfibilopppaa.PI
open Go.RowKit Go.Proofs.YtogmfibilopppaaW.PrintWords Go.Proofs.YtogmfibilopppaaW.PrintLast Go.Proofs.YtogmfibilopppaaW.PrintMore Go.Proofs.Ytogmfibilopppaa.Q Go.Proofs.Ytogmfibilopppaa.BL Go.Proofs.Ytogmfibilopppaa.B
set_option linter.unusedVariables false
set_option linter.unusedSimpArgs false
/-- All bytes of some parts. -/
def cat : List ByteArray → ByteArray
  | [] => ⟨#[]⟩
  | s :: l => s ++ cat l
theorem cat_append (l m : List ByteArray) : cat (l ++ m) = cat l ++ cat m := by
  induction l with
  | nil => simp [cat, ba_nil_append]
  | cons s l ih => simp [cat, ih, ba_append_assoc]
/-- A pipe in block g: its bytes are S. -/
def PIs (B g : Nat) (row : Option Nat) (S : ByteArray) (room passed : Int) (w : World) : Prop :=
  ∃ (v : Value) (first : ByteArray) (ls : List ByteArray), QAt 51 9 B g 0 [v, .string first, .int .i64 S.size, .int .i64 room, .int .i64 passed] row (ls.map Value.string) w ∧
    first ++ cat ls = S ∧ (∀ s ∈ ls, 0 < s.size) ∧ ls.length ≤ S.size
theorem PIs.keep {B g : Nat} {row : Option Nat} {S : ByteArray} {room passed : Int} {w w1 : World} {X : Nat → Prop} (h : PIs B g row S room passed w) (hk : Kept w w1 X) (hb : ¬ X g) (hr : ∀ k, row = some k → ¬ X k) : PIs B g row S room passed w1 := by
  obtain ⟨v, f, ls, h1, h2⟩ := h
  exact ⟨v, f, ls, h1.keep hk hb hr, h2⟩
theorem PIs.lt {B g : Nat} {row : Option Nat} {S : ByteArray} {room passed : Int} {w : World} (h : PIs B g row S room passed w) : g < w.heap.size := by
  obtain ⟨v, f, ls, h1, h2⟩ := h
  exact h1.lt
theorem PIs.row_lt {B g : Nat} {row : Option Nat} {S : ByteArray} {room passed : Int} {w : World} (h : PIs B g row S room passed w) (k : Nat) (hk : row = some k) : k < w.heap.size ∧ B ≤ k := by
  obtain ⟨v, f, ls, h1, h2⟩ := h
  exact h1.row_lt k hk
theorem PIs.ge {B g : Nat} {row : Option Nat} {S : ByteArray} {room passed : Int} {w : World} (h : PIs B g row S room passed w) : B ≤ g := by
  obtain ⟨v, f, ls, h1, h2⟩ := h
  exact h1.1
set_option maxHeartbeats 1000000 in
set_option maxRecDepth 100000 in
theorem New_c (room : Int) (B : Nat) (w : World) (hBw : B ≤ w.heap.size) :
    Calls Try.prog 8 #[.int .i64 room] w fun e w' => ∃ g, e = .returned (.pointer (some ⟨g, 0, none⟩)) ∧ PIs B g none ⟨#[]⟩ (max room 0) 0 w' ∧ w.heap.size ≤ g ∧ Below w.heap.size w w' := by
  go_enter Try.func8, Try.ntmps8
  go_wp2
  go_ret
  refine ⟨w.heap.size, rfl, ⟨.slice none 0 0, ⟨#[]⟩, [], ⟨hBw, ?_, .slice none 0 0, rfl, World.ownsRow_nil _ _ _ _, rfl, by simp⟩, by simp [cat, ba_append_nil], by simp, by simp⟩, Nat.le_refl _, (Below.refl _ _).alloc (Nat.le_refl _) _⟩
  exact heap_alloc_new w _
theorem Len_q (B g : Nat) (row : Option Nat) (S : ByteArray) (room passed : Int) (w : World) (h : PIs B g row S room passed w) :
    Calls Try.prog 13 #[.pointer (some ⟨g, 0, none⟩)] w fun e w' => e = .returned (.int .i64 S.size) ∧ w = w' := by
  obtain ⟨v, f, ls, ⟨h1, h2, _⟩, _⟩ := h
  have c2 : w.cell? ⟨g, 2, none⟩ = some (.int .i64 S.size) := by rw [blk_cell h2]; rfl
  clear h1 h2
  go_enter Try.func13, Try.ntmps13
  go_wp2
  go_ret
  exact ⟨rfl, rfl⟩
theorem Passed_q (B g : Nat) (row : Option Nat) (S : ByteArray) (room passed : Int) (w : World) (h : PIs B g row S room passed w) :
    Calls Try.prog 15 #[.pointer (some ⟨g, 0, none⟩)] w fun e w' => e = .returned (.int .i64 passed) ∧ w = w' := by
  obtain ⟨v, f, ls, ⟨h1, h2, _⟩, _⟩ := h
  have c2 : w.cell? ⟨g, 4, none⟩ = some (.int .i64 passed) := by rw [blk_cell h2]; rfl
  clear h1 h2
  go_enter Try.func15, Try.ntmps15
  go_wp2
  go_ret
  exact ⟨rfl, rfl⟩
theorem Room_q (B g : Nat) (row : Option Nat) (S : ByteArray) (room passed : Int) (w : World) (h : PIs B g row S room passed w) (h0 : 0 ≤ room) (h1 : room ≤ 9223372036854775807) (h2 : S.size ≤ 1000000000000) :
    Calls Try.prog 14 #[.pointer (some ⟨g, 0, none⟩)] w fun e w' => e = .returned (.int .i64 (room - S.size)) ∧ ∃ m, w' = w.drewN m := by
  obtain ⟨v, f, ls, ⟨h3, h4, _⟩, _⟩ := h
  have c2 : w.cell? ⟨g, 2, none⟩ = some (.int .i64 S.size) := by rw [blk_cell h4]; rfl
  have c3 : w.cell? ⟨g, 3, none⟩ = some (.int .i64 room) := by rw [blk_cell h4]; rfl
  have hs : IntKind.i64.wrap (room - (S.size : Int)) = room - S.size := by rw [IntKind.wrap_i64]; omega
  clear h3 h4
  go_enter Try.func14, Try.ntmps14
  go_wp2
  go_quiet (fail)
  go_wp2
  go_ret
  exact ⟨rfl, _, rfl⟩
set_option maxHeartbeats 2000000 in
set_option maxRecDepth 100000 in
theorem Put_c (B g : Nat) (row : Option Nat) (S : ByteArray) (room passed : Int) (s : ByteArray) (w : World) (h : PIs B g row S room passed w) (hBw : B ≤ w.heap.size) (h0 : (S.size : Int) ≤ room) (h1 : room ≤ 9223372036854775807) (h2 : S.size ≤ 100000000000) (h3 : s.size ≤ 100000000000) :
    Calls Try.prog 11 #[.pointer (some ⟨g, 0, none⟩), .string s] w fun e w' => e = .returned (.int .i64 (min (s.size : Int) (room - S.size))) ∧
      ∃ row', PIs B g row' (S ++ s.extract 0 (min (s.size : Int) (room - S.size)).toNat) room passed w' ∧ (row' = row ∨ ∃ k, row' = some k ∧ w.heap.size ≤ k) ∧ Below B w w' ∧ Kept w w' (fun k => k = g ∨ row = some k) := by
  have HP := Lib.hid h
  obtain ⟨v, f, ls, hq, hcat, hne, hln⟩ := h
  obtain ⟨m, hm⟩ : ∃ m, min (s.size : Int) (room - S.size) = m := ⟨_, rfl⟩
  have m0 : 0 ≤ m ∧ m ≤ s.size ∧ m ≤ room - S.size := by omega
  have HM := Lib.hid hm
  by_cases hp : 0 < m
  · have hd : decide (0 < m) = true := decide_eq_true hp
    have HQ := Lib.hid hq
    have b1 : 0 ≤ m := by omega
    have b2 : m ≤ (s.size : Int) := by omega
    clear hm hq
    go_enter Try.func11, Try.ntmps11
    go_wp2_with fail
    refine (Room_q B g row S room passed w HP.out (by omega) h1 (by omega)).mono ?_
    rintro e _ ⟨rfl, q, rfl⟩
    have hm := HM.out
    go_wp2_with fail
    go_region_with (go_at_call 25; refine (Put_s 51 B g 0 _ row _ (s.extract 0 m.toNat) _ (QAt.drewN HQ.out _) (by rw [List.length_map]; omega) hBw).mono ?_; rintro e w1 ⟨rfl, v1, row1, h1, h2, h3, h4⟩)
    have b3 : IntKind.i64.wrap ((S.size : Int) + m) = S.size + m := by rw [IntKind.wrap_i64]; omega
    have c2 : w1.cell? ⟨g, 2, none⟩ = some (.int .i64 S.size) := by rw [blk_cell h1.2.1]; rfl
    have f2 : w1.frozen? ⟨g, 2, none⟩ = false := blk_frozen h1.2.1 _
    have hx : (s.extract 0 m.toNat).size = m.toNat := by rw [ByteArray.size_extract]; omega
    have hfin : PIs B g row1 (S ++ s.extract 0 m.toNat) room passed (w1.setCell ⟨g, 2, none⟩ (.int .i64 (S.size + m))) := by
      refine ⟨v1, f, ls ++ [s.extract 0 m.toNat], ?_, ?_, ?_, ?_⟩
      · have := h1.put 2 (by decide) (.int .i64 (S.size + m))
        rw [show (((S ++ s.extract 0 m.toNat).size : Nat) : Int) = S.size + m by rw [ByteArray.size_append, hx]; omega, List.map_append]
        exact this
      · rw [cat_append, ← ba_append_assoc, hcat]; simp [cat, ba_append_nil]
      · intro t ht
        rcases List.mem_append.1 ht with ht | ht
        · exact hne t ht
        · rw [List.mem_singleton.1 ht, hx]; omega
      · rw [List.length_append, ByteArray.size_append, hx]; simp; omega
    have H2 := Lib.hid h2
    have H3 := Lib.hid ((Below.trans (pw_below_drewN (Below.refl B w) (q + 1)) h3).setCell (p := ⟨g, 2, none⟩) HQ.out.1 (.int .i64 (S.size + m)))
    have H4 := Lib.hid (Kept.setCell (p := ⟨g, 2, none⟩) (show Kept w w1 (fun k => k = g ∨ row = some k) from h4) (.inl (.inl rfl)) (.int .i64 (S.size + m)))
    have HF := Lib.hid hfin
    clear h1 h2 h3 h4 hfin hcat hne hx
    go_wp2
    go_ret
    exact ⟨by rw [hm]; rfl, row1, by rw [hm]; exact HF.out, H2.out, H3.out, H4.out⟩
  · have hd : decide (0 < m) = false := decide_eq_false hp
    have hm0 : m ≤ 0 := by omega
    clear hm hq
    go_enter Try.func11, Try.ntmps11
    go_wp2_with fail
    refine (Room_q B g row S room passed w HP.out (by omega) h1 (by omega)).mono ?_
    rintro e _ ⟨rfl, q, rfl⟩
    have hm := HM.out
    go_wp2
    go_ret
    refine ⟨by rw [hm]; rfl, row, ?_, .inl rfl, pw_below_drewN (Below.refl B w) _, (Kept.refl w _).drewN _⟩
    rw [hm, show m.toNat = 0 by omega, show s.extract 0 0 = ⟨#[]⟩ from ba_ext (by rw [ba_extract]; rfl), ba_append_nil]
    exact HP.out
theorem cat_len (ls : List ByteArray) (h : ∀ s ∈ ls, 0 < s.size) : ls.length ≤ (cat ls).size := by
  induction ls with
  | nil => simp
  | cons s l ih =>
    have h1 := ih (fun t ht => h t (List.mem_cons_of_mem _ ht))
    have h2 := h s (List.mem_cons_self)
    rw [cat, ba_size_append, List.length_cons]; omega
theorem bat_row {T B b o : Nat} {cs : List Value} {row : Option Nat} {bs : List Value} {w : World} (h : BAt T B b o cs row bs w) (k : Nat) (hk : row = some k) : k < w.heap.size ∧ B ≤ k := by
  obtain ⟨_, _, _, v, hv, h5, h6, h7⟩ := h
  exact ⟨own_lt h5 k (h6.trans hk), own_base h5 k (h6.trans hk)⟩
/-- Under way in Take: n bytes are still to come. -/
def TR (w0 : World) (B g : Nat) (row : Option Nat) (S : ByteArray) (x2 room x4 : Int) (k n : Nat) (wr : World) : Prop :=
  ∃ (acc : ByteArray) (v : Value) (first : ByteArray) (ls : List ByteArray) (c0 c1 : Value) (row2 : Option Nat), acc.size + n = k ∧
    QAt 51 9 B g 0 [v, .string first, .int .i64 x2, .int .i64 room, .int .i64 x4] row (ls.map Value.string) wr ∧
    acc ++ (first ++ cat ls) = S ∧ (∀ s ∈ ls, 0 < s.size) ∧ BAt 55 w0.heap.size w0.heap.size 0 [c0, c1] row2 (Lib.strCells acc) wr ∧
    Below B w0 wr ∧ Kept w0 wr (fun k => k = g ∨ row = some k)
theorem lies_b : Lies 55 2 0 := by unfold Lies; kernel_rfl
set_option maxHeartbeats 4000000 in
set_option maxRecDepth 100000 in
theorem Take_c (B g : Nat) (row : Option Nat) (S : ByteArray) (room passed most : Int) (w : World) (h : PIs B g row S room passed w) (hBw : B ≤ w.heap.size) (h0 : (S.size : Int) ≤ room) (h2 : S.size ≤ 100000000000) (k : Nat) (hk : min (max most 0) (S.size : Int) = k) (hp0 : 0 ≤ passed) (hp1 : passed ≤ 1000000000000000000) :
    Calls Try.prog 9 #[.pointer (some ⟨g, 0, none⟩), .int .i64 most] w fun e w' => e = .returned (.string (S.extract 0 k)) ∧
      PIs B g row (S.extract k S.size) room (passed + k) w' ∧ Below B w w' ∧ Kept w w' (fun k => k = g ∨ row = some k) := by
  have hkS : k ≤ S.size := by omega
  have hbg := h.ge
  have hlt := h.lt
  have HRL := Lib.hid h.row_lt
  obtain ⟨v, f, ls, hq, hcat, hne, hln⟩ := h
  have c2 : w.cell? ⟨g, 2, none⟩ = some (.int .i64 S.size) := by rw [blk_cell hq.2.1]; rfl
  have f2 : w.frozen? ⟨g, 2, none⟩ = false := blk_frozen hq.2.1 _
  have hq1 := hq.put 2 (by decide) (.int .i64 ((S.size : Int) - k))
  have c3 : (w.setCell ⟨g, 2, none⟩ (.int .i64 ((S.size : Int) - k))).cell? ⟨g, 4, none⟩ = some (.int .i64 passed) := by rw [blk_cell hq1.2.1]; rfl
  have f3 : (w.setCell ⟨g, 2, none⟩ (.int .i64 ((S.size : Int) - k))).frozen? ⟨g, 4, none⟩ = false := blk_frozen hq1.2.1 _
  have hq2 := hq1.put 4 (by decide) (.int .i64 (passed + k))
  have e1 : IntKind.i64.wrap ((S.size : Int) - k) = S.size - k := by rw [IntKind.wrap_i64]; omega
  have e2 : IntKind.i64.wrap (passed + k) = passed + k := by rw [IntKind.wrap_i64]; omega
  have HQ := Lib.hid hq2
  have HC := Lib.hid hcat
  have HN := Lib.hid hne
  have HQ0 := Lib.hid hq.2.1
  have hTR : TR w B g row S ((S.size : Int) - k) room (passed + k) k k (((w.setCell ⟨g, 2, none⟩ (.int .i64 ((S.size : Int) - k))).setCell ⟨g, 4, none⟩ (.int .i64 (passed + k))).alloc (.cells #[.pointer none, .slice none 0 0] 55)) := by
    have hsz : ((w.setCell ⟨g, 2, none⟩ (.int .i64 ((S.size : Int) - k))).setCell ⟨g, 4, none⟩ (.int .i64 (passed + k))).heap.size = w.heap.size := by simp
    have hkk : Kept w (((w.setCell ⟨g, 2, none⟩ (.int .i64 ((S.size : Int) - k))).setCell ⟨g, 4, none⟩ (.int .i64 (passed + k)))) (fun k => k = g ∨ row = some k) := Kept.setCell (p := ⟨g, 4, none⟩) (Kept.setCell (p := ⟨g, 2, none⟩) (Kept.refl w _) (.inl (.inl rfl)) _) (.inl (.inl rfl)) _
    refine ⟨⟨#[]⟩, v, f, ls, .pointer none, .slice none 0 0, none, Nat.zero_add _, ?_, by rw [ba_nil_append]; exact hcat, hne, ⟨Nat.le_refl _, ?_, .inl rfl, .slice none 0 0, rfl, World.ownsRow_nil _ _ _ _, rfl, by simp⟩, ?_, ?_⟩
    · exact hq2.keep ((Kept.refl _ (fun _ => False)).alloc _) (fun h => h) (fun _ _ h => h)
    · have := heap_alloc_new ((w.setCell ⟨g, 2, none⟩ (.int .i64 ((S.size : Int) - k))).setCell ⟨g, 4, none⟩ (.int .i64 (passed + k))) (.cells #[.pointer none, .slice none 0 0] 55)
      rw [hsz] at this
      exact this
    · exact (((Below.refl B w).setCell (p := ⟨g, 2, none⟩) hbg _).setCell (p := ⟨g, 4, none⟩) hbg _).alloc (by rw [hsz]; exact hBw) _
    · exact hkk.alloc _
  have HT := Lib.hid hTR
  have HK := Lib.hid hk
  clear hq hq1 hq2 hcat hne hTR HQ HC HN HQ0
  go_enter Try.func9, Try.ntmps9
  go_wp2_with fail
  clear hk c2 f2 c3 f3 e1 e2
  go_loopg [6] k (fun n p wr => Hid (TR w B g row S ((S.size : Int) - k) room (passed + k) k n wr))
  case atStart => exact HT
  case round =>
    obtain ⟨acc, v, first, ls, c0, c1, row2, hn, hq, hcat, hne, hb, hbe, hke⟩ := hrel.out
    have hal : (Lib.strCells acc).length = acc.size := Lib.strCells_length acc
    have hsz : S.size = acc.size + (first.size + (cat ls).size) := by rw [← hcat, ba_size_append, ba_size_append]
    by_cases hlt2 : 0 < gk
    · have hd1 : decide ((acc.size : Int) < k) = true := decide_eq_true (by omega)
      have HQ := Lib.hid hq
      have HB := Lib.hid hb
      have HBE := Lib.hid hbe
      have HKE := Lib.hid hke
      have HNE := Lib.hid hne
      have HCT := Lib.hid hcat
      have cq : wr.cell? ⟨g, 1, none⟩ = some (.string first) := by rw [blk_cell hq.2.1]; rfl
      have HSZ := Lib.hid hsz
      clear hq hb hbe hke hne hcat hsz
      rcases Decidable.em (first = ⟨#[]⟩) with hf | hf
      case' inl =>
        have hE : first.toList.isEmpty = true := by rw [hf, ba_toList]; rfl
        subst hf
        have hcs : 0 < (cat ls).size := by have := HSZ.out; have : (⟨#[]⟩ : ByteArray).size = 0 := rfl; omega
        obtain ⟨x, l2, rfl⟩ : ∃ x l2, ls = x :: l2 := by
          cases ls with
          | nil => exact absurd hcs (by simp [cat]; rfl)
          | cons x l2 => exact ⟨x, l2, rfl⟩
        go_wp2_with fail
        refine (Len_c _ _ _ _ _ _ _ _ HB.out).mono ?_
        rintro e _ ⟨rfl, rfl⟩
        go_wp2_with fail
        refine (Take_s 51 B g 0 _ row x l2 _ (by decide) HQ.out).mono ?_
        rintro e w1 ⟨rfl, v2, hq1, hb1, hk1⟩
        have f1 : w1.frozen? ⟨g, 1, none⟩ = false := blk_frozen hq1.2.1 _
        have cq1 : w1.cell? ⟨g, 1, none⟩ = some (.string ⟨#[]⟩) := by rw [blk_cell hq1.2.1]; rfl
        have hq2 := hq1.put 1 (by decide) (.string x)
        have HB1 := Lib.hid (hb1.setCell (p := ⟨g, 1, none⟩) hbg (.string x))
        have HK1 := Lib.hid (Kept.setCell (p := ⟨g, 1, none⟩) hk1 (.inl (.inl rfl)) (.string x))
        clear hq1 hb1 hk1
        obtain ⟨first, hfx⟩ : ∃ f, x = f := ⟨x, rfl⟩
        subst hfx
        have hf0 : 0 < x.size := HNE.out x (List.mem_cons_self)
        have HQ3 : Hid (QAt 51 9 B g 0 [v2, .string x, .int .i64 ((S.size : Int) - k), .int .i64 room, .int .i64 (passed + k)] row (l2.map Value.string) (w1.setCell ⟨g, 1, none⟩ (.string x))) := Lib.hid hq2
        have HNE3 : Hid (∀ s ∈ l2, 0 < s.size) := Lib.hid (fun s hs => HNE.out s (List.mem_cons_of_mem _ hs))
        have HCT3 : Hid (acc ++ (x ++ cat l2) = S) := Lib.hid (by have := HCT.out; rw [ba_nil_append] at this; exact this)
        have HBL3 : Hid (BAt 55 w.heap.size w.heap.size 0 [c0, c1] row2 (Lib.strCells acc) (w1.setCell ⟨g, 1, none⟩ (.string x))) := Lib.hid (HB.out.keep HK1.out (by rintro (h | h); omega; exact absurd (HRL.out _ h).1 (by omega)) (by
          intro q hq h
          have h1 := (bat_row HB.out q hq).2
          rcases h with h | h
          · omega
          · exact absurd (HRL.out _ h).1 (by omega)))
        have HBE3 : Hid (Below B w (w1.setCell ⟨g, 1, none⟩ (.string x))) := Lib.hid (HBE.out.trans HB1.out)
        have HKE3 : Hid (Kept w (w1.setCell ⟨g, 1, none⟩ (.string x)) (fun k => k = g ∨ row = some k)) := Lib.hid (HKE.out.then_ HK1.out (fun _ h => .inl h))
        have cq3 : (w1.setCell ⟨g, 1, none⟩ (.string x)).cell? ⟨g, 1, none⟩ = some (.string x) := by rw [blk_cell HQ3.out.2.1]; rfl
        clear hq2 HB1 HK1 HQ HB HBE HKE HNE HCT HSZ hcs cq
        go_wp2_with fail
        clear f1 cq1
        clear hE
        generalize w1.setCell ⟨g, 1, none⟩ (.string x) = w3 at *
        generalize v2 = v3 at *
        generalize x = first3 at *
        generalize l2 = ls3 at *
      case' inr =>
        have hE : first.toList.isEmpty = false := by
          cases he : first.toList.isEmpty with
          | false => rfl
          | true => exact absurd (ba_eq_nil.1 (List.isEmpty_iff.1 he)) hf
        go_wp2_with fail
        refine (Len_c _ _ _ _ _ _ _ _ HB.out).mono ?_
        rintro e _ ⟨rfl, rfl⟩
        go_wp2_with fail
        have hf0 : 0 < first.size := by have := mt ba_empty_size.1 hf; omega
        clear HSZ hf hE
        have cq3 := cq
        have HQ3 := HQ
        have HNE3 := HNE
        have HCT3 := HCT
        have HBL3 := HB
        have HBE3 := HBE
        have HKE3 := HKE
        clear cq HQ HNE HCT HB HBE HKE
        clear hrel
        generalize v = v3 at *
        generalize first = first3 at *
        generalize ls = ls3 at *
        generalize wr = w3 at *
      all_goals
        have e3 : IntKind.i64.wrap ((k : Int) - acc.size) = k - acc.size := by rw [IntKind.wrap_i64]; omega
        obtain ⟨m, hm⟩ : ∃ m : Nat, min ((k : Int) - acc.size) (first3.size : Int) = m := ⟨(min ((k : Int) - acc.size) (first3.size : Int)).toNat, by omega⟩
        have b0 : (0 : Int) ≤ (m : Int) := by omega
        have b1 : (m : Int) ≤ first3.size := by omega
        have b2 : (m : Int) ≤ k - acc.size := by omega
        have b4 : 0 < m := by omega
        go_wp2_with fail
        go_quiet ((go_at_call 21; exact Calls.quiet_of_same ((Len_c _ _ _ _ _ _ _ _ (BAt.drewN HBL3.out _)).mono fun _ _ h => ⟨h.1, h.2.symm⟩)))
        have HM := Lib.hid hm
        clear hm e3
        go_wp2_with fail
        refine (WriteString_c 55 w.heap.size w.heap.size 0 [c0, c1] row2 (Lib.strCells acc) (first3.extract 0 m) _ (by decide) lies_b (BAt.drewN HBL3.out _) (by rw [hal, ba_size_extract]; omega) HKE3.out.1).mono ?_
        rintro e w4 ⟨rfl, v4, row4, hb4, hr4, hbb4, hk4⟩
        have hrow : ∀ q, row = some q → q < w.heap.size := fun q hq => (HRL.out q hq).1
        have hk5 : Kept w3 w4 (fun q => q = w.heap.size ∨ row2 = some q) := hk4
        have hnr : ∀ q, row2 = some q → w.heap.size ≤ q := fun q hq => (bat_row HBL3.out q hq).2
        have HQ4 := Lib.hid (HQ3.out.keep hk5 (by rintro (h | h); omega; have := hnr _ h; omega) (by
          intro q hq h
          have h1 := hrow q hq
          rcases h with h | h
          · omega
          · have := hnr _ h; omega))
        have cq4 : w4.cell? ⟨g, 1, none⟩ = some (.string first3) := by rw [blk_cell HQ4.out.2.1]; rfl
        have f4 : w4.frozen? ⟨g, 1, none⟩ = false := blk_frozen HQ4.out.2.1 _
        have hkg : Kept w4 (w4.setCell ⟨g, 1, none⟩ (.string (first3.extract m first3.size))) (fun q => q = g) := Kept.setCell (p := ⟨g, 1, none⟩) (Kept.refl w4 (fun q => q = g)) (.inl rfl) _
        have hex : first3.extract 0 m ++ first3.extract m first3.size = first3 := by rw [ba_extract_split _ _ _ _ (Nat.zero_le _) (by omega), ba_extract_all _ _ (Nat.le_refl _)]
        have hTR : TR w B g row S ((S.size : Int) - k) room (passed + k) k (gk - m) (w4.setCell ⟨g, 1, none⟩ (.string (first3.extract m first3.size))) := by
          refine ⟨acc ++ first3.extract 0 m, v3, first3.extract m first3.size, ls3, .pointer (some ⟨w.heap.size, 0, none⟩), v4, row4, ?_, HQ4.out.put 1 (by decide) _, ?_, HNE3.out, ?_, ?_, ?_⟩
          · rw [ba_size_append, ba_size_extract]; omega
          · rw [ba_append_assoc, ← ba_append_assoc (first3.extract 0 m), hex]; exact HCT3.out
          · have := hb4.keep hkg (by omega) (by
              intro q hq h
              rcases hr4 with h2 | ⟨q2, h2, h3⟩
              · have := hnr q (h2.symm.trans hq); omega
              · rw [hq] at h2; injection h2 with h2; have := HKE3.out.1; have h3' : w3.heap.size ≤ q2 := h3; omega)
            rw [show Lib.strCells (acc ++ first3.extract 0 m) = Lib.strCells acc ++ Lib.strCells (first3.extract 0 m) by rw [Lib.strCells_eq, ba_append, Lib.byteCells_append]; rfl]
            exact this
          · exact (HBE3.out.trans (Below.mono (show Below w.heap.size w3 w4 from (pw_below_drewN (Below.refl _ w3) _).trans hbb4) hBw)).setCell (p := ⟨g, 1, none⟩) hbg _
          · exact Kept.setCell (p := ⟨g, 1, none⟩) (HKE3.out.then_ hk5 (by
              rintro q (h | h)
              · exact .inr (by omega)
              · exact .inr (hnr q h))) (.inl (.inl rfl)) _
        have HTR := Lib.hid hTR
        clear hTR hex hkg hnr hk5 hrow hb4 hr4 hbb4 hk4 HQ4 cq3
        go_wp2
        go_roundg (gk - m)
        case measure => omega
        case rel => exact HTR
    · have hd1 : decide ((acc.size : Int) < k) = false := decide_eq_false (by omega)
      have ha : acc = S.extract 0 k := by rw [← hcat, ba_extract_append_left _ _ _ _ (by omega), ba_extract_all _ _ (by omega)]
      have hr : first ++ cat ls = S.extract k S.size := by
        have : k = acc.size := by omega
        rw [← hcat, ba_extract_append_right _ _ _ _ (by omega), this, Nat.sub_self, ba_size_append, ba_extract_all _ _ (by omega)]
      have hs2 : (S.extract k S.size).size = S.size - k := by rw [ba_size_extract]; omega
      have HF := Lib.hid (show PIs B g row (S.extract k S.size) room (passed + k) wr from ⟨v, first, ls, by rw [hs2, show ((S.size - k : Nat) : Int) = (S.size : Int) - k by omega]; exact hq, hr, hne, by have := cat_len ls hne; rw [← hr, ba_size_append]; omega⟩)
      have HB := Lib.hid hb
      have HBE := Lib.hid hbe
      have HKE := Lib.hid hke
      have HA := Lib.hid ha
      clear hq hb hbe hke hne hcat hsz hr hs2 ha hrel
      go_wp2_with fail
      refine (Len_c _ _ _ _ _ _ _ _ HB.out).mono ?_
      rintro e _ ⟨rfl, rfl⟩
      go_wp2_with fail
      refine (String_c 55 w.heap.size w.heap.size 0 [c0, c1] row2 acc.data.toList _ HB.out HKE.out.1).mono ?_
      rintro e w5 ⟨rfl, hb5⟩
      have HB5 := Lib.hid hb5
      clear hb5
      go_wp2
      go_ret
      have hk5 : Kept wr w5 (fun q => w.heap.size ≤ q) := ⟨HB5.out.size, fun i _ hn => HB5.out.block i (by omega)⟩
      refine ⟨by rw [← HA.out]; rfl, HF.out.keep hk5 (by omega) (fun q hq => by have := (HRL.out q hq).1; omega), HBE.out.trans (Below.mono HB5.out hBw), HKE.out.then_ hk5 (fun q h => .inr h)⟩
/-- Put, with what comes out said. -/
theorem Put_v (B g : Nat) (row : Option Nat) (S : ByteArray) (room passed : Int) (s : ByteArray) (r : Int) (S2 : ByteArray) (w : World) (h : PIs B g row S room passed w) (hBw : B ≤ w.heap.size) (h0 : (S.size : Int) ≤ room) (h1 : room ≤ 9223372036854775807) (h2 : S.size ≤ 100000000000) (h3 : s.size ≤ 100000000000)
    (hr : min (s.size : Int) (room - S.size) = r) (hS : S ++ s.extract 0 r.toNat = S2) :
    Calls Try.prog 11 #[.pointer (some ⟨g, 0, none⟩), .string s] w fun e w' => e = .returned (.int .i64 r) ∧
      ∃ row', PIs B g row' S2 room passed w' ∧ (row' = row ∨ ∃ k, row' = some k ∧ w.heap.size ≤ k) ∧ Below B w w' ∧ Kept w w' (fun k => k = g ∨ row = some k) := by
  subst hr; subst hS
  exact Put_c B g row S room passed s w h hBw h0 h1 h2 h3
theorem Take_v (B g : Nat) (row : Option Nat) (S : ByteArray) (room passed most : Int) (x S2 : ByteArray) (p2 : Int) (w : World) (h : PIs B g row S room passed w) (hBw : B ≤ w.heap.size) (h0 : (S.size : Int) ≤ room) (h2 : S.size ≤ 100000000000) (hp0 : 0 ≤ passed) (hp1 : passed ≤ 1000000000000000000)
    (hx : S.extract 0 (min (max most 0) (S.size : Int)).toNat = x) (hS : S.extract (min (max most 0) (S.size : Int)).toNat S.size = S2) (hp : passed + (min (max most 0) (S.size : Int)) = p2) :
    Calls Try.prog 9 #[.pointer (some ⟨g, 0, none⟩), .int .i64 most] w fun e w' => e = .returned (.string x) ∧
      PIs B g row S2 room p2 w' ∧ Below B w w' ∧ Kept w w' (fun k => k = g ∨ row = some k) := by
  have := Take_c B g row S room passed most w h hBw h0 h2 (min (max most 0) (S.size : Int)).toNat (by omega) hp0 hp1
  rw [hx, hS, show ((min (max most 0) (S.size : Int)).toNat : Int) = min (max most 0) (S.size : Int) by omega, hp] at this
  exact this
/-- Two pipes that share nothing. -/
def Sep (g1 : Nat) (r1 : Option Nat) (g2 : Nat) (r2 : Option Nat) : Prop := g1 ≠ g2 ∧ r1 ≠ some g2 ∧ r2 ≠ some g1 ∧ ∀ k, r1 = some k → r2 ≠ some k
theorem Sep.symm {g1 g2 : Nat} {r1 r2 : Option Nat} (h : Sep g1 r1 g2 r2) : Sep g2 r2 g1 r1 := ⟨Ne.symm h.1, h.2.2.1, h.2.1, fun k h1 h2 => h.2.2.2 k h2 h1⟩
theorem PIs.sep {B g1 g2 : Nat} {r1 r2 : Option Nat} {S : ByteArray} {room passed : Int} {w w1 : World} (h : PIs B g2 r2 S room passed w) (hk : Kept w w1 (fun k => k = g1 ∨ r1 = some k)) (hs : Sep g1 r1 g2 r2) : PIs B g2 r2 S room passed w1 :=
  h.keep hk (by rintro (h | h); exact hs.1 h.symm; exact hs.2.1 h) (fun k hk2 => by rintro (h | h); exact hs.2.2.1 (hk2.trans (congrArg some h)); exact hs.2.2.2 k h hk2)
theorem Sep.put {g1 g2 : Nat} {r1 r2 r1' : Option Nat} {N : Nat} (h : Sep g1 r1 g2 r2) (hr : r1' = r1 ∨ ∃ k, r1' = some k ∧ N ≤ k) (hg : g1 < N) (hg2 : g2 < N) (hr2 : ∀ k, r2 = some k → k < N) : Sep g1 r1' g2 r2 := by
  rcases hr with rfl | ⟨k, rfl, hk⟩
  · exact h
  · refine ⟨h.1, ?_, h.2.2.1, ?_⟩
    · intro he; injection he with he; omega
    · intro k2 he h2; injection he with he; have := hr2 k2 h2; omega
end Go.Proofs.Ytogmfibilopppaa.PI

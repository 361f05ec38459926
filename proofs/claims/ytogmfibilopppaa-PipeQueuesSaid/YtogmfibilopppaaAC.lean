/- Parameters of the pipe's laws: a slice of acts, a slice of Bools; and the document's pipe. No condition. -/
import Derived.Test.YtogmfibilopppaaFL
import Derived.Test.YtogmfibilopppaaPW
namespace Go.Proofs.Ytogmfibilopppaa.PI
open Go.ChangeShapes Go.WideShapes Go.RowKit Go.Proofs.YtogmfibilopppaaW.PrintWords Go.Proofs.YtogmfibilopppaaW.PrintLast Go.Proofs.YtogmfibilopppaaW.PrintMore Go.Proofs.Ytogmfibilopppaa.Q Go.Proofs.Ytogmfibilopppaa.BL Go.Proofs.Ytogmfibilopppaa.B Go.Proofs.Ytogmfibilopppaa.FL
set_option linter.unusedVariables false
set_option linter.unusedSimpArgs false
def IsActs (W : World) (a : Option Addr) (len : Nat) (zs : List (Int × ByteArray)) : Prop :=
  zs.length = len ∧ (a = none → len = 0) ∧ ∀ i, i < len → ∃ ad, a = some ad ∧ W.cell? (ad.add (i * 2)) = some (.int .i64 (zs.getD i default).1) ∧ W.cell? (ad.add (i * 2 + 1)) = some (.string (zs.getD i default).2) ∧ (Lit.int .i64 (zs.getD i default).1).wf = true ∧ (zs.getD i default).2.size ≤ maxLen
theorem open_acts {H : Type} {enc : TypeId × Value → H} {w : World} {base b0 : Nat} {spare : Nat → Bool} {held : Bool} {v : Value} {d : DataW H} {p : List MemPlace} (hv : Value.okWide Try.prog w .any b0 22 v)
    (h : DataW.Trod enc Try.prog w base spare held 22 v d p) : ∃ a len cap zs, v = .slice a len cap ∧ len ≤ maxLen ∧ IsActs w a len zs := by
  obtain ⟨a, len, cap, rfl⟩ := okWide_slice Try.underlying22 hv
  obtain ⟨fuel, hf⟩ := h
  obtain ⟨⟨h1, h2⟩, h0, hel⟩ := open_elems Try.underlying22 (show DataW.trod enc Try.prog w base spare held fuel _ [.slice a len cap] = some _ from by simpa [Value.cells] using hf)
  have hC : Try.prog.cellsOf 30 = 2 := by kernel_rfl
  obtain ⟨zs, hz, hr⟩ := exists_list (fun i (z : Int × ByteArray) => ∃ ad, a = some ad ∧ w.cell? (ad.add (i * 2)) = some (.int .i64 z.1) ∧ w.cell? (ad.add (i * 2 + 1)) = some (.string z.2) ∧ (Lit.int .i64 z.1).wf = true ∧ z.2.size ≤ maxLen) len (fun i hi => by
    obtain ⟨ad, rfl⟩ : ∃ ad, a = some ad := by
      cases a with
      | none => exact absurd (h0 rfl) (by omega)
      | some ad => exact ⟨ad, rfl⟩
    obtain ⟨cs, f', y, hl, hc, ht⟩ := hel ad rfl i hi
    rw [hC] at hc
    obtain ⟨n, hn, hw⟩ := leaf_int ht 0 3 Try.underlying3 (by kernel_rfl)
    obtain ⟨s, hs, hsz⟩ := leaf_str ht 1 9 Try.underlying9 (by kernel_rfl)
    exact ⟨(n, s), ad, rfl, hc 0 _ hn, hc 1 _ hs, hw, hsz⟩)
  exact ⟨a, len, cap, zs, rfl, Nat.le_trans h1 h2, hz, h0, hr⟩
def IsBools (W : World) (a : Option Addr) (len : Nat) (zs : List Bool) : Prop :=
  zs.length = len ∧ (a = none → len = 0) ∧ ∀ i, i < len → ∃ ad, a = some ad ∧ W.cell? (ad.add i) = some (.bool (zs.getD i default))
theorem open_bools {H : Type} {enc : TypeId × Value → H} {w : World} {base b0 : Nat} {spare : Nat → Bool} {held : Bool} {v : Value} {d : DataW H} {p : List MemPlace} (hv : Value.okWide Try.prog w .any b0 37 v)
    (h : DataW.Trod enc Try.prog w base spare held 37 v d p) : ∃ a len cap zs, v = .slice a len cap ∧ len ≤ maxLen ∧ IsBools w a len zs := by
  obtain ⟨a, len, cap, rfl⟩ := okWide_slice Try.underlying37 hv
  obtain ⟨fuel, hf⟩ := h
  obtain ⟨⟨h1, h2⟩, h0, hel⟩ := open_elems Try.underlying37 (show DataW.trod enc Try.prog w base spare held fuel _ [.slice a len cap] = some _ from by simpa [Value.cells] using hf)
  have hC : Try.prog.cellsOf 4 = 1 := by kernel_rfl
  obtain ⟨zs, hz, hr⟩ := exists_list (fun i (z : Bool) => ∃ ad, a = some ad ∧ w.cell? (ad.add i) = some (.bool z)) len (fun i hi => by
    obtain ⟨ad, rfl⟩ : ∃ ad, a = some ad := by
      cases a with
      | none => exact absurd (h0 rfl) (by omega)
      | some ad => exact ⟨ad, rfl⟩
    obtain ⟨cs, f', y, hl, hc, ht⟩ := hel ad rfl i hi
    rw [hC] at hc
    obtain ⟨b, hb⟩ := leaf_bool ht 0 4 Try.underlying4 (by kernel_rfl)
    exact ⟨b, ad, rfl, by have := hc 0 _ hb; rw [Nat.mul_one, Nat.add_zero] at this; exact this⟩)
  exact ⟨a, len, cap, zs, rfl, Nat.le_trans h1 h2, hz, h0, hr⟩
/-- The document's pipe in block g. -/
def RIs (B g : Nat) (S : ByteArray) (most n : Int) (w : World) : Prop := B ≤ g ∧ w.heap[g]? = some (.cells #[.string S, .int .i64 most, .int .i64 n] 28 (0, 0))
theorem RIs.keep {B g : Nat} {S : ByteArray} {most n : Int} {w w1 : World} {X : Nat → Prop} (h : RIs B g S most n w) (hk : Kept w w1 X) (hb : ¬ X g) : RIs B g S most n w1 := ⟨h.1, blk_kept h.2 hk hb⟩
theorem RIs.lt {B g : Nat} {S : ByteArray} {most n : Int} {w : World} (h : RIs B g S most n w) : g < w.heap.size := blk_lt h.2
set_option maxHeartbeats 1000000 in
set_option maxRecDepth 100000 in
theorem rPut_v (B g : Nat) (S : ByteArray) (most n : Int) (s : ByteArray) (r : Int) (S2 : ByteArray) (w : World) (h : RIs B g S most n w) (h0 : (S.size : Int) ≤ most) (h1 : most ≤ 9223372036854775807) (h2 : S.size ≤ 100000000000) (h3 : s.size ≤ 100000000000)
    (hr : min (s.size : Int) (most - S.size) = r) (hS : S ++ s.extract 0 r.toNat = S2) :
    Calls Try.prog 12 #[.pointer (some ⟨g, 0, none⟩), .string s] w fun e w' => e = .returned (.int .i64 r) ∧ RIs B g S2 most n w' ∧ Below B w w' ∧ Kept w w' (fun k => k = g) := by
  have c0 : w.cell? ⟨g, 0, none⟩ = some (.string S) := by rw [World.cell?, h.2]; rfl
  have c1 : w.cell? ⟨g, 1, none⟩ = some (.int .i64 most) := by rw [World.cell?, h.2]; rfl
  have f0 : w.frozen? ⟨g, 0, none⟩ = false := blk_frozen h.2 _
  have e1 : IntKind.i64.wrap (most - (S.size : Int)) = most - S.size := by rw [IntKind.wrap_i64]; omega
  have b0 : 0 ≤ r := by omega
  have b1 : r ≤ (s.size : Int) := by omega
  have b2 : S.size + (s.extract 0 r.toNat).size ≤ 9223372036854775807 := by rw [ba_size_extract]; omega
  have HF := Lib.hid (show RIs B g S2 most n (w.setCell ⟨g, 0, none⟩ (.string S2)) from ⟨h.1, by have := blk_set h.2 0 (.string S2); simpa using this⟩)
  have HB := Lib.hid (fun q => (pw_below_drewN (Below.refl B w) q).setCell (p := ⟨g, 0, none⟩) h.1 (.string S2))
  have HK := Lib.hid (Kept.setCell (p := ⟨g, 0, none⟩) (Kept.refl w (fun k => k = g)) (.inl rfl) (.string S2))
  clear h
  go_enter Try.func12, Try.ntmps12
  go_wp2
  go_quiet (fail)
  clear e1
  go_wp2
  go_region
  go_wp2
  go_ret
  exact ⟨rfl, HF.out, HB.out _, HK.out⟩
set_option maxHeartbeats 1000000 in
set_option maxRecDepth 100000 in
theorem rTake_v (B g : Nat) (S : ByteArray) (room n most : Int) (k : Nat) (x S2 : ByteArray) (w : World) (h : RIs B g S room n w) (h2 : S.size ≤ 100000000000) (hp0 : 0 ≤ n) (hp1 : n ≤ 1000000000000000000)
    (hk : min (max most 0) (S.size : Int) = k) (hx : S.extract 0 k = x) (hS : S.extract k S.size = S2) :
    Calls Try.prog 10 #[.pointer (some ⟨g, 0, none⟩), .int .i64 most] w fun e w' => e = .returned (.string x) ∧ RIs B g S2 room (n + k) w' ∧ Below B w w' ∧ Kept w w' (fun k => k = g) := by
  have c0 : w.cell? ⟨g, 0, none⟩ = some (.string S) := by rw [World.cell?, h.2]; rfl
  have f0 : w.frozen? ⟨g, 0, none⟩ = false := blk_frozen h.2 _
  have h3 := blk_set h.2 0 (.string S2)
  have c2 : (w.setCell ⟨g, 0, none⟩ (.string S2)).cell? ⟨g, 2, none⟩ = some (.int .i64 n) := by rw [World.cell?, h3]; rfl
  have f2 : (w.setCell ⟨g, 0, none⟩ (.string S2)).frozen? ⟨g, 2, none⟩ = false := blk_frozen h3 _
  have e1 : IntKind.i64.wrap (n + k) = n + k := by rw [IntKind.wrap_i64]; omega
  have b0 : (0 : Int) ≤ (k : Int) := by omega
  have b1 : (k : Int) ≤ (S.size : Int) := by omega
  have HF := Lib.hid (show RIs B g S2 room (n + k) ((w.setCell ⟨g, 0, none⟩ (.string S2)).setCell ⟨g, 2, none⟩ (.int .i64 (n + k))) from ⟨h.1, by have := blk_set h3 2 (.int .i64 (n + k)); simpa using this⟩)
  have HB := Lib.hid (((Below.refl B w).setCell (p := ⟨g, 0, none⟩) h.1 (.string S2)).setCell (p := ⟨g, 2, none⟩) h.1 (.int .i64 (n + k)))
  have HK := Lib.hid (Kept.setCell (p := ⟨g, 2, none⟩) (Kept.setCell (p := ⟨g, 0, none⟩) (Kept.refl w (fun k => k = g)) (.inl rfl) (.string S2)) (.inl rfl) (.int .i64 (n + k)))
  clear h h3
  go_enter Try.func10, Try.ntmps10
  go_wp2
  go_ret
  exact ⟨rfl, HF.out, HB.out, HK.out⟩
theorem PIs.drewN {B g : Nat} {row : Option Nat} {S : ByteArray} {room passed : Int} {w : World} (h : PIs B g row S room passed w) (q : Nat) : PIs B g row S room passed (w.drewN q) := h
theorem RIs.drewN {B g : Nat} {S : ByteArray} {room passed : Int} {w : World} (h : RIs B g S room passed w) (q : Nat) : RIs B g S room passed (w.drewN q) := h
theorem RIs.new (B : Nat) (w : World) (hB : B ≤ w.heap.size) (S : ByteArray) (m n : Int) : RIs B w.heap.size S m n (w.alloc (.cells #[.string S, .int .i64 m, .int .i64 n] 28)) := ⟨hB, heap_alloc_new w _⟩
theorem acts_at {W : World} {a : Option Addr} {len : Nat} {zs : List (Int × ByteArray)} (h : IsActs W a len zs) (i : Nat) (hi : i < len) : ∃ ad n s, a = some ad ∧ -9223372036854775808 ≤ n ∧ n ≤ 9223372036854775807 ∧ s.size ≤ maxLen ∧
    (∀ w, Below W.heap.size W w → w.cell? (ad.add (i * 2)) = some (.int .i64 n)) ∧ (∀ w, Below W.heap.size W w → w.cell? ⟨(ad.add (i * 2)).block, (ad.add (i * 2)).off + 1, none⟩ = some (.string s)) := by
  obtain ⟨ad, ha, h1, h2, h3, h4⟩ := h.2.2 i hi
  rw [← Go.Deep.add_add] at h2
  exact ⟨ad, _, _, ha, (wf64 h3).1, (wf64 h3).2, h4, fun w hw => pw_cell_below hw h1, fun w hw => pw_cell_below hw h2⟩
theorem ris_cells {B g : Nat} {S : ByteArray} {most n : Int} {w : World} (h : RIs B g S most n w) : w.cell? ⟨g, 0, none⟩ = some (.string S) ∧ w.cell? ⟨g, 1, none⟩ = some (.int .i64 most) ∧ w.cell? ⟨g, 2, none⟩ = some (.int .i64 n) :=
  ⟨by rw [World.cell?, h.2]; rfl, by rw [World.cell?, h.2]; rfl, by rw [World.cell?, h.2]; rfl⟩
end Go.Proofs.Ytogmfibilopppaa.PI

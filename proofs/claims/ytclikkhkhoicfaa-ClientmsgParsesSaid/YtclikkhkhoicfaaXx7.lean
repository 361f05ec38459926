/- What each Go function that these laws use answers: as a Lean function, with the proof that the machine's call comes to it. Written by a program of this session (xprint.py). -/
import Derived.Test.YtclikkhkhoicfaaXx0
import Derived.Test.YtclikkhkhoicfaaXx3
import Derived.Test.YtclikkhkhoicfaaXx4
import Derived.Test.YtclikkhkhoicfaaXx6
namespace Go.Proofs.Ytclikkhkhoicfaa.X
open Go.RowKit Go.Proofs.YtclikkhkhoicfaaW.PrintWords Go.Proofs.YtclikkhkhoicfaaW.PrintLast Go.Proofs.YtclikkhkhoicfaaW.PrintMore
attribute [local go_sem] max2_int min2_int max_two min_two max_three min_three max_four min_four   -- for this text's walks alone
set_option linter.unusedVariables false
set_option linter.unusedSimpArgs false

/-! ### octets_Cursor_At: function 19 -/
def octets_Cursor_At.f (s0_0 : ByteArray) (s0_1 : Int) (s0_2 : Int) : Option (Int × ByteArray × Int × Int) := some (s0_1, s0_0, s0_1, s0_2)
set_option maxHeartbeats 8000000 in
set_option maxRecDepth 100000 in
theorem octets_Cursor_At.calls (g : Nat) (s0_0 : ByteArray) (s0_1 : Int) (s0_2 : Int) (r1 : Int) (r2 : ByteArray) (r3 : Int) (r4 : Int) (w0 w : World) (hI : IsS79 w0 w g s0_0 s0_1 s0_2) (hB : Below w0.heap.size w0 w) (h : octets_Cursor_At.f s0_0 s0_1 s0_2 = some (r1, r2, r3, r4)) :
    Calls Try.prog 19 #[.pointer (some ⟨g, 0, none⟩)] w fun e w' => e = .returned (.int .i64 r1) ∧ IsS79 w0 w' g r2 r3 r4 ∧ Below w0.heap.size w0 w' ∧ KeepBut w w' g none := by
  have HI0 := Aside0.mk hI
  have HK := Aside0.mk (KeepBut.refl w g none)
  have HL := Aside0.mk hB.size
  clear hI
  have HW0 := Aside0.mk hB.size
  have HB := Aside0.mk hB
  clear hB
  have H : (some (s0_1, s0_0, s0_1, s0_2)) = some (r1, r2, r3, r4) := h
  clear h
  simp only [Option.some.injEq, Prod.mk.injEq] at H
  obtain ⟨rfl, rfl, rfl, rfl⟩ := H
  obtain ⟨HGz2, hgz2⟩ := HI0.out
  have hcz2_0 := cellS79_0 HGz2
  have hcz2_1 := cellS79_1 HGz2
  have hcz2_2 := cellS79_2 HGz2
  have hfz2_0 := blk_frozen HGz2 0
  have hfz2_1 := blk_frozen HGz2 1
  have hfz2_2 := blk_frozen HGz2 2
  clear HGz2 hgz2
  go_enter Try.func19, Try.ntmps19
  go_wp2
  go_ret
  exact ⟨by first | rfl | (simp [errW_none, errW_some] <;> rfl) | (simp [*, errW_none, errW_some] <;> rfl), by repeat (first | (with_reducible first | exact HI0.out | apply IsS79.alloc | apply IsS79.drewN | apply IsS79.drew | apply IsS79.set_0 | apply IsS79.set_1 | apply IsS79.set_2) | exact HI0.out), by repeat (first | (with_reducible first | exact HB.out | apply below_alloc | apply pw_below_drewN | apply below_drew1 | refine below_set ?_ (IsS79.ge HI0.out)) | exact HB.out), by repeat (first | (with_reducible first | exact HK.out | apply KeepBut.set_ | apply keep_drewN | apply keep_drew | apply keep_alloc) | exact HK.out)⟩

/-! ### octets_Cursor_Signed: function 58 -/
def octets_Cursor_Signed.f (s0_0 : ByteArray) (s0_1 : Int) (s0_2 : Int) : Option (Int × ByteArray × Int × Int) := (octets_Cursor_Int.f s0_0 s0_1 s0_2 4).bind fun bt116 => (some (wrap64 (wrap32 (bt116.1)), bt116.2.1, bt116.2.2.1, bt116.2.2.2))
set_option maxHeartbeats 8000000 in
set_option maxRecDepth 100000 in
theorem octets_Cursor_Signed.calls (g : Nat) (s0_0 : ByteArray) (s0_1 : Int) (s0_2 : Int) (r1 : Int) (r2 : ByteArray) (r3 : Int) (r4 : Int) (w0 w : World) (hI : IsS79 w0 w g s0_0 s0_1 s0_2) (hB : Below w0.heap.size w0 w) (h : octets_Cursor_Signed.f s0_0 s0_1 s0_2 = some (r1, r2, r3, r4)) :
    Calls Try.prog 58 #[.pointer (some ⟨g, 0, none⟩)] w fun e w' => e = .returned (.int .i64 r1) ∧ IsS79 w0 w' g r2 r3 r4 ∧ Below w0.heap.size w0 w' ∧ KeepBut w w' g none := by
  have HI0 := Aside0.mk hI
  have HK := Aside0.mk (KeepBut.refl w g none)
  have HL := Aside0.mk hB.size
  clear hI
  have HW0 := Aside0.mk hB.size
  have HB := Aside0.mk hB
  clear hB
  have H : ((octets_Cursor_Int.f s0_0 s0_1 s0_2 4).bind fun bt116 => (some (wrap64 (wrap32 (bt116.1)), bt116.2.1, bt116.2.2.1, bt116.2.2.2))) = some (r1, r2, r3, r4) := h
  clear h
  replace H := Option.bind_eq_some_iff.mp H
  obtain ⟨⟨t116, t117, t118, t119⟩, A20, H⟩ := H
  replace H : (some (wrap64 (wrap32 (t116)), t117, t118, t119)) = some (r1, r2, r3, r4) := H
  have A2 := Aside0.mk A20
  clear A20
  simp only [Option.some.injEq, Prod.mk.injEq] at H
  obtain ⟨rfl, rfl, rfl, rfl⟩ := H
  go_enter Try.func58, Try.ntmps58
  go_wp2_with (first | ((with_reducible refine gate_callee (f := 16) rfl ?_); refine goesL_ (some 4) rfl rfl Try.func16 (by kernel_rfl) rfl #[.pointer (some ⟨g, 0, none⟩), .int .i64 4] rfl (by (try simp only [List.map_toArray, List.map_cons, List.map_nil]); first | done | rfl | (simp only [List.length_drop, List.length_take]; rfl)) ?_; (with_reducible refine (octets_Cursor_Int.calls g s0_0 s0_1 s0_2 4 t116 t117 t118 t119 w0 _ ?side1 ?side2 A2.out).mono ?_); (case side1 => repeat (first | (with_reducible first | exact HI0.out | apply IsS79.alloc | apply IsS79.drewN | apply IsS79.drew | apply IsS79.set_0 | apply IsS79.set_1 | apply IsS79.set_2) | exact HI0.out)); (case side2 => repeat (first | (with_reducible first | exact HB.out | apply below_alloc | apply pw_below_drewN | apply below_drew1 | refine below_set ?_ (IsS79.ge HI0.out)) | exact HB.out)); rintro e w3 ⟨rfl, hi, hb, hk⟩; refine ⟨_, rfl, ?_⟩; have n0_ := Aside0.mk (KeepBut.trans (by repeat (first | (with_reducible first | exact HK.out | apply KeepBut.set_ | apply keep_drewN | apply keep_drew | apply keep_alloc) | exact HK.out)) hk (.inl rfl)); have n1_ := Aside0.mk (hb); have n2_ := Aside0.mk (hi); clear HK; clear HB; clear HI0; have HK := n0_; have HB := n1_; have HI0 := n2_; clear n0_ n1_ n2_; (try clear hb); (try clear hb2); (try clear hk); (try clear hi)))
  go_ret
  exact ⟨by first | rfl | (simp [errW_none, errW_some] <;> rfl) | (simp [*, errW_none, errW_some] <;> rfl), by repeat (first | (with_reducible first | exact HI0.out | apply IsS79.alloc | apply IsS79.drewN | apply IsS79.drew | apply IsS79.set_0 | apply IsS79.set_1 | apply IsS79.set_2) | exact HI0.out), by repeat (first | (with_reducible first | exact HB.out | apply below_alloc | apply pw_below_drewN | apply below_drew1 | refine below_set ?_ (IsS79.ge HI0.out)) | exact HB.out), by repeat (first | (with_reducible first | exact HK.out | apply KeepBut.set_ | apply keep_drewN | apply keep_drew | apply keep_alloc) | exact HK.out)⟩

/-! ### clientmsg_reader_flag: function 59 -/
/-- What a cursor holds: text, place, error. -/
structure CS where
  s : ByteArray
  at_ : Int
  ce : Int
/-- A cursor in block g. -/
def Cu (w0 : World) (g : Nat) (q : CS) (W : World) : Prop := IsS79 w0 W g q.s q.at_ q.ce ∧ Below w0.heap.size w0 W
theorem Cu.lt {w0 : World} {g : Nat} {q : CS} {W : World} (h : Cu w0 g q W) : g < W.heap.size := blk_lt h.1.1
theorem Cu.ge {w0 : World} {g : Nat} {q : CS} {W : World} (h : Cu w0 g q W) : w0.heap.size ≤ g := h.1.2
theorem Cu.low {w0 : World} {g : Nat} {q : CS} {W : World} (h : Cu w0 g q W) : Below w0.heap.size w0 W := h.2
theorem Cu.below {w0 : World} {g : Nat} {q : CS} {W W1 : World} (h : Cu w0 g q W) (hb : Below W.heap.size W W1) : Cu w0 g q W1 := ⟨h.1.below hb, h.2.trans (hb.mono h.2.size)⟩
theorem Cu.drew {w0 : World} {g : Nat} {q : CS} {W : World} (h : Cu w0 g q W) : Cu w0 g q W.drew := ⟨h.1.drew, Below.drew h.2⟩
theorem Cu.row {w0 : World} {g : Nat} {q : CS} {W : World} (h : Cu w0 g q W) {k : Nat} (h1 : k ≠ g) (h2 : w0.heap.size ≤ k) (cs : Array Value) : Cu w0 g q (W.setRow k cs) :=
  ⟨⟨(setRow_other W k g cs (fun e => h1 e.symm)).trans h.1.1, h.1.2⟩, ⟨h.2.os, h.2.tape, h.2.output, by simpa [World.setRow] using h.2.size, fun i hi => (setRow_other W k i cs (by omega)).trans (h.2.block i hi)⟩⟩
theorem Cu.far {w0 : World} {g : Nat} {q : CS} {W : World} (h : Cu w0 g q W) {p : Addr} (h1 : p.block ≠ g) (h2 : w0.heap.size ≤ p.block) (u : Value) : Cu w0 g q (W.setCell p u) := by
  have hk := Kept.setCell (S := fun k => k = p.block) (p := p) (Kept.refl W _) (.inl rfl) u
  exact ⟨h.1.kept hk (fun e => h1 e.symm), h.2.setCell (p := p) h2 u⟩
/-- All but the cursor's block is as it was. -/
def KeptC (g : Nat) (W W' : World) : Prop := Kept W W' (fun k => k = g)
theorem KeptC.refl (g : Nat) (W : World) : KeptC g W W := Kept.refl W _
theorem KeptC.trans {g : Nat} {W W1 W2 : World} (h : KeptC g W W1) (k : KeptC g W1 W2) : KeptC g W W2 := ⟨Nat.le_trans h.1 k.1, fun i hi hn => (k.2 i (Nat.lt_of_lt_of_le hi h.1) hn).trans (h.2 i hi hn)⟩
theorem KeptC.but {g : Nat} {W W' : World} (h : KeepBut W W' g none) : KeptC g W W' := ⟨h.1, fun i hi hn => h.2 i hi hn (by simp)⟩
theorem KeptC.below {g : Nat} {W W' : World} (h : Below W.heap.size W W') : KeptC g W W' := ⟨h.size, fun i hi _ => h.block i hi⟩
theorem KeptC.blk {g : Nat} {W W' : World} (h : KeptC g W W') {k : Nat} {o : Obj} (hg : W.heap[k]? = some o) (h1 : k ≠ g) : W'.heap[k]? = some o := (h.2 k (blk_lt hg) h1).trans hg
theorem KeptC.set {g : Nat} {W W1 : World} (h : KeptC g W W1) {p : Addr} (h1 : W.heap.size ≤ p.block) (u : Value) : KeptC g W (W1.setCell p u) := Kept.setCell (S := fun k => k = g) (p := p) h (.inr h1) u
theorem KeptC.row {g : Nat} {W W1 : World} (h : KeptC g W W1) {k : Nat} (h1 : W.heap.size ≤ k) (cs : Array Value) : KeptC g W (W1.setRow k cs) :=
  ⟨by simpa [World.setRow] using h.1, fun i hi hn => (setRow_other W1 k i cs (by omega)).trans (h.2 i hi hn)⟩
def intC (q : CS) (n : Int) : Option (Int × CS) := (octets_Cursor_Int.f q.s q.at_ q.ce n).map fun p => (p.1, ⟨p.2.1, p.2.2.1, p.2.2.2⟩)
def bytesC (q : CS) (n : Int) : Option (ByteArray × CS) := (octets_Cursor_Bytes.f q.s q.at_ q.ce n).map fun p => (p.1, ⟨p.2.1, p.2.2.1, p.2.2.2⟩)
def signedC (q : CS) : Option (Int × CS) := (octets_Cursor_Signed.f q.s q.at_ q.ce).map fun p => (p.1, ⟨p.2.1, p.2.2.1, p.2.2.2⟩)
theorem int_k (w0 : World) (g : Nat) (q : CS) (n r : Int) (q' : CS) (W : World) (h : Cu w0 g q W) (hf : intC q n = some (r, q')) :
    Calls Try.prog 16 #[.pointer (some ⟨g, 0, none⟩), .int .i64 n] W fun e W' => e = .returned (.int .i64 r) ∧ Cu w0 g q' W' ∧ KeptC g W W' := by
  unfold intC at hf
  obtain ⟨⟨r1, r2, r3, r4⟩, e1, e2⟩ := Option.map_eq_some_iff.1 hf
  obtain ⟨rfl, rfl⟩ := Prod.mk.inj e2
  refine (octets_Cursor_Int.calls g q.s q.at_ q.ce n r1 r2 r3 r4 w0 W h.1 h.2 e1).mono ?_
  rintro e W' ⟨rfl, hi, hb, hk⟩
  exact ⟨rfl, ⟨hi, hb⟩, KeptC.but hk⟩
theorem bytes_k (w0 : World) (g : Nat) (q : CS) (n : Int) (r : ByteArray) (q' : CS) (W : World) (h : Cu w0 g q W) (hf : bytesC q n = some (r, q')) :
    Calls Try.prog 55 #[.pointer (some ⟨g, 0, none⟩), .int .i64 n] W fun e W' => e = .returned (.string r) ∧ Cu w0 g q' W' ∧ KeptC g W W' := by
  unfold bytesC at hf
  obtain ⟨⟨r1, r2, r3, r4⟩, e1, e2⟩ := Option.map_eq_some_iff.1 hf
  obtain ⟨rfl, rfl⟩ := Prod.mk.inj e2
  refine (octets_Cursor_Bytes.calls g q.s q.at_ q.ce n r1 r2 r3 r4 w0 W h.1 h.2 e1).mono ?_
  rintro e W' ⟨rfl, hi, hb, hk⟩
  exact ⟨rfl, ⟨hi, hb⟩, KeptC.but hk⟩
theorem signed_k (w0 : World) (g : Nat) (q : CS) (r : Int) (q' : CS) (W : World) (h : Cu w0 g q W) (hf : signedC q = some (r, q')) :
    Calls Try.prog 58 #[.pointer (some ⟨g, 0, none⟩)] W fun e W' => e = .returned (.int .i64 r) ∧ Cu w0 g q' W' ∧ KeptC g W W' := by
  unfold signedC at hf
  obtain ⟨⟨r1, r2, r3, r4⟩, e1, e2⟩ := Option.map_eq_some_iff.1 hf
  obtain ⟨rfl, rfl⟩ := Prod.mk.inj e2
  refine (octets_Cursor_Signed.calls g q.s q.at_ q.ce r1 r2 r3 r4 w0 W h.1 h.2 e1).mono ?_
  rintro e W' ⟨rfl, hi, hb, hk⟩
  exact ⟨rfl, ⟨hi, hb⟩, KeptC.but hk⟩
theorem err_k (w0 : World) (g : Nat) (q : CS) (W : World) (h : Cu w0 g q W) :
    Calls Try.prog 17 #[.pointer (some ⟨g, 0, none⟩)] W fun e W' => e = .returned (.int .i64 q.ce) ∧ W' = W := by
  have c : W.cell? ⟨g, 2, none⟩ = some (.int .i64 q.ce) := (blk_cell h.1.1 2).trans rfl
  clear h
  go_enter Try.func17, Try.ntmps17
  go_wp2
  go_ret
  exact ⟨rfl, rfl⟩
theorem at_k (w0 : World) (g : Nat) (q : CS) (W : World) (h : Cu w0 g q W) :
    Calls Try.prog 19 #[.pointer (some ⟨g, 0, none⟩)] W fun e W' => e = .returned (.int .i64 q.at_) ∧ W' = W := by
  have c : W.cell? ⟨g, 1, none⟩ = some (.int .i64 q.at_) := (blk_cell h.1.1 1).trans rfl
  clear h
  go_enter Try.func19, Try.ntmps19
  go_wp2
  go_ret
  exact ⟨rfl, rfl⟩
def flagC (q : CS) : Option (Bool × CS) := (intC q 1).map fun p => (p.1 != 0, p.2)
set_option maxHeartbeats 2000000 in
set_option maxRecDepth 100000 in
theorem flag_k (w0 : World) (g : Nat) (q : CS) (r : Bool) (q' : CS) (W : World) (h : Cu w0 g q W) (hf : flagC q = some (r, q')) :
    Calls Try.prog 59 #[.agg #[.pointer (some ⟨g, 0, none⟩)]] W fun e W' => e = .returned (.bool r) ∧ Cu w0 g q' W' ∧ KeptC g W W' := by
  unfold flagC at hf
  obtain ⟨⟨v, q1⟩, e1, e2⟩ := Option.map_eq_some_iff.1 hf
  obtain ⟨rfl, rfl⟩ := Prod.mk.inj e2
  have E1 := Lib.hid e1
  have hb := below_alloc (Below.refl W.heap.size W) (.cells #[.pointer (some ⟨g, 0, none⟩)] 48)
  have HC := Lib.hid (h.below hb)
  have HK := Lib.hid (KeptC.below (g := g) hb)
  obtain ⟨Wa, hWa⟩ : ∃ X, W.alloc (.cells #[.pointer (some ⟨g, 0, none⟩)] 48) = X := ⟨_, rfl⟩
  have y0 : Wa.cell? ⟨W.heap.size, 0, none⟩ = some (.pointer (some ⟨g, 0, none⟩)) := by rw [← hWa]; exact (blk_cell (heap_alloc_new W (.cells #[.pointer (some ⟨g, 0, none⟩)] 48)) 0).trans rfl
  rw [hWa] at HC HK
  clear hf e1 hb h
  go_enter Try.func59, Try.ntmps59
  go_upto_region 1 with (fail)
  try rw [hWa]
  clear hWa
  go_wp2_with fail
  refine (int_k w0 g q 1 v q1 Wa HC.out E1.out).mono ?_
  rintro en W1 ⟨rfl, h1, hk⟩
  have H1 := Lib.hid h1
  have HK1 := Lib.hid hk
  clear h1 hk
  go_wp2_with fail
  go_ret
  exact ⟨rfl, H1.out, HK.out.trans HK1.out⟩

-- NOT PRINTED: function 45 (format_parts)

/-! ### bits_Len32: function 69 -/
def bits_Len32.f (a0 : Int) : Option Int := if 0 ≤ a0 ∧ a0 ≤ 4294967295 then some (Lib.bitLen a0.toNat : Int) else none
theorem bits_Len32.calls (a0 : Int) (r : Int) (w : World) (h : bits_Len32.f a0 = some r) :
    Calls Try.prog 69 #[.int .u32 a0] w fun e w' => e = .returned (.int .i64 r) ∧ Drawn0 w w' := by
  unfold bits_Len32.f at h
  split at h
  case isFalse => exact absurd h (by simp)
  case isTrue hs =>
  obtain rfl := Option.some.inj h
  refine (Try.bits_Len32 a0 w hs.1 hs.2).mono ?_
  rintro e w' ⟨rfl, rfl⟩
  exact ⟨rfl, ⟨0, rfl⟩⟩

/-! ### bits_Len64: function 70 -/
def bits_Len64.f (a0 : Int) : Option Int := if 0 ≤ a0 ∧ a0 ≤ 18446744073709551615 then some (Lib.bitLen a0.toNat : Int) else none
theorem bits_Len64.calls (a0 : Int) (r : Int) (w : World) (h : bits_Len64.f a0 = some r) :
    Calls Try.prog 70 #[.int .u64 a0] w fun e w' => e = .returned (.int .i64 r) ∧ Drawn0 w w' := by
  unfold bits_Len64.f at h
  split at h
  case isFalse => exact absurd h (by simp)
  case isTrue hs =>
  obtain rfl := Option.some.inj h
  refine (Try.bits_Len64 a0 w hs.1 hs.2).mono ?_
  rintro e w' ⟨rfl, rfl⟩
  exact ⟨rfl, ⟨0, rfl⟩⟩

/-! ### bits_Len: function 64 -/
def bits_Len.f (a0 : Int) : Option Int := if 0 ≤ a0 ∧ a0 ≤ 18446744073709551615 then some (Lib.bitLen a0.toNat : Int) else none
theorem bits_Len.calls (a0 : Int) (r : Int) (w : World) (h : bits_Len.f a0 = some r) :
    Calls Try.prog 64 #[.int .u64 a0] w fun e w' => e = .returned (.int .i64 r) ∧ Drawn0 w w' := by
  unfold bits_Len.f at h
  split at h
  case isFalse => exact absurd h (by simp)
  case isTrue hs =>
  obtain rfl := Option.some.inj h
  refine (Try.bits_Len a0 w hs.1 hs.2).mono ?_
  rintro e w' ⟨rfl, rfl⟩
  exact ⟨rfl, ⟨0, rfl⟩⟩

end Go.Proofs.Ytclikkhkhoicfaa.X

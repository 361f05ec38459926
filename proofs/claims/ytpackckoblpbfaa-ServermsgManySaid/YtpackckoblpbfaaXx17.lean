/- What each Go function that these laws use answers: as a Lean function, with the proof that the machine's call comes to it. Written by a program of this session (xprint.py). -/
import Derived.Test.YtpackckoblpbfaaXx0
import Derived.Test.YtpackckoblpbfaaXx14
import Derived.Test.YtpackckoblpbfaaXx15
import Derived.Test.YtpackckoblpbfaaXx16
namespace Go.Proofs.Ytpackckoblpbfaa.X
open Go.RowKit Go.Proofs.YtpackckoblpbfaaW.PrintWords Go.Proofs.YtpackckoblpbfaaW.PrintLast Go.Proofs.YtpackckoblpbfaaW.PrintMore
attribute [local go_sem] max2_int min2_int max_two min_two max_three min_three max_four min_four   -- for this text's walks alone
set_option linter.unusedVariables false
set_option linter.unusedSimpArgs false

/-! ### servermsg_reader_fail: function 54 -/
/-- What a cursor holds: text, place, error; and the reader's own error. -/
structure RS where
 s : ByteArray
 at_ : Int
 ce : Int
 re : Int
/-- A reader in block rb over the cursor in block cb. -/
def Rd (w0 : World) (rb cb : Nat) (q : RS) (W : World) : Prop := W.heap[rb]? = some (.cells #[.pointer (some ⟨cb, 0, none⟩), .int .i64 q.re] 101 (0, 0)) ∧ w0.heap.size ≤ rb ∧ rb ≠ cb ∧ IsS142 w0 W cb q.s q.at_ q.ce ∧ Below w0.heap.size w0 W
theorem Rd.c0 {w0 : World} {rb cb : Nat} {q : RS} {W : World} (h : Rd w0 rb cb q W) : W.cell? ⟨rb, 0, none⟩ = some (.pointer (some ⟨cb, 0, none⟩)) := (blk_cell h.1 0).trans rfl
theorem Rd.c1 {w0 : World} {rb cb : Nat} {q : RS} {W : World} (h : Rd w0 rb cb q W) : W.cell? ⟨rb, 1, none⟩ = some (.int .i64 q.re) := (blk_cell h.1 1).trans rfl
theorem Rd.f1 {w0 : World} {rb cb : Nat} {q : RS} {W : World} (h : Rd w0 rb cb q W) : W.frozen? ⟨rb, 1, none⟩ = false := blk_frozen h.1 _
theorem Rd.clt {w0 : World} {rb cb : Nat} {q : RS} {W : World} (h : Rd w0 rb cb q W) : cb < W.heap.size := blk_lt h.2.2.2.1.1
theorem Rd.rlt {w0 : World} {rb cb : Nat} {q : RS} {W : World} (h : Rd w0 rb cb q W) : rb < W.heap.size := blk_lt h.1
theorem Rd.cge {w0 : World} {rb cb : Nat} {q : RS} {W : World} (h : Rd w0 rb cb q W) : w0.heap.size ≤ cb := h.2.2.2.1.2
theorem Rd.rge {w0 : World} {rb cb : Nat} {q : RS} {W : World} (h : Rd w0 rb cb q W) : w0.heap.size ≤ rb := h.2.1
theorem Rd.low {w0 : World} {rb cb : Nat} {q : RS} {W : World} (h : Rd w0 rb cb q W) : Below w0.heap.size w0 W := h.2.2.2.2
theorem Rd.below {w0 : World} {rb cb : Nat} {q : RS} {W W1 : World} (h : Rd w0 rb cb q W) (hb : Below W.heap.size W W1) : Rd w0 rb cb q W1 :=
 ⟨(hb.block rb h.rlt).trans h.1, h.2.1, h.2.2.1, h.2.2.2.1.below hb, h.low.trans (hb.mono h.low.size)⟩
/-- A writing outside of the two blocks, above the base. -/
theorem Rd.far {w0 : World} {rb cb : Nat} {q : RS} {W : World} (h : Rd w0 rb cb q W) {p : Addr} (h1 : p.block ≠ rb) (h2 : p.block ≠ cb) (h3 : w0.heap.size ≤ p.block) (u : Value) : Rd w0 rb cb q (W.setCell p u) := by
 have hk := Kept.setCell (S := fun k => k = p.block) (p := p) (Kept.refl W _) (.inl rfl) u
 exact ⟨(hk.2 rb h.rlt (fun e => h1 e.symm)).trans h.1, h.2.1, h.2.2.1, h.2.2.2.1.kept hk (fun e => h2 e.symm), h.low.setCell (p := p) h3 u⟩
theorem Rd.drew {w0 : World} {rb cb : Nat} {q : RS} {W : World} (h : Rd w0 rb cb q W) : Rd w0 rb cb q W.drew := ⟨h.1, h.2.1, h.2.2.1, h.2.2.2.1.drew, Below.drew h.low⟩
/-- A step that keeps all but the reader's two blocks. -/
def KeptR (rb cb : Nat) (W W' : World) : Prop := Kept W W' (fun k => k = rb ∨ k = cb)
theorem KeptR.trans {rb cb : Nat} {W W1 W2 : World} (h : KeptR rb cb W W1) (k : KeptR rb cb W1 W2) : KeptR rb cb W W2 :=
 ⟨Nat.le_trans h.1 k.1, fun i hi hn => (k.2 i (Nat.lt_of_lt_of_le hi h.1) hn).trans (h.2 i hi hn)⟩
theorem KeptR.but {rb cb : Nat} {W W' : World} (h : KeepBut W W' cb none) : KeptR rb cb W W' := ⟨h.1, fun i hi hn => h.2 i hi (fun e => hn (.inr e)) (by simp)⟩
theorem KeptR.below {rb cb : Nat} {W W' : World} (h : Below W.heap.size W W') : KeptR rb cb W W' := ⟨h.size, fun i hi _ => h.block i hi⟩
theorem KeptR.blk {rb cb : Nat} {W W' : World} (h : KeptR rb cb W W') {g : Nat} {o : Obj} (hg : W.heap[g]? = some o) (h1 : g ≠ rb) (h2 : g ≠ cb) : W'.heap[g]? = some o := (h.2 g (blk_lt hg) (fun e => e.elim h1 h2)).trans hg
theorem Rd.cur {w0 : World} {rb cb : Nat} {q : RS} {W W1 : World} {s : ByteArray} {a c : Int} (h : Rd w0 rb cb q W) (hi : IsS142 w0 W1 cb s a c) (hb : Below w0.heap.size w0 W1) (hk : KeepBut W W1 cb none) : Rd w0 rb cb ⟨s, a, c, q.re⟩ W1 :=
 ⟨hk.blk h.1 h.2.2.1 (by simp), h.2.1, h.2.2.1, hi, hb⟩
def intS (q : RS) (n : Int) : Option (Int × RS) := (octets_Cursor_Int.f q.s q.at_ q.ce n).map fun p => (p.1, ⟨p.2.1, p.2.2.1, p.2.2.2, q.re⟩)
def bytesS (q : RS) (n : Int) : Option (ByteArray × RS) := (octets_Cursor_Bytes.f q.s q.at_ q.ce n).map fun p => (p.1, ⟨p.2.1, p.2.2.1, p.2.2.2, q.re⟩)
def signedS (q : RS) : Option (Int × RS) := (octets_Cursor_Signed.f q.s q.at_ q.ce).map fun p => (p.1, ⟨p.2.1, p.2.2.1, p.2.2.2, q.re⟩)
theorem int_r (w0 : World) (rb cb : Nat) (q : RS) (n r : Int) (q' : RS) (W : World) (h : Rd w0 rb cb q W) (hf : intS q n = some (r, q')) :
  Calls Try.prog 51 #[.pointer (some ⟨cb, 0, none⟩), .int .i64 n] W fun e W' => e = .returned (.int .i64 r) ∧ Rd w0 rb cb q' W' ∧ KeptR rb cb W W' := by
 unfold intS at hf
 obtain ⟨⟨r1, r2, r3, r4⟩, e1, e2⟩ := Option.map_eq_some_iff.1 hf
 obtain ⟨rfl, rfl⟩ := Prod.mk.inj e2
 refine (octets_Cursor_Int.calls cb q.s q.at_ q.ce n r1 r2 r3 r4 w0 W h.2.2.2.1 h.low e1).mono ?_
 rintro e W' ⟨rfl, hi, hb, hk⟩
 exact ⟨rfl, h.cur hi hb hk, KeptR.but hk⟩
theorem bytes_r (w0 : World) (rb cb : Nat) (q : RS) (n : Int) (r : ByteArray) (q' : RS) (W : World) (h : Rd w0 rb cb q W) (hf : bytesS q n = some (r, q')) :
  Calls Try.prog 52 #[.pointer (some ⟨cb, 0, none⟩), .int .i64 n] W fun e W' => e = .returned (.string r) ∧ Rd w0 rb cb q' W' ∧ KeptR rb cb W W' := by
 unfold bytesS at hf
 obtain ⟨⟨r1, r2, r3, r4⟩, e1, e2⟩ := Option.map_eq_some_iff.1 hf
 obtain ⟨rfl, rfl⟩ := Prod.mk.inj e2
 refine (octets_Cursor_Bytes.calls cb q.s q.at_ q.ce n r1 r2 r3 r4 w0 W h.2.2.2.1 h.low e1).mono ?_
 rintro e W' ⟨rfl, hi, hb, hk⟩
 exact ⟨rfl, h.cur hi hb hk, KeptR.but hk⟩
theorem signed_r (w0 : World) (rb cb : Nat) (q : RS) (r : Int) (q' : RS) (W : World) (h : Rd w0 rb cb q W) (hf : signedS q = some (r, q')) :
  Calls Try.prog 69 #[.pointer (some ⟨cb, 0, none⟩)] W fun e W' => e = .returned (.int .i64 r) ∧ Rd w0 rb cb q' W' ∧ KeptR rb cb W W' := by
 unfold signedS at hf
 obtain ⟨⟨r1, r2, r3, r4⟩, e1, e2⟩ := Option.map_eq_some_iff.1 hf
 obtain ⟨rfl, rfl⟩ := Prod.mk.inj e2
 refine (octets_Cursor_Signed.calls cb q.s q.at_ q.ce r1 r2 r3 r4 w0 W h.2.2.2.1 h.low e1).mono ?_
 rintro e W' ⟨rfl, hi, hb, hk⟩
 exact ⟨rfl, h.cur hi hb hk, KeptR.but hk⟩
theorem err_r (w0 : World) (rb cb : Nat) (q : RS) (W : World) (h : Rd w0 rb cb q W) :
  Calls Try.prog 57 #[.pointer (some ⟨cb, 0, none⟩)] W fun e W' => e = .returned (.int .i64 q.ce) ∧ Rd w0 rb cb q W' ∧ KeptR rb cb W W' := by
 refine (octets_Cursor_Err.calls cb q.s q.at_ q.ce _ _ _ _ w0 W h.2.2.2.1 h.low rfl).mono ?_
 rintro e W' ⟨rfl, hi, hb, hk⟩
 exact ⟨rfl, h.cur hi hb hk, KeptR.but hk⟩
theorem at_r (w0 : World) (rb cb : Nat) (q : RS) (W : World) (h : Rd w0 rb cb q W) :
  Calls Try.prog 82 #[.pointer (some ⟨cb, 0, none⟩)] W fun e W' => e = .returned (.int .i64 q.at_) ∧ Rd w0 rb cb q W' ∧ KeptR rb cb W W' := by
 refine (octets_Cursor_At.calls cb q.s q.at_ q.ce _ _ _ _ w0 W h.2.2.2.1 h.low rfl).mono ?_
 rintro e W' ⟨rfl, hi, hb, hk⟩
 exact ⟨rfl, h.cur hi hb hk, KeptR.but hk⟩
theorem err_q (w0 : World) (rb cb : Nat) (q : RS) (W : World) (h : Rd w0 rb cb q W) :
  Calls Try.prog 57 #[.pointer (some ⟨cb, 0, none⟩)] W fun e W' => e = .returned (.int .i64 q.ce) ∧ W' = W := by
 have c : W.cell? ⟨cb, 2, none⟩ = some (.int .i64 q.ce) := (blk_cell h.2.2.2.1.1 2).trans rfl
 clear h
 go_enter Try.func57, Try.ntmps57
 go_wp2
 go_ret
 exact ⟨rfl, rfl⟩
theorem at_q (w0 : World) (rb cb : Nat) (q : RS) (W : World) (h : Rd w0 rb cb q W) :
  Calls Try.prog 82 #[.pointer (some ⟨cb, 0, none⟩)] W fun e W' => e = .returned (.int .i64 q.at_) ∧ W' = W := by
 have c : W.cell? ⟨cb, 1, none⟩ = some (.int .i64 q.at_) := (blk_cell h.2.2.2.1.1 1).trans rfl
 clear h
 go_enter Try.func82, Try.ntmps82
 go_wp2
 go_ret
 exact ⟨rfl, rfl⟩
def failS (q : RS) (is : Bool) (e : Int) : RS := if is = true ∧ q.ce = 0 ∧ q.re = 0 then ⟨q.s, q.at_, q.ce, e⟩ else q
set_option maxHeartbeats 2000000 in
set_option maxRecDepth 100000 in
theorem fail_r (w0 : World) (rb cb : Nat) (q : RS) (is : Bool) (e : Int) (W : World) (h : Rd w0 rb cb q W) :
  Calls Try.prog 54 #[.pointer (some ⟨rb, 0, none⟩), .bool is, .int .i64 e] W fun en W' => en = .returned (.tuple #[]) ∧ Rd w0 rb cb (failS q is e) W' ∧ KeptR rb cb W W' := by
 have y0 := h.c0
 have y1 := h.c1
 have fz := h.f1
 have HR := Lib.hid h
 cases is with
 | false =>
  have HF := Lib.hid (show failS q false e = q from if_neg (by simp))
  rw [HF.out]
  clear h
  go_enter Try.func54, Try.ntmps54
  go_wp2_with fail
  go_end0
  exact ⟨rfl, HR.out, KeptR.below (Below.refl _ _)⟩
 | true =>
  by_cases hc : q.ce = 0
  ·have hcb : (q.ce == 0) = true := by simpa using hc
   by_cases hr : q.re = 0
   ·have HF := Lib.hid (show failS q true e = ⟨q.s, q.at_, q.ce, e⟩ from if_pos ⟨rfl, hc, hr⟩)
    have hrb : (q.re == 0) = true := by simpa using hr
    rw [HF.out]
    clear h hc hr
    go_enter Try.func54, Try.ntmps54
    go_wp2_with fail
    refine (err_r w0 rb cb q W HR.out).mono ?_
    rintro en W1 ⟨rfl, h1, hk⟩
    have y2 := h1.c1
    have fz2 := h1.f1
    have HR1 := Lib.hid h1
    have HK := Lib.hid hk
    clear y0 y1 fz h1 hk
    go_wp2_with fail
    go_end0
    refine ⟨rfl, ?_, ?_⟩
    ·obtain ⟨k1, k2, k3, k4, k5⟩ := HR1.out
     refine ⟨?_, k2, k3, k4.kept (Kept.setCell (S := fun k => k = rb) (p := ⟨rb, 1, none⟩) (Kept.refl W1 _) (.inl rfl) _) (fun e => k3 e.symm), k5.setCell (p := ⟨rb, 1, none⟩) k2 _⟩
     rw [blk_set k1]; rfl
    ·exact HK.out.trans (Kept.setCell (S := fun k => k = rb ∨ k = cb) (p := ⟨rb, 1, none⟩) (Kept.refl W1 _) (.inl (.inl rfl)) _)
   ·have HF := Lib.hid (show failS q true e = q from if_neg (fun h => hr h.2.2))
    have hrb : (q.re == 0) = false := by simpa using hr
    rw [HF.out]
    clear h hc hr
    go_enter Try.func54, Try.ntmps54
    go_wp2_with fail
    refine (err_r w0 rb cb q W HR.out).mono ?_
    rintro en W1 ⟨rfl, h1, hk⟩
    have y2 := h1.c1
    have HR1 := Lib.hid h1
    have HK := Lib.hid hk
    clear y0 y1 fz h1 hk
    go_wp2_with fail
    go_end0
    exact ⟨rfl, HR1.out, HK.out⟩
  ·have HF := Lib.hid (show failS q true e = q from if_neg (fun h => hc h.2.1))
   have hcb : (q.ce == 0) = false := by simpa using hc
   rw [HF.out]
   clear h hc
   go_enter Try.func54, Try.ntmps54
   go_wp2_with fail
   refine (err_r w0 rb cb q W HR.out).mono ?_
   rintro en W1 ⟨rfl, h1, hk⟩
   have y2 := h1.c1
   have HR1 := Lib.hid h1
   have HK := Lib.hid hk
   clear y0 y1 fz h1 hk
   go_wp2_with fail
   go_end0
   exact ⟨rfl, HR1.out, HK.out⟩
theorem Rd.row {w0 : World} {rb cb : Nat} {q : RS} {W : World} (h : Rd w0 rb cb q W) {g : Nat} (h1 : g ≠ rb) (h2 : g ≠ cb) (h3 : w0.heap.size ≤ g) (cs : Array Value) : Rd w0 rb cb q (W.setRow g cs) :=
 ⟨(setRow_other W g rb cs (fun e => h1 e.symm)).trans h.1, h.2.1, h.2.2.1, ⟨(setRow_other W g cb cs (fun e => h2 e.symm)).trans h.2.2.2.1.1, h.2.2.2.1.2⟩, ⟨h.low.os, h.low.tape, h.low.output, by simpa [World.setRow] using h.low.size, fun k hk => (setRow_other W g k cs (by omega)).trans (h.low.block k hk)⟩⟩
theorem below_row {B : Nat} {W W1 : World} (h : Below B W W1) {g : Nat} (h3 : B ≤ g) (cs : Array Value) : Below B W (W1.setRow g cs) :=
 ⟨h.os, h.tape, h.output, by simpa [World.setRow] using h.size, fun k hk => (setRow_other W1 g k cs (by omega)).trans (h.block k hk)⟩
theorem KeptR.row {rb cb : Nat} {W W1 : World} (h : KeptR rb cb W W1) {g : Nat} (h1 : W.heap.size ≤ g) (cs : Array Value) : KeptR rb cb W (W1.setRow g cs) :=
 ⟨by simpa [World.setRow] using h.1, fun i hi hn => (setRow_other W1 g i cs (by omega)).trans (h.2 i hi hn)⟩
def rowAt (W : World) (g : Nat) (t : TypeId) (n : Nat) : Bool := match W.heap[g]? with
 | some (.cells cs t' (0, 0)) => t' == t && cs.size == n
 | _ => false
theorem rowAt_of {W : World} {g : Nat} {t : TypeId} {n : Nat} {cs : Array Value} (h : W.heap[g]? = some (.cells cs t (0, 0))) (hn : cs.size = n) : rowAt W g t n = true := by simp [rowAt, h, hn]
theorem of_rowAt {W : World} {g : Nat} {t : TypeId} {n : Nat} (h : rowAt W g t n = true) : ∃ cs, W.heap[g]? = some (.cells cs t (0, 0)) ∧ cs.size = n := by
 unfold rowAt at h
 split at h
 ·rename_i cs t' he
  simp only [Bool.and_eq_true, beq_iff_eq] at h
  exact ⟨cs, by rw [he, h.1], h.2⟩
 ·cases h
def cellsAt (W : World) (g : Nat) : Array Value := match W.heap[g]? with
 | some (.cells cs _ _) => cs
 | _ => #[]
theorem cellsAt_of {W : World} {g : Nat} {t : TypeId} {fr : Nat × Nat} {cs : Array Value} (h : W.heap[g]? = some (.cells cs t fr)) : cellsAt W g = cs := by simp [cellsAt, h]
theorem store_any {P : Program} {ty : TypeId} {n : Nat} (hi : (P.info? ty).map (·.size) = some n) (W : World) (g : Nat) (cs : Array Value) (hcs : cs.size = n) (h1 : cs.all (·.oneCell') = true) (h : rowAt W g ty n = true) : (storeVar ty ⟨g, 0, none⟩ (.agg cs)).run P W = .ok () (W.setRow g cs) := by
 obtain ⟨old, h2, h3⟩ := of_rowAt h
 exact run_storeVar_row W g _ ty old cs h2 (by rw [hi, hcs]) (by rw [h3, hcs]) h1
theorem load_any {P : Program} {ty : TypeId} {n : Nat} {d : TypeDesc} (hu : P.underlying ty = some d) (hd : (match d with | .struct _ | .array _ _ => true | _ => false) = true) (hi : (P.info? ty).map (·.size) = some n) (W : World) (g : Nat) (h : rowAt W g ty n = true) : (loadVar ty ⟨g, 0, none⟩).run P W = .ok (.agg (cellsAt W g)) W := by
 obtain ⟨old, h2, h3⟩ := of_rowAt h
 rw [cellsAt_of h2]
 exact run_loadVar_row W g _ ty old (0, 0) d h2 hu hd (by rw [hi, h3])
/-- The store of a row, the load of a row, as wholes. -/
def stOut (P : Program) (t : TypeId) (W : World) (p v : Value) : Result Next := (do Instr.storeAt t p v; pure Next.skip : Sem Next).run P W
def ldOut (P : Program) (t : TypeId) (W : World) (p : Value) : Result Next := (do pure (Next.value (← Instr.loadAt t p)) : Sem Next).run P W
theorem stOut_any {P : Program} {ty : TypeId} {n : Nat} (hi : (P.info? ty).map (·.size) = some n) (W : World) (g : Nat) (cs : Array Value) (hcs : cs.size = n) (h1 : cs.all (·.oneCell') = true) (h : rowAt W g ty n = true) : stOut P ty W (.pointer (some ⟨g, 0, none⟩)) (.agg cs) = .ok .skip (W.setRow g cs) := by
 unfold stOut
 simp only [Instr.storeAt, Instr.sureAddr, Sem.run_bind, Sem.run_pure, Result.andThen_ok, store_any hi W g cs hcs h1 h]
theorem ldOut_any {P : Program} {ty : TypeId} {n : Nat} {d : TypeDesc} (hu : P.underlying ty = some d) (hd : (match d with | .struct _ | .array _ _ => true | _ => false) = true) (hi : (P.info? ty).map (·.size) = some n) (W : World) (g : Nat) (h : rowAt W g ty n = true) : ldOut P ty W (.pointer (some ⟨g, 0, none⟩)) = .ok (.value (.agg (cellsAt W g))) W := by
 unfold ldOut
 simp only [Instr.loadAt, Instr.sureAddr, Sem.run_bind, Sem.run_pure, Result.andThen_ok, load_any hu hd hi W g h]
theorem storeVar_at {P : Program} {ty t : TypeId} {W : World} {g o : Nat} {cs old : Array Value} (hi : (P.info? ty).map (·.size) = some cs.size) (hg : W.heap[g]? = some (.cells old t (0, 0))) (ho : o + cs.size ≤ old.size) (h1 : cs.all (·.oneCell') = true) :
  (storeVar ty ⟨g, o, none⟩ (.agg cs)).run P W = .ok () (W.setRow g (old.toList.take o ++ cs.toList ++ old.toList.drop (o + cs.size)).toArray) := by
 have h := run_storeCells_at (P := P) g o t cs.toList 0 old W hg (by simp; omega) (fun v hv => (Array.all_eq_true_iff_forall_mem.1 h1) v (by simpa using hv))
 cases hq : P.info? ty with
 | none => simp [hq] at hi
 | some i =>
  have hs : cs.size = i.size := by simp [hq] at hi; omega
  simp only [Nat.add_zero, Array.length_toList] at h
  rw [← h]
  simp [storeVar, sizeOf, typeInfo, hq, Value.cells, hs]

end Go.Proofs.Ytpackckoblpbfaa.X

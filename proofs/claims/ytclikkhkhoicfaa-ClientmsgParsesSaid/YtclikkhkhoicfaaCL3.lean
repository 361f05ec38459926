import Derived.Test.YtclikkhkhoicfaaCL2
import Derived.Test.YtclikkhkhoicfaaFM9B
/-! What is written is read again: a cursor that stands ahead of bytes. -/
namespace Go.Proofs.Ytclikkhkhoicfaa.H
set_option linter.unusedVariables false
set_option linter.unusedSimpArgs false
open Go.RowKit Go.Proofs.Ytclikkhkhoicfaa.X Go.Proofs.Ytclikkhkhoicfaa.B Go.Proofs.Ytclikkhkhoicfaa.O Go.Proofs.Ytclikkhkhoicfaa.F Go.Proofs.YtclikkhkhoicfaaW.PrintWords Go.Proofs.YtclikkhkhoicfaaW.PrintLast Go.Proofs.YtclikkhkhoicfaaW.PrintMore
/-- A cursor behind the bytes 'pre', ahead of 'rest'. -/
structure At (pre rest : List Int) (q : CS) : Prop where
  z : q.s.size ≤ 4611686018427387904
  b : bytesOf q.s = pre ++ rest
  a : q.at_ = (pre.length : Int)
  c : q.ce = 0
theorem At.ok {pre rest : List Int} {q : CS} (h : At pre rest q) : Ok q := by
  obtain ⟨z, b, a, c⟩ := h
  have hl := bytesOf_length q.s
  rw [b, List.length_append] at hl
  exact ⟨z, by omega, by omega, .inl c⟩
/-- The bytes bs are read as v. -/
def Reads {α : Type} (f : CS → Option (α × CS)) (v : α) (bs : List Int) : Prop := ∀ pre rest q, At pre (bs ++ rest) q → ∃ p, f q = some (v, p) ∧ At (pre ++ bs) rest p ∧ p.s = q.s
section
variable {α β : Type}
theorem Reads.pure (v : α) : Reads (fun q => some (v, q)) v [] := fun pre rest q h => ⟨q, rfl, by rw [List.append_nil]; exact h, rfl⟩
theorem Reads.bind {f : CS → Option (α × CS)} (g : α → CS → Option (β × CS)) {v : α} {u : β} {bs cs : List Int} (hf : Reads f v bs) (hg : Reads (g v) u cs) : Reads (fun q => (f q).bind fun p => g p.1 p.2) u (bs ++ cs) := fun pre rest q h => by
  obtain ⟨p, e1, h1, s1⟩ := hf pre (cs ++ rest) q (by rw [← List.append_assoc]; exact h)
  obtain ⟨r, e2, h2, s2⟩ := hg (pre ++ bs) rest p h1
  exact ⟨r, by show (f q).bind _ = _; rw [e1]; exact e2, by rw [← List.append_assoc]; exact h2, s2.trans s1⟩
theorem Reads.out {f : CS → Option (α × CS)} (m : α → β) {v : α} {bs : List Int} (hf : Reads f v bs) : Reads (fun q => (f q).bind fun p => some (m p.1, p.2)) (m v) bs := fun pre rest q h => by
  obtain ⟨p, e1, h1, s1⟩ := hf pre rest q h
  exact ⟨p, by show (f q).bind _ = _; rw [e1]; rfl, h1, s1⟩
theorem Reads.map {f : CS → Option (α × CS)} (m : α → β) {v : α} {bs : List Int} (hf : Reads f v bs) : Reads (fun q => (f q).map fun p => (m p.1, p.2)) (m v) bs := fun pre rest q h => by
  obtain ⟨p, e1, h1, s1⟩ := hf pre rest q h
  exact ⟨p, by show (f q).map _ = _; rw [e1]; rfl, h1, s1⟩
theorem Reads.to {f : CS → Option (α × CS)} {v : α} {bs cs : List Int} (h : Reads f v bs) (e : bs = cs) : Reads f v cs := e ▸ h
theorem Reads.as {f g : CS → Option (α × CS)} {v : α} {bs : List Int} (h : Reads f v bs) (e : g = f) : Reads g v bs := e ▸ h
end
theorem rd_at {pre bs rest : List Int} {q : CS} {n : Int} (hn : (bs.length : Int) = n) (h : At pre (bs ++ rest) q) : rdB q.s q.at_ q.ce n = (strOfNums bs, ((pre ++ bs).length : Int), 0) := by
  subst hn
  obtain ⟨z, b, a, c⟩ := h
  have hl := bytesOf_length q.s
  rw [b, List.length_append, List.length_append] at hl
  rw [c, rdB_i (by omega) (by omega), a, Int.toNat_natCast, show ((pre.length : Int) + (bs.length : Int)).toNat = pre.length + bs.length by omega]
  have hr := bytes_range q.s
  rw [b] at hr
  have hb : ∀ x ∈ bs, 0 ≤ x ∧ x < 256 := fun x hx => hr x (by simp [hx])
  have e : q.s.extract pre.length (pre.length + bs.length) = strOfNums bs := by
    apply ba_bytesOf.1
    rw [bytes_extract, b, bytes_str hb, List.take_append, List.take_of_length_le (by omega), List.drop_append, List.drop_of_length_le (Nat.le_refl _)]
    simp
  rw [e, List.length_append]
  push_cast; rfl
theorem at_after {pre bs rest : List Int} {q : CS} {n : Int} (hn : (bs.length : Int) = n) (h : At pre (bs ++ rest) q) : At (pre ++ bs) rest (afterR q (rdB q.s q.at_ q.ce n)) := by
  rw [rd_at hn h]
  obtain ⟨z, b, a, c⟩ := h
  exact ⟨z, by show bytesOf q.s = _; rw [b, List.append_assoc], rfl, rfl⟩
theorem At.range {pre bs rest : List Int} {q : CS} (h : At pre (bs ++ rest) q) : ∀ x ∈ bs, 0 ≤ x ∧ x < 256 := fun x hx => bytes_range q.s x (by rw [h.b]; simp [hx])
theorem read_int {n v : Int} (hf : fits n v) : Reads (fun q => intC q n) v (beL n v) := fun pre rest q h => by
  have hn : n = 1 ∨ n = 2 ∨ n = 4 := by rcases hf with ⟨h, _⟩ | ⟨h, _⟩ | ⟨h, _⟩ <;> simp [h]
  have hl := beL_length hf
  refine ⟨_, ?_, at_after hl h, rfl⟩
  show intC q n = _
  rw [intC_eq q n hn h.ok, rd_at hl h, bytes_str (h.range), beN_beL hf]
theorem read_bytes {bs : List Int} {n : Int} (hn : (bs.length : Int) = n) : Reads (fun q => bytesC q n) (strOfNums bs) bs := fun pre rest q h => by
  refine ⟨_, ?_, at_after hn h, rfl⟩
  show bytesC q n = _
  rw [bytesC_eq q _ h.ok, rd_at hn h]
theorem read_signed {v : Int} (h : R32 v) : Reads (fun q => signedC q) v (beL 4 (v % 4294967296)) := fun pre rest q h1 => by
  obtain ⟨h0, h2⟩ := h
  have hf : fits 4 (v % 4294967296) := .inr (.inr ⟨rfl, by omega⟩)
  have hl : (((beL 4 (v % 4294967296)).length : Nat) : Int) = 4 := beL_length hf
  refine ⟨_, ?_, at_after hl h1, rfl⟩
  show signedC q = _
  rw [signedC_eq q h1.ok, rd_at hl h1, bytes_str (h1.range), beN_beL hf]
  congr 2
  unfold wrap64 wrap32
  omega
/-! The readers. -/
theorem fits1_ {n : Int} (h : 0 ≤ n ∧ n < 256) : fits 1 n := .inl ⟨rfl, h⟩
def bitN (b : Bool) : Int := if b = true then 1 else 0
theorem bitN_fits (b : Bool) : fits 1 (bitN b) := by cases b <;> exact fits1_ (by decide)
theorem read_flag (b : Bool) : Reads flagC b (beL 1 (bitN b)) := ((read_int (bitN_fits b)).map (fun v => v != 0)).as rfl |> fun h => by cases b <;> exact h
theorem read_place {x y : Int} (hx : fits 2 x) (hy : fits 2 y) : Reads placeC (x, y) (beL 2 x ++ beL 2 y) := (Reads.bind plA (read_int hx) ((read_int hy).out (fun b => (x, b)))).as rfl
theorem read_rect {x y w h : Int} (hx : fits 2 x) (hy : fits 2 y) (hw : fits 2 w) (hh : fits 2 h) : Reads rectC (x, y, w, h) ((beL 2 x ++ beL 2 y) ++ (beL 2 w ++ beL 2 h)) :=
  (Reads.bind rcA (read_place hx hy) ((Reads.bind (rcB (x, y)) (read_int hw) ((read_int hh).out (fun b => (x, y, w, b)))).as rfl)).as rfl
theorem read_request (f : Bool) {x y w h : Int} (hx : fits 2 x) (hy : fits 2 y) (hw : fits 2 w) (hh : fits 2 h) : Reads requestC (f, x, y, w, h) (beL 1 (bitN f) ++ ((beL 2 x ++ beL 2 y) ++ (beL 2 w ++ beL 2 h))) :=
  (Reads.bind rqA (read_flag f) (((read_rect hx hy hw hh).out (fun b : Int × Int × Int × Int => (f, b.1, b.2.1, b.2.2.1, b.2.2.2))).as rfl)).as rfl
theorem read_key (f : Bool) {n : Int} (hn : fits 4 n) : Reads keyC (f, n) (beL 1 (bitN f) ++ ([0, 0] ++ beL 4 n)) :=
  (Reads.bind kyA (read_flag f) ((Reads.bind (kyB f) (read_bytes (bs := [0, 0]) rfl) ((read_int hn).out (fun n => (f, n)))).as rfl)).as rfl
theorem read_pointer {n x y : Int} (hn : fits 1 n) (hx : fits 2 x) (hy : fits 2 y) : Reads pointerC (n, x, y) (beL 1 n ++ (beL 2 x ++ beL 2 y)) :=
  (Reads.bind poA (read_int hn) (((read_place hx hy).out (fun b : Int × Int => (n, b.1, b.2))).as rfl)).as rfl
theorem read_cut (t : ByteArray) (ht : t.size ≤ 4096) : Reads cutC (t, 0) ([0, 0, 0] ++ (beL 4 (t.size : Int) ++ bytesOf t)) := by
  refine (Reads.bind cuA (read_bytes (bs := [0, 0, 0]) rfl) ((Reads.bind cuB (read_int (v := (t.size : Int)) (.inr (.inr ⟨rfl, by omega⟩))) ?_).as rfl)).as rfl
  have e : cuB (t.size : Int) = cuN (t.size : Int) := by funext q; exact if_neg (by omega)
  rw [e]
  have k := (read_bytes (bs := bytesOf t) (n := (t.size : Int)) (by rw [bytesOf_length])).map (fun t => (t, (0 : Int)))
  rw [str_bytes] at k
  exact k.as rfl
theorem read_encsL : ∀ l : List Int, (∀ x ∈ l, R32 x) → Reads (encsL l.length) l (l.flatMap fun x => beL 4 (x % 4294967296))
  | [], _ => Reads.pure []
  | x :: l, h => by
    show Reads (encsL (l.length + 1)) _ _
    rw [List.flatMap_cons]
    exact (Reads.bind (fun x q => enT x l.length q) (read_signed (h x (List.mem_cons_self ..))) ((read_encsL l (fun y hy => h y (List.mem_cons_of_mem _ hy))).map (fun r => x :: r))).as rfl
theorem read_encs (l : List Int) (hl : l.length ≤ 256) (h : ∀ x ∈ l, R32 x) : Reads encsC (l, 0) ([0] ++ (beL 2 (l.length : Int) ++ l.flatMap fun x => beL 4 (x % 4294967296))) := by
  refine (Reads.bind enA (read_bytes (bs := [0]) rfl) ((Reads.bind enB (read_int (v := (l.length : Int)) (.inr (.inl ⟨rfl, by omega⟩))) ?_).as rfl)).as rfl
  have e : enB (l.length : Int) = enN (l.length : Int) := by funext q; exact (if_neg (by omega)).trans (if_pos (by omega))
  rw [e]
  have k := (read_encsL l h).map (fun r => (r, (0 : Int)))
  refine k.as ?_
  funext q
  show (encsL (l.length : Int).toNat q).map _ = _
  rw [Int.toNat_natCast]
theorem read_format {n d : Int} {bg tr : Bool} {m1 m2 m3 s1 s2 s3 : Int} (hb : format_Valid.f n d bg tr m1 m2 m3 s1 s2 s3 = some true) : Reads formatC (n, d, bg, tr, m1, m2, m3, s1, s2, s3, 0) ([0, 0, 0] ++ bytesL n d bg tr m1 m2 m3 s1 s2 s3) := by
  obtain ⟨b, h1, h2⟩ := valid_p n d bg tr m1 m2 m3 s1 s2 s3
  obtain rfl : true = b := by rw [hb] at h1; exact Option.some.inj h1
  have hv := h2.1 rfl
  refine (Reads.bind fmA (read_bytes (bs := [0, 0, 0]) rfl) ?_).as rfl
  intro pre rest q h
  obtain ⟨p, e1, h3, sq⟩ := read_bytes (bs := bytesL n d bg tr m1 m2 m3 s1 s2 s3) (n := 16) rfl pre rest q h
  have e3 := parse_back hv bg hb (⟨#[]⟩ : ByteArray) (Nat.zero_le _)
  rw [ba_append_nil] at e3
  refine ⟨p, ?_, h3, sq⟩
  show fmA (strOfNums [0, 0, 0]) q = _
  unfold fmA
  refine bind_eq e1 ?_
  exact (if_pos h3.c).trans (by rw [e3]; rfl)
end Go.Proofs.Ytclikkhkhoicfaa.H

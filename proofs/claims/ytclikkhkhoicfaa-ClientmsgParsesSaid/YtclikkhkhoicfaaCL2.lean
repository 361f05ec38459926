import Derived.Test.YtclikkhkhoicfaaCL1
import Derived.Test.YtclikkhkhoicfaaFM9
import Derived.Test.YtclikkhkhoicfaaXx21
/-! What each reader of a message reads. -/
namespace Go.Proofs.Ytclikkhkhoicfaa.H
set_option linter.unusedVariables false
set_option linter.unusedSimpArgs false
open Go.RowKit Go.Proofs.Ytclikkhkhoicfaa.X Go.Proofs.Ytclikkhkhoicfaa.B Go.Proofs.Ytclikkhkhoicfaa.O Go.Proofs.Ytclikkhkhoicfaa.F Go.Proofs.YtclikkhkhoicfaaW.PrintWords Go.Proofs.YtclikkhkhoicfaaW.PrintLast Go.Proofs.YtclikkhkhoicfaaW.PrintMore
theorem i1 : (1 : Int) = 1 ∨ (1 : Int) = 2 ∨ (1 : Int) = 4 := by decide
theorem i2 : (2 : Int) = 1 ∨ (2 : Int) = 2 ∨ (2 : Int) = 4 := by decide
theorem i4 : (4 : Int) = 1 ∨ (4 : Int) = 2 ∨ (4 : Int) = 4 := by decide
section
variable {α β : Type}
/-- A step, and what is made of it. -/
theorem Step.out {P : α → Prop} {R : α → Int → Prop} {f : CS → Option (α × CS)} (h : Step P R f) (m : α → β) {S : β → Int → Prop} (hs : ∀ v k, R v k → S (m v) k) : Step Any S (fun q => (f q).bind fun p => some (m p.1, p.2)) :=
  (h.bind (g := fun v q => some (m v, q)) (Q := Any) (S := fun v u k => u = m v ∧ k = 0) (fun v hv => Step.pure (m v) trivial)).weak (fun _ h => h) (fun u k h => by
    obtain ⟨v, i, j, a, ⟨rfl, rfl⟩, rfl⟩ := h
    rw [Int.add_zero]
    exact hs v i a)
theorem Step.then_ {P : α → Prop} {Q : β → Prop} {R : α → Int → Prop} {S : α → β → Int → Prop} {T : β → Int → Prop} {f : CS → Option (α × CS)} (g : α → CS → Option (β × CS)) (hf : Step P R f) (hg : ∀ v, P v → Step Q (S v) (g v)) (k : ∀ v i u j, R v i → S v u j → T u (i + j)) : Step Q T (fun q => (f q).bind fun p => g p.1 p.2) :=
  (hf.bind hg).weak (fun _ h => h) (fun u x h => by
    obtain ⟨v, i, j, a, b, rfl⟩ := h
    exact k v i u j a b)
theorem Step.ite_ {P : α → Prop} {R : α → Int → Prop} {c : Prop} [Decidable c] {f g : CS → Option (α × CS)} (hf : c → Step P R f) (hg : ¬ c → Step P R g) : Step P R (fun q => if c then f q else g q) := by
  by_cases hc : c
  · exact (hf hc).to (by funext q; exact if_pos hc)
  · exact (hg hc).to (by funext q; exact if_neg hc)
theorem Step.map_ {P : α → Prop} {R : α → Int → Prop} {f : CS → Option (α × CS)} (h : Step P R f) (m : α → β) {S : β → Int → Prop} (hs : ∀ v k, R v k → S (m v) k) : Step Any S (fun q => (f q).map fun p => (m p.1, p.2)) := map_step h m (fun _ _ => trivial) hs
end
theorem flag_step : Step Any (fun _ k => k = 1) flagC := ((int_step 1 i1).map_ (fun v => v != 0) (S := fun _ k => k = 1) (fun v k h => h.2)).to rfl
def plA (a : Int) (q : CS) : Option ((Int × Int) × CS) := (intC q 2).bind fun b => some ((a, b.1), b.2)
theorem plA_step (a : Int) : Step Any (fun v k => v.1 = a ∧ fits 2 v.2 ∧ k = 2) (plA a) := ((int_step 2 i2).out (fun b => (a, b)) (fun v k h => ⟨rfl, h.1, h.2⟩)).to rfl
theorem place_step : Step Any (fun v k => fits 2 v.1 ∧ fits 2 v.2 ∧ k = 4) placeC :=
  ((int_step 2 i2).then_ plA (fun a _ => plA_step a) (fun v i u j h1 h2 => ⟨by rw [h2.1]; exact h1.1, h2.2.1, by have := h1.2; have := h2.2.2; omega⟩)).to rfl
def rcB (p : Int × Int) (a : Int) (q : CS) : Option ((Int × Int × Int × Int) × CS) := (intC q 2).bind fun b => some ((p.1, p.2, a, b.1), b.2)
theorem rcB_step (p : Int × Int) (a : Int) : Step Any (fun v k => v.1 = p.1 ∧ v.2.1 = p.2 ∧ v.2.2.1 = a ∧ fits 2 v.2.2.2 ∧ k = 2) (rcB p a) := ((int_step 2 i2).out (fun b => (p.1, p.2, a, b)) (fun v k h => ⟨rfl, rfl, rfl, h.1, h.2⟩)).to rfl
def rcA (p : Int × Int) (q : CS) : Option ((Int × Int × Int × Int) × CS) := (intC q 2).bind fun a => rcB p a.1 a.2
theorem rcA_step (p : Int × Int) : Step Any (fun v k => v.1 = p.1 ∧ v.2.1 = p.2 ∧ fits 2 v.2.2.1 ∧ fits 2 v.2.2.2 ∧ k = 4) (rcA p) :=
  ((int_step 2 i2).then_ (rcB p) (fun a _ => rcB_step p a) (fun v i u j h1 h2 => ⟨h2.1, h2.2.1, by rw [h2.2.2.1]; exact h1.1, h2.2.2.2.1, by have := h1.2; have := h2.2.2.2.2; omega⟩)).to rfl
def F4 (v : Int × Int × Int × Int) : Prop := fits 2 v.1 ∧ fits 2 v.2.1 ∧ fits 2 v.2.2.1 ∧ fits 2 v.2.2.2
theorem rect_step : Step Any (fun v k => F4 v ∧ k = 8) rectC :=
  (place_step.then_ rcA (fun p _ => rcA_step p) (fun v i u j h1 h2 => ⟨⟨by rw [h2.1]; exact h1.1, by rw [h2.2.1]; exact h1.2.1, h2.2.2.1, h2.2.2.2.1⟩, by have := h1.2.2; have := h2.2.2.2.2; omega⟩)).to rfl
def rqA (f : Bool) (q : CS) : Option ((Bool × Int × Int × Int × Int) × CS) := (rectC q).bind fun b => some ((f, b.1.1, b.1.2.1, b.1.2.2.1, b.1.2.2.2), b.2)
theorem rqA_step (f : Bool) : Step Any (fun v k => F4 v.2 ∧ k = 8) (rqA f) := (rect_step.out (fun b => (f, b.1, b.2.1, b.2.2.1, b.2.2.2)) (fun v k h => h)).to rfl
theorem request_step : Step Any (fun v k => F4 v.2 ∧ k = 9) requestC :=
  (flag_step.then_ rqA (fun f _ => rqA_step f) (fun v i u j h1 h2 => ⟨h2.1, by have := h2.2; omega⟩)).to rfl
def kyB (f : Bool) (_ : ByteArray) (q : CS) : Option ((Bool × Int) × CS) := (intC q 4).bind fun n => some ((f, n.1), n.2)
theorem kyB_step (f : Bool) (b : ByteArray) : Step Any (fun v k => fits 4 v.2 ∧ k = 4) (kyB f b) := ((int_step 4 i4).out (fun n => (f, n)) (fun v k h => h)).to rfl
def kyA (f : Bool) (q : CS) : Option ((Bool × Int) × CS) := (bytesC q 2).bind fun b => kyB f b.1 b.2
theorem kyA_step (f : Bool) : Step Any (fun v k => fits 4 v.2 ∧ k = 6) (kyA f) := ((bytes_step 2 (by decide)).then_ (kyB f) (fun b _ => kyB_step f b) (fun v i u j h1 h2 => ⟨h2.1, by have := h1.2; have := h2.2; omega⟩)).to rfl
theorem key_step : Step Any (fun v k => fits 4 v.2 ∧ k = 7) keyC := (flag_step.then_ kyA (fun f _ => kyA_step f) (fun v i u j h1 h2 => ⟨h2.1, by have := h2.2; omega⟩)).to rfl
def poA (n : Int) (q : CS) : Option ((Int × Int × Int) × CS) := (placeC q).bind fun b => some ((n, b.1.1, b.1.2), b.2)
theorem poA_step (n : Int) : Step Any (fun v k => v.1 = n ∧ fits 2 v.2.1 ∧ fits 2 v.2.2 ∧ k = 4) (poA n) := (place_step.out (fun b => (n, b.1, b.2)) (fun v k h => ⟨rfl, h⟩)).to rfl
theorem pointer_step : Step Any (fun v k => fits 1 v.1 ∧ fits 2 v.2.1 ∧ fits 2 v.2.2 ∧ k = 5) pointerC :=
  ((int_step 1 i1).then_ poA (fun n _ => poA_step n) (fun v i u j h1 h2 => ⟨by rw [h2.1]; exact h1.1, h2.2.1, h2.2.2.1, by have := h1.2; have := h2.2.2.2; omega⟩)).to rfl
/-! A text. -/
def cuN (n : Int) (q : CS) : Option ((ByteArray × Int) × CS) := (bytesC q n).map fun t => ((t.1, 0), t.2)
def cuL (q : CS) : Option ((ByteArray × Int) × CS) := some ((⟨#[]⟩, 4), q)
def cuB (n : Int) (q : CS) : Option ((ByteArray × Int) × CS) := if n > 4096 then cuL q else cuN n q
def CutR (v : ByteArray × Int) (k : Int) : Prop := v.2 = 4 ∨ (v.2 = 0 ∧ v.1.size ≤ 4096 ∧ (v.1.size : Int) = k)
theorem cuB_step (n : Int) (hn : 0 ≤ n) : Step Any CutR (cuB n) :=
  Step.ite_ (f := cuL) (g := cuN n) (fun _ => (Step.pure (P := Any) ((⟨#[]⟩ : ByteArray), (4 : Int)) trivial).weak (fun _ h => h) (fun v k h => .inl (by rw [h.1]))) (fun hc => (bytes_step n hn).map_ (fun t => (t, (0 : Int))) (fun v k h => .inr ⟨rfl, by have := h.1; show v.size ≤ 4096; omega, by have := h.1; have := h.2; show (v.size : Int) = k; omega⟩))
def cuA (_ : ByteArray) (q : CS) : Option ((ByteArray × Int) × CS) := (intC q 4).bind fun n => cuB n.1 n.2
theorem cuA_step (b : ByteArray) : Step Any (fun v k => CutR v (k - 4)) (cuA b) := ((int_step 4 i4).then_ cuB (fun n h => cuB_step n h) (fun v i u j h1 h2 => by rw [h1.2, show (4 : Int) + j - 4 = j by omega]; exact h2)).to rfl
theorem cut_step : Step Any (fun v k => CutR v (k - 7)) cutC := ((bytes_step 3 (by decide)).then_ cuA (fun b _ => cuA_step b) (fun v i u j h1 h2 => by rw [h1.2, show (3 : Int) + j - 7 = j - 4 by omega]; exact h2)).to rfl
/-! Encodings. -/
def R32 (x : Int) : Prop := -2147483648 ≤ x ∧ x ≤ 2147483647
def enT (x : Int) (n : Nat) (q : CS) : Option (List Int × CS) := (encsL n q).map fun r => (x :: r.1, r.2)
theorem encsL_step : ∀ n : Nat, Step Any (fun l k => l.length = n ∧ (∀ x ∈ l, R32 x) ∧ k = 4 * (n : Int)) (encsL n)
  | 0 => (Step.pure (P := Any) ([] : List Int) trivial).weak (fun _ h => h) (fun l k h => by obtain ⟨rfl, rfl⟩ := h; exact ⟨rfl, (fun x hx => by cases hx), rfl⟩)
  | n + 1 => by
    have k : ∀ x : Int, Step Any (fun l k => ∃ l', l = x :: l' ∧ l'.length = n ∧ (∀ x ∈ l', R32 x) ∧ k = 4 * (n : Int)) (fun q => enT x n q) := fun x => ((encsL_step n).map_ (fun l => x :: l) (fun l k h => ⟨l, rfl, h⟩)).to rfl
    refine (signed_step.then_ (fun x q => enT x n q) (fun x _ => k x) (fun x i l j h1 h2 => ?_)).to rfl
    obtain ⟨l', rfl, h3, h4, rfl⟩ := h2
    obtain ⟨h5, rfl⟩ := h1
    exact ⟨by rw [List.length_cons, h3], fun y hy => (List.mem_cons.1 hy).elim (fun e => by rw [e]; exact h5) (h4 y), by push_cast; omega⟩
def enL (q : CS) : Option ((List Int × Int) × CS) := some (([], 4), q)
def enN (n : Int) (q : CS) : Option ((List Int × Int) × CS) := (encsL n.toNat q).map fun r => ((r.1, 0), r.2)
def enB (n : Int) (q : CS) : Option ((List Int × Int) × CS) := if n > 256 then enL q else if 0 ≤ n then enN n q else none
def EncR (v : List Int × Int) (k : Int) : Prop := v.2 = 4 ∨ (v.2 = 0 ∧ v.1.length ≤ 256 ∧ (∀ x ∈ v.1, R32 x) ∧ k = 4 * (v.1.length : Int))
theorem enB_step (n : Int) (hn : 0 ≤ n) : Step Any EncR (enB n) := by
  refine Step.ite_ (f := enL) (g := fun q => if 0 ≤ n then enN n q else none) (fun _ => (Step.pure (P := Any) (([] : List Int), (4 : Int)) trivial).weak (fun _ h => h) (fun v k h => .inl (by rw [h.1]))) (fun hc => ?_)
  refine Step.to (f := enN n) ?_ (by funext q; exact if_pos hn)
  refine ((encsL_step n.toNat).map_ (fun l => (l, (0 : Int))) (fun l k h => .inr ⟨rfl, ?_, h.2.1, ?_⟩)).to rfl
  · show l.length ≤ 256
    have := h.1
    omega
  · show k = 4 * (l.length : Int)
    rw [h.1]; exact h.2.2
def enA (_ : ByteArray) (q : CS) : Option ((List Int × Int) × CS) := (intC q 2).bind fun n => enB n.1 n.2
theorem enA_step (b : ByteArray) : Step Any (fun v k => EncR v (k - 2)) (enA b) := ((int_step 2 i2).then_ enB (fun n h => enB_step n h) (fun v i u j h1 h2 => by rw [h1.2, show (2 : Int) + j - 2 = j by omega]; exact h2)).to rfl
theorem encs_step : Step Any (fun v k => EncR v (k - 3)) encsC := ((bytes_step 1 (by decide)).then_ enA (fun b _ => enA_step b) (fun v i u j h1 h2 => by rw [h1.2, show (1 : Int) + j - 3 = j - 2 by omega]; exact h2)).to rfl
/-! A format. -/
def fE (p : F10) : Int := p.2.2.2.2.2.2.2.2.2.2
def FmtR (v : F10) : Prop := fE v = 0 → format_Valid.f v.1 v.2.1 v.2.2.1 v.2.2.2.1 v.2.2.2.2.1 v.2.2.2.2.2.1 v.2.2.2.2.2.2.1 v.2.2.2.2.2.2.2.1 v.2.2.2.2.2.2.2.2.1 v.2.2.2.2.2.2.2.2.2.1 = some true
theorem parse_any (s : ByteArray) (hs : s.size ≤ 4611686018427387904) : ∃ p : F10, format_Parse.f s = some p ∧ FmtR p ∧ (16 ≤ s.size → fE p = 0 ∨ fE p = 130) := by
  by_cases h : s.size < 16
  · exact ⟨_, parse_short s h, fun h2 => absurd (show (2 : Int) = 0 from h2) (by decide), fun h2 => by omega⟩
  · obtain ⟨b, hb, _⟩ := valid_p ((bytesOf s).getD 0 0) ((bytesOf s).getD 1 0) ((bytesOf s).getD 2 0 != 0) ((bytesOf s).getD 3 0 != 0) ((bytesOf s).getD 4 0 * 256 + (bytesOf s).getD 5 0) ((bytesOf s).getD 6 0 * 256 + (bytesOf s).getD 7 0) ((bytesOf s).getD 8 0 * 256 + (bytesOf s).getD 9 0) ((bytesOf s).getD 10 0) ((bytesOf s).getD 11 0) ((bytesOf s).getD 12 0)
    have e := parse_long s hs (by omega) _ rfl b hb
    cases b with
    | true => exact ⟨_, e, fun _ => hb, fun _ => .inl rfl⟩
    | false => exact ⟨_, e, fun h2 => absurd (show (130 : Int) = 0 from h2) (by decide), fun _ => .inr rfl⟩
def fmB (b : ByteArray) (q : CS) : Option (F10 × CS) := if q.ce = 0 then (format_Parse.f b).map fun p => (p, q) else some ((0, 0, false, false, 0, 0, 0, 0, 0, 0, q.ce), q)
theorem fmB_ok (b : ByteArray) (hb : b.size ≤ 4611686018427387904) : ∃ p : F10, format_Parse.f b = some p ∧ FmtR p ∧ ∀ q : CS, q.ce = 0 → fmB b q = some (p, q) := by
  obtain ⟨p, e, h1, h2⟩ := parse_any b hb
  exact ⟨p, e, h1, fun q hq => (if_pos hq).trans (by rw [e]; rfl)⟩
theorem fmB_late (b : ByteArray) (q : CS) (hq : q.ce ≠ 0) : fmB b q = some ((0, 0, false, false, 0, 0, 0, 0, 0, 0, q.ce), q) := if_neg hq
theorem fmB_good (b : ByteArray) (hb : b.size ≤ 4611686018427387904) : Good Any (fmB b) := fun q h => by
  by_cases hc : q.ce = 0
  · obtain ⟨p, _, _, e⟩ := fmB_ok b hb
    exact ⟨p, q, e q hc, trivial, Goes.refl h⟩
  · exact ⟨_, q, fmB_late b q hc, trivial, Goes.refl h⟩
theorem fmB_step (b : ByteArray) (hb : b.size ≤ 4611686018427387904) : Step Any (fun v k => FmtR v ∧ k = 0) (fmB b) :=
  ⟨fmB_good b hb, fun q v p h e hc => by
    obtain ⟨x, _, h2, e2⟩ := fmB_ok b hb
    by_cases hq : q.ce = 0
    · rw [e2 q hq] at e
      obtain ⟨rfl, rfl⟩ := Prod.mk.inj (Option.some.inj e)
      exact ⟨h2, by omega⟩
    · rw [fmB_late b q hq] at e
      obtain ⟨_, rfl⟩ := Prod.mk.inj (Option.some.inj e)
      exact absurd hc hq, fun t q q' h h' hs => by
    obtain ⟨x, _, h2, e2⟩ := fmB_ok b hb
    exact ⟨x, x, q, q', e2 q hs.2.2.1, e2 q' hs.2.2.2, trivial, trivial, h, h', rfl, .inl ⟨hs, rfl⟩⟩⟩
def fmA (_ : ByteArray) (q : CS) : Option (F10 × CS) := (bytesC q 16).bind fun b => fmB b.1 b.2
theorem fmA_step (b : ByteArray) : Step Any (fun v k => FmtR v ∧ k = 16) (fmA b) := ((bytes_step 16 (by decide)).then_ fmB (fun b h => fmB_step b h) (fun v i u j h1 h2 => ⟨h2.1, by have := h1.2; have := h2.2; omega⟩)).to rfl
theorem format_step : Step Any (fun v k => FmtR v ∧ k = 19) formatC := ((bytes_step 3 (by decide)).then_ fmA (fun b _ => fmA_step b) (fun v i u j h1 h2 => ⟨h2.1, by have := h1.2; have := h2.2; omega⟩)).to rfl
end Go.Proofs.Ytclikkhkhoicfaa.H

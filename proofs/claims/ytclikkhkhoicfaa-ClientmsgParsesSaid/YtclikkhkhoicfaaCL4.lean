import Derived.Test.YtclikkhkhoicfaaCL3
/-! A message, as a whole: what Parse tells of a text, of a longer one, and of what is written. -/
namespace Go.Proofs.Ytclikkhkhoicfaa.H
set_option linter.unusedVariables false
set_option linter.unusedSimpArgs false
open Go.RowKit Go.Proofs.Ytclikkhkhoicfaa.X Go.Proofs.Ytclikkhkhoicfaa.B Go.Proofs.Ytclikkhkhoicfaa.O Go.Proofs.Ytclikkhkhoicfaa.F Go.Proofs.YtclikkhkhoicfaaW.PrintWords Go.Proofs.YtclikkhkhoicfaaW.PrintLast Go.Proofs.YtclikkhkhoicfaaW.PrintMore
abbrev P21 := Int × Bool × Int × Int × Int × Int × Int × Int × Int × Bool × Bool × Int × Int × Int × Int × Int × Int × List Int × ByteArray × Int × Int
def er (m : M20) : Int := m.2.2.2.2.2.2.2.2.2.2.2.2.2.2.2.2.2.2.2
def m0 (v : F10) : M20 := (0, false, 0, 0, 0, 0, 0, v.1, v.2.1, v.2.2.1, v.2.2.2.1, v.2.2.2.2.1, v.2.2.2.2.2.1, v.2.2.2.2.2.2.1, v.2.2.2.2.2.2.2.1, v.2.2.2.2.2.2.2.2.1, v.2.2.2.2.2.2.2.2.2.1, [], ⟨#[]⟩, fE v)
def m1 (v : List Int × Int) : M20 := (1, false, 0, 0, 0, 0, 0, 0, 0, false, false, 0, 0, 0, 0, 0, 0, v.1, ⟨#[]⟩, v.2)
def m2 (v : Bool × Int × Int × Int × Int) : M20 := (2, v.1, 0, v.2.1, v.2.2.1, v.2.2.2.1, v.2.2.2.2, 0, 0, false, false, 0, 0, 0, 0, 0, 0, [], ⟨#[]⟩, 0)
def m3 (v : Bool × Int) : M20 := (3, v.1, v.2, 0, 0, 0, 0, 0, 0, false, false, 0, 0, 0, 0, 0, 0, [], ⟨#[]⟩, 0)
def m4 (v : Int × Int × Int) : M20 := (4, false, v.1, v.2.1, v.2.2, 0, 0, 0, 0, false, false, 0, 0, 0, 0, 0, 0, [], ⟨#[]⟩, 0)
def m5 (v : ByteArray × Int) : M20 := ((cutM v.1 v.2), false, 0, 0, 0, 0, 0, 0, 0, false, false, 0, 0, 0, 0, 0, 0, [], v.1, v.2)
theorem readC0 : readC 0 = fun q => (formatC q).map fun p => (m0 p.1, p.2) := by funext q; exact if_pos rfl
theorem readC2 : readC 2 = fun q => (encsC q).map fun p => (m1 p.1, p.2) := by funext q; exact (if_neg (by decide)).trans (if_pos rfl)
theorem readC3 : readC 3 = fun q => (requestC q).map fun p => (m2 p.1, p.2) := by funext q; exact (if_neg (by decide)).trans ((if_neg (by decide)).trans (if_pos rfl))
theorem readC4 : readC 4 = fun q => (keyC q).map fun p => (m3 p.1, p.2) := by funext q; exact (if_neg (by decide)).trans ((if_neg (by decide)).trans ((if_neg (by decide)).trans (if_pos rfl)))
theorem readC5 : readC 5 = fun q => (pointerC q).map fun p => (m4 p.1, p.2) := by funext q; exact (if_neg (by decide)).trans ((if_neg (by decide)).trans ((if_neg (by decide)).trans ((if_neg (by decide)).trans (if_pos rfl))))
theorem readC6 : readC 6 = fun q => (cutC q).map fun p => (m5 p.1, p.2) := by funext q; exact (if_neg (by decide)).trans ((if_neg (by decide)).trans ((if_neg (by decide)).trans ((if_neg (by decide)).trans ((if_neg (by decide)).trans (if_pos rfl)))))
def K (n : Int) : Prop := n = 0 ∨ n = 2 ∨ n = 3 ∨ n = 4 ∨ n = 5 ∨ n = 6
instance (n : Int) : Decidable (K n) := by unfold K; infer_instance

/-- A message that may be, and its bytes. -/
inductive Form : M20 → List Int → Prop
  | fmt (n d : Int) (bg tr : Bool) (m1 m2 m3 s1 s2 s3 : Int) (h : format_Valid.f n d bg tr m1 m2 m3 s1 s2 s3 = some true) : Form (m0 (n, d, bg, tr, m1, m2, m3, s1, s2, s3, 0)) (beL 1 0 ++ ([0, 0, 0] ++ bytesL n d bg tr m1 m2 m3 s1 s2 s3))
  | encs (l : List Int) (h1 : l.length ≤ 256) (h2 : ∀ x ∈ l, R32 x) : Form (m1 (l, 0)) (beL 1 2 ++ ([0] ++ (beL 2 (l.length : Int) ++ l.flatMap fun x => beL 4 (x % 4294967296))))
  | request (f : Bool) (x y w h : Int) (hx : fits 2 x) (hy : fits 2 y) (hw : fits 2 w) (hh : fits 2 h) : Form (m2 (f, x, y, w, h)) (beL 1 3 ++ (beL 1 (bitN f) ++ ((beL 2 x ++ beL 2 y) ++ (beL 2 w ++ beL 2 h))))
  | key (f : Bool) (n : Int) (hn : fits 4 n) : Form (m3 (f, n)) (beL 1 4 ++ (beL 1 (bitN f) ++ ([0, 0] ++ beL 4 n)))
  | pointer (n x y : Int) (hn : fits 1 n) (hx : fits 2 x) (hy : fits 2 y) : Form (m4 (n, x, y)) (beL 1 5 ++ (beL 1 n ++ (beL 2 x ++ beL 2 y)))
  | cut (t : ByteArray) (h : t.size ≤ 4096) : Form (m5 (t, 0)) (beL 1 6 ++ ([0, 0, 0] ++ (beL 4 (t.size : Int) ++ bytesOf t)))
theorem bl1 (n : Int) : (beL 1 n).length = 1 := rfl
theorem bl2 (n : Int) : (beL 2 n).length = 2 := rfl
theorem bl4 (n : Int) : (beL 4 n).length = 4 := rfl
theorem flat4_len (l : List Int) : (l.flatMap fun x => beL 4 (x % 4294967296)).length = 4 * l.length := by
  induction l with
  | nil => rfl
  | cons x l ih => rw [List.flatMap_cons, List.length_append, ih, bl4, List.length_cons]; omega
theorem bytesL_len (n d : Int) (bg tr : Bool) (m1 m2 m3 s1 s2 s3 : Int) : (bytesL n d bg tr m1 m2 m3 s1 s2 s3).length = 16 := rfl
theorem bytesL_range {n d : Int} {tr : Bool} {m1 m2 m3 s1 s2 s3 : Int} (hv : Vd n d tr m1 m2 m3 s1 s2 s3) (bg : Bool) : ∀ x ∈ bytesL n d bg tr m1 m2 m3 s1 s2 s3, 0 ≤ x ∧ x < 256 := by
  have hn : n ≤ 32 := by have := hv.bits; omega
  have hn0 : 0 ≤ n := by have := hv.bits; omega
  have hd := hv.depth
  have r1 := okP_m hv.p1
  have r2 := okP_m hv.p2
  have r3 := okP_m hv.p3
  have u1 := okP_s hn hv.p1
  have u2 := okP_s hn hv.p2
  have u3 := okP_s hn hv.p3
  have c1 := bitI_bd bg
  have c2 := bitI_bd tr
  intro x hx
  simp only [bytesL, List.mem_cons, List.not_mem_nil, or_false] at hx
  omega
def Rg (l : List Int) : Prop := ∀ x ∈ l, 0 ≤ x ∧ x < 256
theorem Rg.app {a b : List Int} (h : Rg a) (k : Rg b) : Rg (a ++ b) := fun x hx => (List.mem_append.1 hx).elim (h x) (k x)
theorem Rg.be {n v : Int} (h : fits n v) : Rg (beL n v) := fun x hx => beL_range h x hx
theorem Rg.zeros (n : Nat) : Rg (List.replicate n 0) := fun x hx => by rw [(List.mem_replicate.1 hx).2]; decide
theorem fits2_ {n : Int} (h : 0 ≤ n ∧ n < 65536) : fits 2 n := .inr (.inl ⟨rfl, h⟩)
theorem fits4_ {n : Int} (h : 0 ≤ n ∧ n < 4294967296) : fits 4 n := .inr (.inr ⟨rfl, h⟩)
theorem Form.range {m : M20} {bs : List Int} (h : Form m bs) : Rg bs ∧ bs.length ≤ 10000 ∧ 2 ≤ bs.length := by
  cases h with
  | fmt n d bg tr m1 m2 m3 s1 s2 s3 h =>
    obtain ⟨b, h1, h2⟩ := valid_p n d bg tr m1 m2 m3 s1 s2 s3
    obtain rfl : true = b := by rw [h] at h1; exact Option.some.inj h1
    exact ⟨(Rg.be (fits1_ (by decide))).app ((Rg.zeros 3).app (bytesL_range (h2.1 rfl) bg)), by simp only [List.length_append, bl1, bytesL_len]; decide, by simp only [List.length_append, bl1, bytesL_len]; decide⟩
  | encs l h1 h2 =>
    refine ⟨(Rg.be (fits1_ (by decide))).app ((Rg.zeros 1).app ((Rg.be (fits2_ (by omega))).app (fun x hx => ?_))), ?_, ?_⟩
    · obtain ⟨y, hy, hx⟩ := List.mem_flatMap.1 hx
      exact beL_range (fits4_ (by omega)) x hx
    · simp only [List.length_append, bl1, bl2, flat4_len, List.length_singleton]; omega
    · simp only [List.length_append, bl1, bl2, flat4_len, List.length_singleton]; omega
  | request f x y w h hx hy hw hh => exact ⟨(Rg.be (fits1_ (by decide))).app ((Rg.be (bitN_fits f)).app (((Rg.be hx).app (Rg.be hy)).app ((Rg.be hw).app (Rg.be hh)))), by simp only [List.length_append, bl1, bl2]; decide, by simp only [List.length_append, bl1, bl2]; decide⟩
  | key f n hn => exact ⟨(Rg.be (fits1_ (by decide))).app ((Rg.be (bitN_fits f)).app ((Rg.zeros 2).app (Rg.be hn))), by simp only [List.length_append, bl1, bl4]; decide, by simp only [List.length_append, bl1, bl4]; decide⟩
  | pointer n x y hn hx hy => exact ⟨(Rg.be (fits1_ (by decide))).app ((Rg.be hn).app ((Rg.be hx).app (Rg.be hy))), by simp only [List.length_append, bl1, bl2]; decide, by simp only [List.length_append, bl1, bl2]; decide⟩
  | cut t h =>
    refine ⟨(Rg.be (fits1_ (by decide))).app ((Rg.zeros 3).app ((Rg.be (fits4_ (by omega))).app (fun x hx => bytes_range t x hx))), ?_, ?_⟩
    · simp only [List.length_append, bl1, bl4, bytesOf_length, List.length_cons, List.length_nil]; omega
    · simp only [List.length_append, bl1, bl4, bytesOf_length, List.length_cons, List.length_nil]; omega
/-- It is read again. -/
theorem Form.reads {m : M20} {bs : List Int} (h : Form m bs) : er m = 0 ∧ ∃ k tl, K k ∧ fits 1 k ∧ bs = beL 1 k ++ tl ∧ Reads (readC k) m tl := by
  cases h with
  | fmt n d bg tr m1 m2 m3 s1 s2 s3 h => exact ⟨rfl, 0, _, .inl rfl, fits1_ (by decide), rfl, by rw [readC0]; exact (read_format h).map m0⟩
  | encs l h1 h2 => exact ⟨rfl, 2, _, by decide, fits1_ (by decide), rfl, by rw [readC2]; exact (read_encs l h1 h2).map m1⟩
  | request f x y w h hx hy hw hh => exact ⟨rfl, 3, _, by decide, fits1_ (by decide), rfl, by rw [readC3]; exact (read_request f hx hy hw hh).map m2⟩
  | key f n hn => exact ⟨rfl, 4, _, by decide, fits1_ (by decide), rfl, by rw [readC4]; exact (read_key f hn).map m3⟩
  | pointer n x y hn hx hy => exact ⟨rfl, 5, _, by decide, fits1_ (by decide), rfl, by rw [readC5]; exact (read_pointer hn hx hy).map m4⟩
  | cut t h => exact ⟨rfl, 6, _, by decide, fits1_ (by decide), rfl, by rw [readC6]; exact (read_cut t h).map m5⟩
/-- What is read may be. -/
def FormR (m : M20) (k : Int) : Prop := er m = 0 → ∃ bs, Form m bs ∧ (bs.length : Int) = k + 1
theorem readC_step (n : Int) (hn : K n) : Step Any FormR (readC n) := by
  rcases hn with rfl | rfl | rfl | rfl | rfl | rfl
  · rw [readC0]
    refine format_step.map_ m0 (fun v k h he => ?_)
    obtain ⟨n, d, bg, tr, m1, m2, m3, s1, s2, s3, e⟩ := v
    obtain rfl : e = 0 := he
    exact ⟨_, Form.fmt n d bg tr m1 m2 m3 s1 s2 s3 (h.1 rfl), by rw [h.2]; rfl⟩
  · rw [readC2]
    refine encs_step.map_ m1 (fun v k h he => ?_)
    obtain ⟨l, e⟩ := v
    obtain rfl : e = 0 := he
    rcases h with h | ⟨_, h1, h2, h3⟩
    · exact absurd (show (0 : Int) = 4 from h) (by decide)
    · have h3 : k - 3 = 4 * (l.length : Int) := h3
      exact ⟨_, Form.encs l h1 h2, by simp only [List.length_append, bl1, bl2, flat4_len, List.length_singleton]; omega⟩
  · rw [readC3]
    refine request_step.map_ m2 (fun v k h he => ?_)
    obtain ⟨f, x, y, w, z⟩ := v
    exact ⟨_, Form.request f x y w z h.1.1 h.1.2.1 h.1.2.2.1 h.1.2.2.2, by rw [h.2]; rfl⟩
  · rw [readC4]
    refine key_step.map_ m3 (fun v k h he => ?_)
    obtain ⟨f, n⟩ := v
    exact ⟨_, Form.key f n h.1, by rw [h.2]; rfl⟩
  · rw [readC5]
    refine pointer_step.map_ m4 (fun v k h he => ?_)
    obtain ⟨n, x, y⟩ := v
    exact ⟨_, Form.pointer n x y h.1 h.2.1 h.2.2.1, by rw [h.2.2.2]; rfl⟩
  · rw [readC6]
    refine cut_step.map_ m5 (fun v k h he => ?_)
    obtain ⟨t, e⟩ := v
    obtain rfl : e = 0 := he
    rcases h with h | ⟨_, h1, h2⟩
    · exact absurd (show (0 : Int) = 4 from h) (by decide)
    · have h2 : (t.size : Int) = k - 7 := h2
      have h1 : t.size ≤ 4096 := h1
      exact ⟨_, Form.cut t h1, by simp only [List.length_append, bl1, bl4, bytesOf_length, List.length_cons, List.length_nil]; omega⟩
/-- Where the bytes were too few, nothing else is wrong. -/
theorem int_late (n : Int) (hn : n = 1 ∨ n = 2 ∨ n = 4) (q : CS) (v : Int) (p : CS) (h : Ok q) (e : intC q n = some (v, p)) (hc : p.ce ≠ 0) : v = 0 := by
  rw [intC_eq q n hn h] at e
  obtain ⟨rfl, rfl⟩ := Prod.mk.inj (Option.some.inj e)
  rw [rd_none q n (by omega) h hc]; rfl
theorem Good.of {α : Type} {P : α → Prop} {f : CS → Option (α × CS)} (h : Good P f) {q : CS} {v : α} {p : CS} (o : Ok q) (e : f q = some (v, p)) : Goes q p := by
  obtain ⟨_, _, x, _, g⟩ := h q o
  rw [e] at x
  obtain ⟨rfl, rfl⟩ := Prod.mk.inj (Option.some.inj x)
  exact g
theorem two {p : CS} (h : Ok p) (hc : p.ce ≠ 0) : p.ce = 2 := h.2.2.2.resolve_left hc
theorem late (n : Int) (hn : K n) (q : CS) (m : M20) (p : CS) (h : Ok q) (e : readC n q = some (m, p)) (hc : p.ce ≠ 0) : er m = 0 ∨ er m = 2 := by
  rcases hn with rfl | rfl | rfl | rfl | rfl | rfl
  · rw [readC0] at e
    obtain ⟨⟨v, p2⟩, e1, e2⟩ := Option.map_eq_some_iff.1 e
    obtain ⟨rfl, rfl⟩ := Prod.mk.inj e2
    obtain ⟨⟨b0, q1⟩, a1, e1⟩ := Option.bind_eq_some_iff.1 e1
    obtain ⟨⟨b1, q2⟩, a2, e1⟩ := Option.bind_eq_some_iff.1 e1
    have e1 : fmB b1 q2 = some (v, p2) := e1
    have g1 := (bytes_step 3 (by decide)).good.of h a1
    have a2 : bytesC q1 16 = some (b1, q2) := a2
    have g2 := (bytes_step 16 (by decide)).good.of g1.ok a2
    by_cases hq : q2.ce = 0
    · unfold fmB at e1
      rw [if_pos hq] at e1
      obtain ⟨v, _, e3⟩ := Option.map_eq_some_iff.1 e1
      obtain ⟨_, rfl⟩ := Prod.mk.inj e3
      exact absurd hq hc
    · rw [fmB_late b1 q2 hq] at e1
      obtain ⟨rfl, rfl⟩ := Prod.mk.inj (Option.some.inj e1)
      exact .inr (two g2.ok hq)
  · rw [readC2] at e
    obtain ⟨⟨v, p2⟩, e1, e2⟩ := Option.map_eq_some_iff.1 e
    obtain ⟨rfl, rfl⟩ := Prod.mk.inj e2
    obtain ⟨⟨b0, q1⟩, a1, e1⟩ := Option.bind_eq_some_iff.1 e1
    obtain ⟨⟨n, q2⟩, a2, e1⟩ := Option.bind_eq_some_iff.1 e1
    have e1 : enB n q2 = some (v, p2) := e1
    have g1 := (bytes_step 1 (by decide)).good.of h a1
    have a2 : intC q1 2 = some (n, q2) := a2
    unfold enB at e1
    by_cases hn : n > 256
    · rw [if_pos hn] at e1
      obtain ⟨rfl, rfl⟩ := Prod.mk.inj (Option.some.inj (show some (([], 4), q2) = some (v, p2) from e1))
      have := int_late 2 i2 q1 n q2 g1.ok a2 hc
      omega
    · rw [if_neg hn] at e1
      by_cases h0 : 0 ≤ n
      · rw [if_pos h0] at e1
        obtain ⟨r, _, e3⟩ := Option.map_eq_some_iff.1 e1
        obtain ⟨rfl, _⟩ := Prod.mk.inj e3
        exact .inl rfl
      · rw [if_neg h0] at e1; cases e1
  · rw [readC3] at e
    obtain ⟨⟨v, p2⟩, e1, e2⟩ := Option.map_eq_some_iff.1 e
    obtain ⟨rfl, rfl⟩ := Prod.mk.inj e2
    exact .inl rfl
  · rw [readC4] at e
    obtain ⟨⟨v, p2⟩, e1, e2⟩ := Option.map_eq_some_iff.1 e
    obtain ⟨rfl, rfl⟩ := Prod.mk.inj e2
    exact .inl rfl
  · rw [readC5] at e
    obtain ⟨⟨v, p2⟩, e1, e2⟩ := Option.map_eq_some_iff.1 e
    obtain ⟨rfl, rfl⟩ := Prod.mk.inj e2
    exact .inl rfl
  · rw [readC6] at e
    obtain ⟨⟨v, p2⟩, e1, e2⟩ := Option.map_eq_some_iff.1 e
    obtain ⟨rfl, rfl⟩ := Prod.mk.inj e2
    obtain ⟨⟨b0, q1⟩, a1, e1⟩ := Option.bind_eq_some_iff.1 e1
    obtain ⟨⟨n, q2⟩, a2, e1⟩ := Option.bind_eq_some_iff.1 e1
    have e1 : cuB n q2 = some (v, p2) := e1
    have g1 := (bytes_step 3 (by decide)).good.of h a1
    have a2 : intC q1 4 = some (n, q2) := a2
    unfold cuB at e1
    by_cases hn : n > 4096
    · rw [if_pos hn] at e1
      obtain ⟨rfl, rfl⟩ := Prod.mk.inj (Option.some.inj (show some (((⟨#[]⟩ : ByteArray), (4 : Int)), q2) = some (v, p2) from e1))
      have := int_late 4 i4 q1 n q2 g1.ok a2 hc
      omega
    · rw [if_neg hn] at e1
      obtain ⟨r, _, e3⟩ := Option.map_eq_some_iff.1 e1
      obtain ⟨rfl, _⟩ := Prod.mk.inj e3
      exact .inl rfl
/-! Parse. -/
def tup (m : M20) (a e : Int) : P21 := (m.1, m.2.1, m.2.2.1, m.2.2.2.1, m.2.2.2.2.1, m.2.2.2.2.2.1, m.2.2.2.2.2.2.1, m.2.2.2.2.2.2.2.1, m.2.2.2.2.2.2.2.2.1, m.2.2.2.2.2.2.2.2.2.1, m.2.2.2.2.2.2.2.2.2.2.1, m.2.2.2.2.2.2.2.2.2.2.2.1, m.2.2.2.2.2.2.2.2.2.2.2.2.1, m.2.2.2.2.2.2.2.2.2.2.2.2.2.1, m.2.2.2.2.2.2.2.2.2.2.2.2.2.2.1, m.2.2.2.2.2.2.2.2.2.2.2.2.2.2.2.1, m.2.2.2.2.2.2.2.2.2.2.2.2.2.2.2.2.1, m.2.2.2.2.2.2.2.2.2.2.2.2.2.2.2.2.2.1, m.2.2.2.2.2.2.2.2.2.2.2.2.2.2.2.2.2.2.1, a, e)
def zt (e : Int) : P21 := (0, false, 0, 0, 0, 0, 0, 0, 0, false, false, 0, 0, 0, 0, 0, 0, [], ⟨#[]⟩, 0, e)
def xE (x : P21) : Int := x.2.2.2.2.2.2.2.2.2.2.2.2.2.2.2.2.2.2.2.2
def xA (x : P21) : Int := x.2.2.2.2.2.2.2.2.2.2.2.2.2.2.2.2.2.2.2.1
def pEnd (p : M20 × CS) : Option P21 := if er p.1 = 0 then if p.2.ce = 0 then some (tup p.1 p.2.at_ 0) else some (zt p.2.ce) else some (zt (er p.1))
def pTail (a : Int × CS) : Option P21 := if a.2.ce = 0 then if K a.1 then (readC a.1 a.2).bind pEnd else some (zt 222) else some (zt a.2.ce)
theorem parse_eq (s : ByteArray) : clientmsg_Parse.f s = (intC ⟨s, 0, 0⟩ 1).bind pTail := rfl
theorem xE_tup (m : M20) (a e : Int) : xE (tup m a e) = e := rfl
theorem xA_tup (m : M20) (a e : Int) : xA (tup m a e) = a := rfl
theorem xE_zt (e : Int) : xE (zt e) = e := rfl
theorem xA_zt (e : Int) : xA (zt e) = 0 := rfl
theorem pEnd_u2 {L : Int} (p : M20 × CS) (hu : U2 L p.2) : ∃ y, pEnd p = some y ∧ (xE y ≠ 0 ∨ L < xA y) := by
  unfold pEnd
  by_cases h1 : er p.1 = 0
  · rw [if_pos h1]
    by_cases h2 : p.2.ce = 0
    · rw [if_pos h2]
      exact ⟨_, rfl, .inr (hu.resolve_left (fun h => h h2))⟩
    · rw [if_neg h2]
      exact ⟨_, rfl, .inl h2⟩
  · rw [if_neg h1]
    exact ⟨_, rfl, .inl h1⟩
theorem pTail_u2 {L : Int} (n : Int) (q : CS) (h : Ok q) (hu : U2 L q) : ∃ y, pTail (n, q) = some y ∧ (xE y ≠ 0 ∨ L < xA y) := by
  unfold pTail
  by_cases h1 : q.ce = 0
  · rw [if_pos h1]
    by_cases hk : K n
    · rw [if_pos hk]
      obtain ⟨m, p, e, _, g⟩ := (readC_step n hk).good q h
      obtain ⟨y, y1, y2⟩ := pEnd_u2 (m, p) (g.u2 L hu)
      exact ⟨y, bind_eq e y1, y2⟩
    · rw [if_neg hk]
      exact ⟨_, rfl, .inl (show (222 : Int) ≠ 0 by decide)⟩
  · rw [if_neg h1]
    exact ⟨_, rfl, .inl h1⟩
/-- What the law asks of a text and a longer one. -/
def Aft (x y : P21) (L : Int) : Prop := (xE x = 0 → y = x ∧ xA x ≤ L) ∧ (xE x = 2 → xA x = 0 ∧ (xE y ≠ 0 ∨ L < xA y)) ∧ (xE x ≠ 0 → xE x ≠ 2 → xA x = 0 ∧ xE y = xE x)
theorem aft_off {x y : P21} {L : Int} (h1 : xE x = 2) (h2 : xA x = 0) (h3 : xE y ≠ 0 ∨ L < xA y) : Aft x y L := ⟨fun h => by rw [h1] at h; exact absurd h (by decide), fun _ => ⟨h2, h3⟩, fun _ h => absurd h1 h⟩
theorem aft_same {x : P21} {L : Int} (h : (xE x = 0 ∧ xA x ≤ L) ∨ (xE x ≠ 0 ∧ xA x = 0)) : Aft x x L := by
  rcases h with ⟨h1, h2⟩ | ⟨h1, h2⟩
  · exact ⟨fun _ => ⟨rfl, h2⟩, fun h => by rw [h1] at h; exact absurd h (by decide), fun h => absurd h1 h⟩
  · exact ⟨fun h => absurd h h1, fun _ => ⟨h2, .inl h1⟩, fun _ _ => ⟨h2, rfl⟩⟩
theorem start_ok (s : ByteArray) (h : s.size ≤ 4611686018427387904) : Ok ⟨s, 0, 0⟩ := ⟨h, Int.le_refl _, Int.natCast_nonneg _, .inl rfl⟩
theorem parse_pair (s t : ByteArray) (h1 : s.size ≤ 4611686018427387904) (h2 : (s ++ t).size ≤ 4611686018427387904) : ∃ x y, clientmsg_Parse.f s = some x ∧ clientmsg_Parse.f (s ++ t) = some y ∧ Aft x y (s.size : Int) := by
  obtain ⟨v, v', p, p', e1, e2, _, _, o1, o2, es, hc⟩ := (int_step 1 i1).lock t ⟨s, 0, 0⟩ ⟨s ++ t, 0, 0⟩ (start_ok s h1) (start_ok _ h2) ⟨rfl, rfl, rfl, rfl⟩
  have es : p.s = s := es
  rcases hc with ⟨hs, rfl⟩ | hoff
  · by_cases hk : K v
    · obtain ⟨m, m', r, r', a1, a2, _, _, o3, o4, es2, hc⟩ := (readC_step v hk).lock t p p' o1 o2 hs
      have es2 : r.s = s := es2.trans es
      have b1 : pTail (v, p) = pEnd (m, r) := by unfold pTail; rw [if_pos hs.2.2.1, if_pos hk]; exact bind_eq a1 rfl
      have b2 : pTail (v, p') = pEnd (m', r') := by unfold pTail; rw [if_pos hs.2.2.2, if_pos hk]; exact bind_eq a2 rfl
      rcases hc with ⟨hs2, rfl⟩ | hoff
      · obtain ⟨s1, s2, s3, s4⟩ := hs2
        unfold pEnd at b1 b2
        have hle : r.at_ ≤ (s.size : Int) := by have := o3.2.2.1; rw [es2] at this; exact this
        by_cases he : er m = 0
        · rw [if_pos he, if_pos s3] at b1
          rw [if_pos he, if_pos s4] at b2
          have s2 : r'.at_ = r.at_ := s2
          rw [show (m, r').2.at_ = r.at_ from s2] at b2
          exact ⟨_, _, bind_eq e1 b1, bind_eq e2 b2, aft_same (.inl ⟨rfl, hle⟩)⟩
        · rw [if_neg he] at b1 b2
          exact ⟨_, _, bind_eq e1 b1, bind_eq e2 b2, aft_same (.inr ⟨he, rfl⟩)⟩
      · obtain ⟨y, y1, y2⟩ := pEnd_u2 (m', r') hoff.2
        have hce : r.ce ≠ 0 := by rw [hoff.1]; decide
        have hl := late v hk p m r o1 a1 hce
        have b3 : pEnd (m, r) = some (zt 2) := by
          unfold pEnd
          rcases hl with hl | hl
          · rw [if_pos hl, if_neg hce, show (m, r).2.ce = 2 from hoff.1]
          · rw [if_neg (by rw [hl]; decide), show er (m, r).1 = 2 from hl]
        rw [es2] at y2
        exact ⟨_, _, bind_eq e1 (b1.trans b3), bind_eq e2 (b2.trans y1), aft_off rfl rfl y2⟩
    · have b1 : pTail (v, p) = some (zt 222) := by unfold pTail; rw [if_pos hs.2.2.1, if_neg hk]
      have b2 : pTail (v, p') = some (zt 222) := by unfold pTail; rw [if_pos hs.2.2.2, if_neg hk]
      exact ⟨_, _, bind_eq e1 b1, bind_eq e2 b2, aft_same (.inr ⟨show (222 : Int) ≠ 0 by decide, rfl⟩)⟩
  · obtain ⟨y, y1, y2⟩ := pTail_u2 v' p' o2 hoff.2
    have b1 : pTail (v, p) = some (zt 2) := by unfold pTail; rw [if_neg (by rw [hoff.1]; decide), show (v, p).2.ce = 2 from hoff.1]
    rw [es] at y2
    exact ⟨_, _, bind_eq e1 b1, bind_eq e2 y1, aft_off rfl rfl y2⟩
/-- What is told of a text may be. -/
theorem parse_took (s : ByteArray) (h : s.size ≤ 4611686018427387904) (x : P21) (e : clientmsg_Parse.f s = some x) (he : xE x = 0) : ∃ m bs, Form m bs ∧ x = tup m (bs.length : Int) 0 := by
  rw [parse_eq] at e
  obtain ⟨⟨n, q⟩, e1, e⟩ := Option.bind_eq_some_iff.1 e
  have g := (int_step 1 i1).good.of (start_ok s h) e1
  unfold pTail at e
  by_cases hc : q.ce = 0
  · rw [if_pos hc] at e
    have hat : q.at_ - 0 = 1 := ((int_step 1 i1).took _ n q (start_ok s h) e1 hc).2
    by_cases hk : K n
    · rw [if_pos hk] at e
      obtain ⟨⟨m, p⟩, e2, e⟩ := Option.bind_eq_some_iff.1 e
      have e2 : readC n q = some (m, p) := e2
      unfold pEnd at e
      by_cases h1 : er m = 0
      · rw [if_pos h1] at e
        by_cases h2 : p.ce = 0
        · rw [if_pos h2] at e
          obtain rfl := Option.some.inj e
          obtain ⟨bs, hf, hl⟩ := (readC_step n hk).took q m p g.ok e2 h2 h1
          refine ⟨m, bs, hf, ?_⟩
          rw [show (bs.length : Int) = p.at_ by omega]
        · rw [if_neg h2] at e
          obtain rfl := Option.some.inj e
          exact absurd he h2
      · rw [if_neg h1] at e
        obtain rfl := Option.some.inj e
        exact absurd he h1
    · rw [if_neg hk] at e
      obtain rfl := Option.some.inj e
      exact absurd (show (222 : Int) = 0 from he) (by decide)
  · rw [if_neg hc] at e
    obtain rfl := Option.some.inj e
    exact absurd he hc
/-- What is written is read again, whatever stands behind. -/
theorem parse_form {m : M20} {bs : List Int} (h : Form m bs) (t : ByteArray) (ht : t.size ≤ 4611686018427000000) : clientmsg_Parse.f (strOfNums bs ++ t) = some (tup m (bs.length : Int) 0) := by
  obtain ⟨hr, hz, _⟩ := h.range
  obtain ⟨he, k, tl, hk, hf, rfl, hR⟩ := h.reads
  have h0 : At [] (beL 1 k ++ (tl ++ bytesOf t)) ⟨strOfNums (beL 1 k ++ tl) ++ t, 0, 0⟩ := ⟨by show (strOfNums (beL 1 k ++ tl) ++ t).size ≤ _; rw [ba_size_append, strOfNums_size]; omega, by show bytesOf (strOfNums (beL 1 k ++ tl) ++ t) = _; rw [bytes_append, bytes_str hr]; simp, rfl, rfl⟩
  obtain ⟨q, e1, h1, _⟩ := read_int hf [] (tl ++ bytesOf t) _ h0
  obtain ⟨p, e2, h2, _⟩ := hR _ (bytesOf t) q h1
  rw [parse_eq]
  refine bind_eq e1 ?_
  unfold pTail
  rw [if_pos h1.c, if_pos hk]
  refine bind_eq e2 ?_
  unfold pEnd
  rw [if_pos he, if_pos h2.c, show (m, p).2.at_ = ((beL 1 k ++ tl).length : Int) from h2.a]
end Go.Proofs.Ytclikkhkhoicfaa.H

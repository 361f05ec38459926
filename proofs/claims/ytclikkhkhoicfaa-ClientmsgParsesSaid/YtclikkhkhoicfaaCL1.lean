import Derived.Test.YtclikkhkhoicfaaOE
import Derived.Test.YtclikkhkhoicfaaB0
import Derived.Test.YtclikkhkhoicfaaXx21
/-! What a cursor's steps keep: over the state CS (seat Ytclikkhkhoicfaa): plain. -/
namespace Go.Proofs.Ytclikkhkhoicfaa.H
set_option linter.unusedVariables false
open Go.RowKit Go.Proofs.Ytclikkhkhoicfaa.X Go.Proofs.Ytclikkhkhoicfaa.B Go.Proofs.Ytclikkhkhoicfaa.O Go.Proofs.YtclikkhkhoicfaaW.PrintWords Go.Proofs.YtclikkhkhoicfaaW.PrintLast Go.Proofs.YtclikkhkhoicfaaW.PrintMore
abbrev Any {α : Type} (_ : α) : Prop := True
/-- A cursor that stands within its text. -/
def Ok (q : CS) : Prop := q.s.size ≤ 4611686018427387904 ∧ 0 ≤ q.at_ ∧ q.at_ ≤ (q.s.size : Int) ∧ (q.ce = 0 ∨ q.ce = 2)
/-- Something was wrong, or it stands behind L. -/
def U2 (L : Int) (q : CS) : Prop := q.ce ≠ 0 ∨ L < q.at_
structure Goes (q p : CS) : Prop where
  ok : Ok p
  s : p.s = q.s
  u1 : q.ce = 2 → p.ce = 2
  u2 : ∀ L, U2 L q → U2 L p
theorem Goes.refl {q : CS} (h : Ok q) : Goes q q := ⟨h, rfl, fun a => a, fun _ h => h⟩
theorem Goes.trans {q p r : CS} (h : Goes q p) (k : Goes p r) : Goes q r := ⟨k.ok, k.s.trans h.s, fun a => k.u1 (h.u1 a), fun L u => k.u2 L (h.u2 L u)⟩
theorem Goes.zero {q p : CS} (h : Goes q p) (o : Ok q) (z : p.ce = 0) : q.ce = 0 := o.2.2.2.resolve_right (fun e => by have := h.u1 e; omega)
/-- It answers (P holds of what it answers), and the cursor goes on. -/
def Good {α : Type} (P : α → Prop) (f : CS → Option (α × CS)) : Prop := ∀ q, Ok q → ∃ v p, f q = some (v, p) ∧ P v ∧ Goes q p
/-- What is read by a cursor that is well behind it: v, of so many bytes. -/
def Took {α : Type} (R : α → Int → Prop) (f : CS → Option (α × CS)) : Prop := ∀ q v p, Ok q → f q = some (v, p) → p.ce = 0 → R v (p.at_ - q.at_)
/-- Over a text and a longer one: in step. -/
def Sync (t : ByteArray) (q p : CS) : Prop := p.s = q.s ++ t ∧ p.at_ = q.at_ ∧ q.ce = 0 ∧ p.ce = 0
/-- Out of step: the shorter text was too short. -/
def Off (q p : CS) : Prop := q.ce = 2 ∧ U2 (q.s.size : Int) p
def Lock {α : Type} (P : α → Prop) (f : CS → Option (α × CS)) : Prop := ∀ t q q', Ok q → Ok q' → Sync t q q' → ∃ v v' p p', f q = some (v, p) ∧ f q' = some (v', p') ∧ P v ∧ P v' ∧ Ok p ∧ Ok p' ∧ p.s = q.s ∧ ((Sync t p p' ∧ v = v') ∨ Off p p')
theorem Off.goes {q p q2 p2 : CS} (h : Off q p) (a : Goes q q2) (b : Goes p p2) : Off q2 p2 := ⟨a.u1 h.1, by rw [a.s]; exact b.u2 _ h.2⟩
section
variable {α β : Type}
theorem Good.pure {P : α → Prop} (v : α) (hv : P v) : Good P (fun q => some (v, q)) := fun q h => ⟨v, q, rfl, hv, Goes.refl h⟩
theorem Took.pure (v : α) : Took (fun u k => u = v ∧ k = 0) (fun q => some (v, q)) := fun q u p _ e _ => by
  obtain ⟨rfl, rfl⟩ := Prod.mk.inj (Option.some.inj e)
  exact ⟨rfl, by omega⟩
theorem Lock.pure {P : α → Prop} (v : α) (hv : P v) : Lock P (fun q => some (v, q)) := fun _ q q' h h' hs => ⟨v, v, q, q', rfl, rfl, hv, hv, h, h', rfl, .inl ⟨hs, rfl⟩⟩
theorem Good.bind {P : α → Prop} {Q : β → Prop} {f : CS → Option (α × CS)} {g : α → CS → Option (β × CS)} (hf : Good P f) (hg : ∀ v, P v → Good Q (g v)) : Good Q (fun q => (f q).bind fun p => g p.1 p.2) := fun q h => by
  obtain ⟨v, p, e1, hv, h1⟩ := hf q h
  obtain ⟨u, r, e2, hu, h2⟩ := hg v hv p h1.ok
  exact ⟨u, r, by show (f q).bind _ = _; rw [e1]; exact e2, hu, h1.trans h2⟩
theorem Took.bind {P : α → Prop} {Q : β → Prop} {R : α → Int → Prop} {S : α → β → Int → Prop} {f : CS → Option (α × CS)} {g : α → CS → Option (β × CS)} (hf : Good P f) (hg : ∀ v, P v → Good Q (g v)) (kf : Took R f) (kg : ∀ v, P v → Took (S v) (g v)) : Took (fun u k => ∃ v i j, R v i ∧ S v u j ∧ k = i + j) (fun q => (f q).bind fun p => g p.1 p.2) := fun q u r h e hc => by
  obtain ⟨v, p, e1, hv, h1⟩ := hf q h
  have e : (f q).bind _ = some (u, r) := e
  rw [e1] at e
  have e : g v p = some (u, r) := e
  obtain ⟨u2, r2, e2, _, h2⟩ := hg v hv p h1.ok
  rw [e2] at e
  obtain ⟨rfl, rfl⟩ := Prod.mk.inj (Option.some.inj e)
  exact ⟨v, p.at_ - q.at_, r2.at_ - p.at_, kf q v p h e1 (h2.zero h1.ok hc), kg v hv p u2 r2 h1.ok e2 hc, by omega⟩
theorem Took.weak {R S : α → Int → Prop} {f : CS → Option (α × CS)} (h : Took R f) (k : ∀ v i, R v i → S v i) : Took S f := fun q v p o e c => k _ _ (h q v p o e c)
theorem Lock.bind {P : α → Prop} {Q : β → Prop} {f : CS → Option (α × CS)} {g : α → CS → Option (β × CS)} (hf : Lock P f) (hg : ∀ v, P v → Good Q (g v)) (hl : ∀ v, P v → Lock Q (g v)) : Lock Q (fun q => (f q).bind fun p => g p.1 p.2) := fun t q q' h h' hs => by
  obtain ⟨v, v', p, p', e1, e2, hv, hv', o1, o2, es, hc⟩ := hf t q q' h h' hs
  rcases hc with ⟨hs2, rfl⟩ | hoff
  · obtain ⟨u, u', r, r', a1, a2, b1, b2, a3, a4, a5, a6⟩ := hl v hv t p p' o1 o2 hs2
    exact ⟨u, u', r, r', by show (f q).bind _ = _; rw [e1]; exact a1, by show (f q').bind _ = _; rw [e2]; exact a2, b1, b2, a3, a4, a5.trans es, a6⟩
  · obtain ⟨u, r, a1, hu, a2⟩ := hg v hv p o1
    obtain ⟨u', r', b1, hu', b2⟩ := hg v' hv' p' o2
    exact ⟨u, u', r, r', by show (f q).bind _ = _; rw [e1]; exact a1, by show (f q').bind _ = _; rw [e2]; exact b1, hu, hu', a2.ok, b2.ok, a2.s.trans es, .inr (hoff.goes a2 b2)⟩
/-- All three at once. -/
structure Step (P : α → Prop) (R : α → Int → Prop) (f : CS → Option (α × CS)) : Prop where
  good : Good P f
  took : Took R f
  lock : Lock P f
theorem Step.pure {P : α → Prop} (v : α) (hv : P v) : Step P (fun u k => u = v ∧ k = 0) (fun q => some (v, q)) := ⟨Good.pure v hv, Took.pure v, Lock.pure v hv⟩
theorem Step.bind {P : α → Prop} {Q : β → Prop} {R : α → Int → Prop} {S : α → β → Int → Prop} {f : CS → Option (α × CS)} {g : α → CS → Option (β × CS)} (hf : Step P R f) (hg : ∀ v, P v → Step Q (S v) (g v)) : Step Q (fun u k => ∃ v i j, R v i ∧ S v u j ∧ k = i + j) (fun q => (f q).bind fun p => g p.1 p.2) :=
  ⟨hf.good.bind (fun v h => (hg v h).good), Took.bind hf.good (fun v h => (hg v h).good) hf.took (fun v h => (hg v h).took), hf.lock.bind (fun v h => (hg v h).good) (fun v h => (hg v h).lock)⟩
theorem Step.weak {P P' : α → Prop} {R S : α → Int → Prop} {f : CS → Option (α × CS)} (h : Step P R f) (k : ∀ v, P v → P' v) (k2 : ∀ v i, R v i → S v i) : Step P' S f :=
  ⟨fun q o => by obtain ⟨v, p, e, hv, g⟩ := h.good q o; exact ⟨v, p, e, k v hv, g⟩, h.took.weak k2, fun t q q' o o' hs => by
    obtain ⟨v, v', p, p', a, b, c, d, e⟩ := h.lock t q q' o o' hs
    exact ⟨v, v', p, p', a, b, k v c, k v' d, e⟩⟩
theorem Step.to {P : α → Prop} {R : α → Int → Prop} {f g : CS → Option (α × CS)} (h : Step P R f) (e : g = f) : Step P R g := e ▸ h
theorem map_step {P : α → Prop} {R : α → Int → Prop} {f : CS → Option (α × CS)} (h : Step P R f) (m : α → β) {Q : β → Prop} {S : β → Int → Prop} (hq : ∀ v, P v → Q (m v)) (hs : ∀ v k, R v k → S (m v) k) : Step Q S (fun q => (f q).map fun p => (m p.1, p.2)) := by
  have k := (h.bind (g := fun v q => some (m v, q)) (Q := Q) (S := fun v u k => u = m v ∧ k = 0) (fun v hv => Step.pure (m v) (hq v hv))).weak (fun _ h => h) (S := S) (fun u k h => by
    obtain ⟨v, i, j, a, ⟨rfl, rfl⟩, rfl⟩ := h
    rw [Int.add_zero]
    exact hs v i a)
  refine k.to ?_
  funext q
  cases f q <;> rfl
end
theorem rdB_e {s : ByteArray} {p e n : Int} (he : e ≠ 0) : rdB s p e n = (⟨#[]⟩, p, e) := if_pos he
theorem rdB_m {s : ByteArray} {p n : Int} (hn : 0 ≤ n) (hl : n > (s.size : Int) - p) : rdB s p 0 n = (⟨#[]⟩, p, 2) := by
  unfold rdB
  rw [if_neg (by decide), if_neg (by omega), if_pos hl]
theorem rdB_i {s : ByteArray} {p n : Int} (hn : 0 ≤ n) (hl : ¬ n > (s.size : Int) - p) : rdB s p 0 n = (s.extract p.toNat (p + n).toNat, p + n, 0) := by
  unfold rdB
  rw [if_neg (by decide), if_neg (by omega), if_neg hl]
def afterR (q : CS) (r : ByteArray × Int × Int) : CS := ⟨q.s, r.2.1, r.2.2⟩
theorem rd_goes (q : CS) (n : Int) (hn : 0 ≤ n) (h : Ok q) : Goes q (afterR q (rdB q.s q.at_ q.ce n)) := by
  obtain ⟨s, p, e⟩ := q
  obtain ⟨k1, k2, k3, k4⟩ := h
  by_cases hc : e = 0
  · subst hc
    by_cases hl : n > (s.size : Int) - p
    · show Goes _ (afterR _ (rdB s p 0 n))
      rw [rdB_m hn hl]
      exact ⟨⟨k1, k2, k3, .inr rfl⟩, rfl, fun a => absurd (show (0 : Int) = 2 from a) (by decide), fun L u => .inl (show (2 : Int) ≠ 0 by decide)⟩
    · show Goes _ (afterR _ (rdB s p 0 n))
      rw [rdB_i hn hl]
      have k2 : 0 ≤ p := k2
      refine ⟨⟨k1, show 0 ≤ p + n by omega, show p + n ≤ (s.size : Int) by omega, .inl rfl⟩, rfl, fun a => absurd (show (0 : Int) = 2 from a) (by decide), fun L u => ?_⟩
      rcases u with u | u
      · exact absurd rfl u
      · have u : L < p := u
        exact .inr (show L < p + n by omega)
  · show Goes _ (afterR _ (rdB s p e n))
    rw [rdB_e hc]
    exact ⟨⟨k1, k2, k3, k4⟩, rfl, fun a => a, fun L u => u⟩
theorem ext_left (s t : ByteArray) (a b : Nat) (h : b ≤ s.size) : (s ++ t).extract a b = s.extract a b := by
  apply ByteArray.ext
  rw [ByteArray.data_extract, ByteArray.data_extract, ByteArray.data_append]
  apply Array.toList_inj.mp
  have h : b ≤ s.data.toList.length := by rw [Array.length_toList]; exact h
  simp only [Array.toList_extract, Array.toList_append, List.extract_eq_take_drop]
  rcases Nat.le_total a b with hab | hab
  · rw [List.drop_append_of_le_length (by omega), List.take_append_of_le_length (by rw [List.length_drop]; omega)]
  · rw [Nat.sub_eq_zero_of_le hab, List.take_zero, List.take_zero]
theorem rd_lock (t : ByteArray) (q q' : CS) (n : Int) (hn : 0 ≤ n) (h : Ok q) (h' : Ok q') (hs : Sync t q q') :
    (Sync t (afterR q (rdB q.s q.at_ q.ce n)) (afterR q' (rdB q'.s q'.at_ q'.ce n)) ∧ (rdB q.s q.at_ q.ce n).1 = (rdB q'.s q'.at_ q'.ce n).1) ∨ Off (afterR q (rdB q.s q.at_ q.ce n)) (afterR q' (rdB q'.s q'.at_ q'.ce n)) := by
  obtain ⟨s, p, e⟩ := q
  obtain ⟨s', p', e'⟩ := q'
  obtain ⟨s1, s2, s3, s4⟩ := hs
  obtain ⟨k1, k2, k3, k4⟩ := h
  have s1 : s' = s ++ t := s1
  have s2 : p' = p := s2
  have s3 : e = 0 := s3
  have s4 : e' = 0 := s4
  have k2 : 0 ≤ p := k2
  have k3 : p ≤ (s.size : Int) := k3
  subst s1 s2 s3 s4
  have hz : (s ++ t).size = s.size + t.size := ByteArray.size_append
  show (Sync t (afterR _ (rdB s p' 0 n)) (afterR _ (rdB (s ++ t) p' 0 n)) ∧ (rdB s p' 0 n).1 = (rdB (s ++ t) p' 0 n).1) ∨ Off (afterR _ (rdB s p' 0 n)) (afterR _ (rdB (s ++ t) p' 0 n))
  by_cases hl : n > (s.size : Int) - p'
  · rw [rdB_m hn hl]
    refine .inr ⟨rfl, ?_⟩
    by_cases hl2 : n > ((s ++ t).size : Int) - p'
    · rw [rdB_m hn hl2]; exact .inl (show (2 : Int) ≠ 0 by decide)
    · rw [rdB_i hn hl2]; exact .inr (show (s.size : Int) < p' + n by omega)
  · rw [rdB_i hn hl, rdB_i hn (by rw [hz]; omega)]
    refine .inl ⟨⟨rfl, rfl, rfl, rfl⟩, ?_⟩
    show s.extract _ _ = (s ++ t).extract _ _
    rw [ext_left s t _ _ (by omega)]
/-- What is told of the bytes that are read: none, where it is too late. -/
theorem rd_took (q : CS) (n : Int) (hn : 0 ≤ n) (h : Ok q) (hc : (afterR q (rdB q.s q.at_ q.ce n)).ce = 0) : ((rdB q.s q.at_ q.ce n).1.size : Int) = n ∧ (afterR q (rdB q.s q.at_ q.ce n)).at_ - q.at_ = n := by
  obtain ⟨s, p, e⟩ := q
  obtain ⟨k1, k2, k3, k4⟩ := h
  have k2 : 0 ≤ p := k2
  have k3 : p ≤ (s.size : Int) := k3
  have hc : (rdB s p e n).2.2 = 0 := hc
  show ((rdB s p e n).1.size : Int) = n ∧ (rdB s p e n).2.1 - p = n
  by_cases he : e = 0
  · subst he
    by_cases hl : n > (s.size : Int) - p
    · rw [rdB_m hn hl] at hc
      exact absurd hc (show ¬ ((2 : Int) = 0) by decide)
    · rw [rdB_i hn hl]
      refine ⟨?_, by show p + n - p = n; omega⟩
      show ((s.extract p.toNat (p + n).toNat).size : Int) = n
      rw [ByteArray.size_extract]
      omega
  · rw [rdB_e he] at hc
    exact absurd hc he
/-- And where it is too late there are none. -/
theorem rd_none (q : CS) (n : Int) (hn : 0 ≤ n) (h : Ok q) (hc : (afterR q (rdB q.s q.at_ q.ce n)).ce ≠ 0) : (rdB q.s q.at_ q.ce n).1 = ⟨#[]⟩ := by
  obtain ⟨s, p, e⟩ := q
  obtain ⟨k1, k2, k3, k4⟩ := h
  have hc : (rdB s p e n).2.2 ≠ 0 := hc
  show (rdB s p e n).1 = _
  by_cases he : e = 0
  · subst he
    by_cases hl : n > (s.size : Int) - p
    · rw [rdB_m hn hl]
    · rw [rdB_i hn hl] at hc
      exact absurd rfl hc
  · rw [rdB_e he]
theorem asked_e {n : Int} (hn : n = 1 ∨ n = 2 ∨ n = 4) (e : Int) : asked e n = e := by unfold asked; rw [if_neg (fun h => h.2 hn)]
theorem intC_eq (q : CS) (n : Int) (hn : n = 1 ∨ n = 2 ∨ n = 4) (h : Ok q) : intC q n = some (beN (bytesOf (rdB q.s q.at_ q.ce n).1), afterR q (rdB q.s q.at_ q.ce n)) := by
  obtain ⟨k1, k2, k3, _⟩ := h
  unfold intC
  rw [Int_f q.s q.at_ q.ce n k1 k2 k3, asked_e hn]
  rfl
theorem bytesC_eq (q : CS) (n : Int) (h : Ok q) : bytesC q n = some ((rdB q.s q.at_ q.ce n).1, afterR q (rdB q.s q.at_ q.ce n)) := by
  obtain ⟨k1, k2, k3, _⟩ := h
  unfold bytesC
  rw [Bytes_f q.s q.at_ q.ce n k1 k2 k3]
  rfl
theorem signedC_eq (q : CS) (h : Ok q) : signedC q = some (wrap64 (wrap32 (beN (bytesOf (rdB q.s q.at_ q.ce 4).1))), afterR q (rdB q.s q.at_ q.ce 4)) := by
  obtain ⟨k1, k2, k3, _⟩ := h
  unfold signedC octets_Cursor_Signed.f
  rw [Int_f q.s q.at_ q.ce 4 k1 k2 k3, asked_e (.inr (.inr rfl))]
  rfl
theorem beN_nn (l : List Int) (h : ∀ x ∈ l, 0 ≤ x ∧ x < 256) : 0 ≤ beN l := by
  have key : ∀ (l : List Int) (a : Int), 0 ≤ a → (∀ x ∈ l, 0 ≤ x ∧ x < 256) → 0 ≤ l.foldl (fun a x => a * 256 + x) a := by
    intro l
    induction l with
    | nil => intro a ha _; exact ha
    | cons y l ih => intro a ha hl; exact ih (a * 256 + y) (by have := (hl y (List.mem_cons_self ..)).1; omega) (fun x hx => hl x (List.mem_cons_of_mem _ hx))
  exact key l 0 (Int.le_refl _) h
theorem val_ok (q : CS) (n : Int) (h : Ok q) : 0 ≤ beN (bytesOf (rdB q.s q.at_ q.ce n).1) ∧ (n = 1 → beN (bytesOf (rdB q.s q.at_ q.ce n).1) ≤ 255) := by
  refine ⟨beN_nn _ (fun x hx => bytes_range _ x hx), fun h1 => ?_⟩
  subst h1
  have hz := rdB_size q.s q.at_ q.ce 1 h.2.1 h.2.2.1
  generalize (rdB q.s q.at_ q.ce 1).1 = b at *
  have hl : (bytesOf b).length ≤ 1 := by rw [bytesOf_length]; omega
  have hr := bytes_range b
  generalize bytesOf b = l at *
  match l, hl with
  | [], _ => simp [beN]
  | [x], _ => have := hr x (by simp); simp [beN]; omega
  | _ :: _ :: _, hl => simp at hl
theorem rdB_small (q : CS) (n : Int) (hn : 0 ≤ n) (h : Ok q) : (rdB q.s q.at_ q.ce n).1.size ≤ 4611686018427387904 := by
  by_cases hc : (afterR q (rdB q.s q.at_ q.ce n)).ce = 0
  · have h1 := rd_took q n hn h hc
    have h2 := (rd_goes q n hn h).ok
    have h3 : (afterR q (rdB q.s q.at_ q.ce n)).at_ ≤ (q.s.size : Int) := h2.2.2.1
    have := h.1
    have := h.2.1
    omega
  · rw [rd_none q n hn h hc]; decide
theorem beN_fits {n : Int} (hn : n = 1 ∨ n = 2 ∨ n = 4) (b : ByteArray) (hb : (b.size : Int) = n) : fits n (beN (bytesOf b)) := by
  have hl : ((bytesOf b).length : Int) = n := by rw [bytesOf_length]; exact hb
  have hr := bytes_range b
  generalize bytesOf b = l at *
  rcases hn with rfl | rfl | rfl
  · match l, hl with
    | [x], _ => have := hr x (by simp); exact .inl ⟨rfl, by simp [beN]; omega⟩
  · match l, hl with
    | [x, y], _ => have := hr x (by simp); have := hr y (by simp); exact .inr (.inl ⟨rfl, by simp [beN]; omega⟩)
  · match l, hl with
    | [x, y, z, u], _ => have := hr x (by simp); have := hr y (by simp); have := hr z (by simp); have := hr u (by simp); exact .inr (.inr ⟨rfl, by simp [beN]; omega⟩)
theorem int_step (n : Int) (hn : n = 1 ∨ n = 2 ∨ n = 4) : Step (fun v => 0 ≤ v) (fun v k => fits n v ∧ k = n) (fun q => intC q n) :=
  ⟨fun q h => ⟨_, _, intC_eq q n hn h, (val_ok q n h).1, rd_goes q n (by omega) h⟩, fun q v p h e hc => by
    rw [intC_eq q n hn h] at e
    obtain ⟨rfl, rfl⟩ := Prod.mk.inj (Option.some.inj e)
    obtain ⟨a, b⟩ := rd_took q n (by omega) h hc
    exact ⟨beN_fits hn _ a, b⟩, fun t q q' h h' hs => ⟨_, _, _, _, intC_eq q n hn h, intC_eq q' n hn h', (val_ok q n h).1, (val_ok q' n h').1, (rd_goes q n (by omega) h).ok, (rd_goes q' n (by omega) h').ok, rfl, (rd_lock t q q' n (by omega) h h' hs).imp (fun ⟨a, b⟩ => ⟨a, by rw [b]⟩) id⟩⟩
theorem bytes_step (n : Int) (hn : 0 ≤ n) : Step (fun v => v.size ≤ 4611686018427387904) (fun v k => (v.size : Int) = n ∧ k = n) (fun q => bytesC q n) :=
  ⟨fun q h => ⟨_, _, bytesC_eq q n h, rdB_small q n hn h, rd_goes q n hn h⟩, fun q v p h e hc => by
    rw [bytesC_eq q n h] at e
    obtain ⟨rfl, rfl⟩ := Prod.mk.inj (Option.some.inj e)
    exact rd_took q n hn h hc, fun t q q' h h' hs => ⟨_, _, _, _, bytesC_eq q n h, bytesC_eq q' n h', rdB_small q n hn h, rdB_small q' n hn h', (rd_goes q n hn h).ok, (rd_goes q' n hn h').ok, rfl, rd_lock t q q' n hn h h' hs⟩⟩
theorem wrap32_range (x : Int) : -2147483648 ≤ wrap64 (wrap32 x) ∧ wrap64 (wrap32 x) ≤ 2147483647 := by unfold wrap64 wrap32; omega
theorem signed_step : Step Any (fun v k => (-2147483648 ≤ v ∧ v ≤ 2147483647) ∧ k = 4) (fun q => signedC q) :=
  ⟨fun q h => ⟨_, _, signedC_eq q h, trivial, rd_goes q 4 (by decide) h⟩, fun q v p h e hc => by
    rw [signedC_eq q h] at e
    obtain ⟨rfl, rfl⟩ := Prod.mk.inj (Option.some.inj e)
    exact ⟨wrap32_range _, (rd_took q 4 (by decide) h hc).2⟩, fun t q q' h h' hs => ⟨_, _, _, _, signedC_eq q h, signedC_eq q' h', trivial, trivial, (rd_goes q 4 (by decide) h).ok, (rd_goes q' 4 (by decide) h').ok, rfl, (rd_lock t q q' 4 (by decide) h h' hs).imp (fun ⟨a, b⟩ => ⟨a, by rw [b]⟩) id⟩⟩
end Go.Proofs.Ytclikkhkhoicfaa.H

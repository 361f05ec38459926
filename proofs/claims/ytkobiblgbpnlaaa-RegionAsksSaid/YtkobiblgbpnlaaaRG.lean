/- Regions as rectangles in bands, in the one form: plain lists of whole numbers. No condition. -/
import Derived.Lib.SlicesCompact
namespace Go.Proofs.Ytkobiblgbpnlaaa.RG
set_option linter.unusedVariables false
set_option linter.unusedSectionVars false
set_option linter.unusedSimpArgs false
section
variable {β : Type} [DecidableEq β]
/-- What lies at a place. -/
def val (e : β) : List (Int × Int × β) → Int → β
  | [], _ => e
  | (a, b, v) :: l, y => if a ≤ y ∧ y < b then v else val e l y
theorem val_cons (e : β) (a b : Int) (v : β) (l : List (Int × Int × β)) (y : Int) : val e ((a, b, v) :: l) y = if a ≤ y ∧ y < b then v else val e l y := rfl
/-- The one form, from lo on: none empty, rising, none touches an equal one. -/
def NF (e : β) : Int → List (Int × Int × β) → Prop
  | _, [] => True
  | lo, (a, b, v) :: l => lo ≤ a ∧ a < b ∧ v ≠ e ∧ NF e b l ∧ (∀ d l', l = (b, d, v) :: l' → False)
theorem NF.weaken {e : β} {lo lo' : Int} {l : List (Int × Int × β)} (h : NF e lo l) (hl : lo' ≤ lo) : NF e lo' l := by
  cases l with
  | nil => trivial
  | cons p l => obtain ⟨a, b, v⟩ := p; exact ⟨Int.le_trans hl h.1, h.2⟩
theorem val_below {e : β} : ∀ {l : List (Int × Int × β)} {lo y : Int}, NF e lo l → y < lo → val e l y = e
  | [], _, _, _, _ => rfl
  | (a, b, v) :: l, lo, y, h, hy => by
    have h1 := h.1
    have h2 := h.2.1
    simp only [val]
    rw [if_neg (by omega)]
    exact val_below h.2.2.2.1 (by omega)
theorem nf_unique {e : β} : ∀ (l m : List (Int × Int × β)) (lo lo' : Int), NF e lo l → NF e lo' m → (∀ y, val e l y = val e m y) → l = m
  | [], [], _, _, _, _, _ => rfl
  | [], (a, b, v) :: m, _, _, _, h, he => by
    have h1 := he a
    have h2 := h.2.1
    simp only [val] at h1
    rw [if_pos (by omega)] at h1
    exact absurd h1.symm h.2.2.1
  | (a, b, v) :: l, [], _, _, h, _, he => by
    have h1 := he a
    have h2 := h.2.1
    simp only [val] at h1
    rw [if_pos (by omega)] at h1
    exact absurd h1 h.2.2.1
  | (a, b, v) :: l, (c, d, u) :: m, lo, lo', hl, hm, he => by
    obtain ⟨l1, l2, l3, l4, l5⟩ := hl
    obtain ⟨m1, m2, m3, m4, m5⟩ := hm
    have hac : a = c := by
      rcases Int.lt_trichotomy a c with h | h | h
      · have h1 := he a
        simp only [val] at h1
        rw [if_pos (by omega), if_neg (by omega), val_below m4 (by omega)] at h1
        exact absurd h1 l3
      · exact h
      · have h1 := he c
        simp only [val] at h1
        rw [if_neg (by omega), if_pos (by omega), val_below l4 (by omega)] at h1
        exact absurd h1.symm m3
    subst hac
    have hvu : v = u := by
      have h1 := he a
      simp only [val] at h1
      rw [if_pos (by omega), if_pos (by omega)] at h1
      exact h1
    subst hvu
    have key : ∀ (p q : Int) (r s : List (Int × Int × β)), p < q → a ≤ p → NF e p r → (∀ d l', r = (p, d, v) :: l' → False) → val e r p = v → False := by
      intro p q r s hpq hap hr hn hv
      cases r with
      | nil => exact l3 hv.symm
      | cons t r =>
        obtain ⟨c, d', u⟩ := t
        obtain ⟨r1, r2, r3, r4, r5⟩ := hr
        simp only [val] at hv
        by_cases hc : c ≤ p ∧ p < d'
        · rw [if_pos hc] at hv
          subst hv
          have : c = p := by omega
          subst this
          exact hn _ _ rfl
        · rw [if_neg hc, val_below r4 (by omega)] at hv
          exact l3 hv.symm
    have hbd : b = d := by
      rcases Int.lt_trichotomy b d with h | h | h
      · have h1 := he b
        simp only [val] at h1
        rw [if_neg (by omega), if_pos (by omega)] at h1
        exact (key b d l m h (by omega) l4 l5 h1).elim
      · exact h
      · have h1 := he d
        simp only [val] at h1
        rw [if_pos (by omega), if_neg (by omega)] at h1
        exact (key d b m l h (by omega) m4 m5 h1.symm).elim
    subst hbd
    have ht := nf_unique l m b b l4 m4 (fun y => by
      by_cases hy : y < b
      · rw [val_below l4 hy, val_below m4 hy]
      · have h1 := he y
        simp only [val] at h1
        rw [if_neg (by omega), if_neg (by omega)] at h1
        exact h1)
    rw [ht]
/-- Where the last one ends, or lo. -/
def endOf (lo : Int) : List (Int × Int × β) → Int
  | [] => lo
  | (_, b, _) :: l => endOf b l
/-- One piece more. -/
def push (e : β) : List (Int × Int × β) → Int → Int → β → List (Int × Int × β)
  | [], a, b, v => if v = e then [] else [(a, b, v)]
  | [(c, d, u)], a, b, v => if v = e then [(c, d, u)] else if d = a ∧ u = v then [(c, b, v)] else [(c, d, u), (a, b, v)]
  | p :: q :: l, a, b, v => p :: push e (q :: l) a b v
theorem endOf_le {e : β} : ∀ {l : List (Int × Int × β)} {lo : Int}, NF e lo l → lo ≤ endOf lo l
  | [], lo, _ => Int.le_refl _
  | (a, b, v) :: l, lo, h => by
    have := endOf_le h.2.2.2.1
    have h1 := h.1
    have h2 := h.2.1
    simp only [endOf]
    omega
theorem push_spec {e : β} : ∀ (l : List (Int × Int × β)) (lo a b : Int) (v : β), NF e lo l → endOf lo l ≤ a → lo ≤ a → a < b →
    NF e lo (push e l a b v) ∧ endOf lo (push e l a b v) ≤ b ∧ (∀ y, val e (push e l a b v) y = if a ≤ y ∧ y < b then v else val e l y) ∧ (∀ c d u l', push e l a b v = (c, d, u) :: l' → l ≠ [] → ∃ d' l'', l = (c, d', u) :: l'')
  | [], lo, a, b, v, h, he, hlo, hab => by
    simp only [push]
    by_cases hv : v = e
    · rw [if_pos hv]
      refine ⟨trivial, by simp only [endOf]; omega, fun y => by simp only [val]; split <;> simp [hv], fun c d u l' h => by cases h⟩
    · rw [if_neg hv]
      exact ⟨⟨hlo, hab, hv, trivial, fun d l' h => by cases h⟩, by simp only [endOf]; omega, fun y => rfl, fun c d u l' h hn => absurd rfl hn⟩
  | [(c, d, u)], lo, a, b, v, h, he, hlo, hab => by
    obtain ⟨h1, h2, h3, _, _⟩ := h
    simp only [endOf] at he
    simp only [push]
    by_cases hv : v = e
    · rw [if_pos hv]
      refine ⟨⟨h1, h2, h3, trivial, fun d l' h => by cases h⟩, by simp only [endOf]; omega, fun y => ?_, fun c' d' u' l' h _ => by cases h; exact ⟨_, _, rfl⟩⟩
      simp only [val]
      by_cases hy : a ≤ y ∧ y < b
      · rw [if_pos hy, if_neg (by omega), hv]
      · rw [if_neg hy]
    · rw [if_neg hv]
      by_cases hc : d = a ∧ u = v
      · obtain ⟨rfl, rfl⟩ := hc
        rw [if_pos ⟨rfl, rfl⟩]
        refine ⟨⟨h1, by omega, h3, trivial, fun d l' h => by cases h⟩, by simp only [endOf]; omega, fun y => ?_, fun c' d' u' l' h _ => by cases h; exact ⟨_, _, rfl⟩⟩
        simp only [val]
        by_cases hy : d ≤ y ∧ y < b
        · rw [if_pos hy, if_pos (by omega)]
        · rw [if_neg hy]
          by_cases hy2 : c ≤ y ∧ y < d
          · rw [if_pos hy2, if_pos (by omega)]
          · rw [if_neg hy2, if_neg (by omega)]
      · rw [if_neg hc]
        refine ⟨⟨h1, h2, h3, ⟨he, hab, hv, trivial, fun d l' h => by cases h⟩, fun d' l' h => ?_⟩, by simp only [endOf]; omega, fun y => ?_, fun c' d' u' l' h _ => by cases h; exact ⟨_, _, rfl⟩⟩
        · simp only [List.cons.injEq, Prod.mk.injEq] at h
          exact hc ⟨h.1.1.symm, h.1.2.2.symm⟩
        · simp only [val]
          by_cases hy : a ≤ y ∧ y < b
          · rw [if_neg (by omega), if_pos hy, if_pos hy]
          · rw [if_neg hy, if_neg hy]
  | (c, d, u) :: q :: l, lo, a, b, v, h, he, hlo, hab => by
    obtain ⟨h1, h2, h3, h4, h5⟩ := h
    have hle := endOf_le h4
    obtain ⟨k1, k2, k3, k4⟩ := push_spec (q :: l) d a b v h4 he (by
      have : endOf d (q :: l) ≤ a := he
      omega) hab
    simp only [push]
    refine ⟨⟨h1, h2, h3, k1, fun d' l' hh => ?_⟩, k2, fun y => ?_, fun c' d' u' l' h _ => by cases h; exact ⟨_, _, rfl⟩⟩
    · obtain ⟨d'', l'', hq⟩ := k4 _ _ _ _ hh (by simp)
      exact h5 d'' l'' hq
    · rw [val_cons, val_cons]
      have he' : endOf d (q :: l) ≤ a := he
      by_cases hy : c ≤ y ∧ y < d
      · rw [if_pos hy, if_neg (by omega), if_pos hy]
      · rw [if_neg hy, if_neg hy]
        exact k3 y
end
abbrev Rect := Int × Int × Int × Int
abbrev Span := Int × Int
/-- Each two numbers of a row that stand side by side. -/
def pairs : List Int → List (Int × Int)
  | a :: b :: l => (a, b) :: pairs (b :: l)
  | _ => []
/-- Rising. -/
def Rise : List Int → Prop
  | a :: b :: l => a < b ∧ Rise (b :: l)
  | _ => True
def lastOf (lo : Int) : List Int → Int
  | [] => lo
  | a :: l => lastOf a l
theorem Rise.tail {a : Int} {l : List Int} (h : Rise (a :: l)) : Rise l := by
  cases l with
  | nil => trivial
  | cons b l => exact h.2
theorem lastOf_ge : ∀ {l : List Int} {a : Int}, Rise (a :: l) → a ≤ lastOf a l
  | [], a, _ => Int.le_refl _
  | b :: l, a, h => Int.le_trans (Int.le_of_lt h.1) (lastOf_ge h.2)
section
variable {β : Type} [DecidableEq β]
def pushAll (e : β) (f : Int → β) (acc : List (Int × Int × β)) (ps : List (Int × Int)) : List (Int × Int × β) := ps.foldl (fun l p => push e l p.1 p.2 (f p.1)) acc
theorem pushAll_spec (e : β) (f g : Int → β) : ∀ (L : List Int) (a lo : Int) (acc : List (Int × Int × β)), Rise (a :: L) → NF e lo acc → endOf lo acc ≤ a → lo ≤ a →
    (∀ p ∈ pairs (a :: L), ∀ y, p.1 ≤ y → y < p.2 → g y = f p.1) →
    NF e lo (pushAll e f acc (pairs (a :: L))) ∧ endOf lo (pushAll e f acc (pairs (a :: L))) ≤ lastOf a L ∧ ∀ y, val e (pushAll e f acc (pairs (a :: L))) y = if a ≤ y ∧ y < lastOf a L then g y else val e acc y
  | [], a, lo, acc, hr, hn, he, hl, hg => ⟨hn, he, fun y => by rw [if_neg (by simp only [lastOf]; omega)]; rfl⟩
  | b :: L, a, lo, acc, hr, hn, he, hl, hg => by
    obtain ⟨h1, h2, h3, _⟩ := push_spec acc lo a b (f a) hn he hl hr.1
    have hab := hr.1
    have hbl : b ≤ lastOf b L := lastOf_ge hr.2
    obtain ⟨k1, k2, k3⟩ := pushAll_spec e f g L b lo (push e acc a b (f a)) hr.2 h1 h2 (by omega) (fun p hp y h4 h5 => hg p (List.mem_cons_of_mem _ hp) y h4 h5)
    refine ⟨k1, k2, fun y => ?_⟩
    have e1 := k3 y
    have e2 := h3 y
    show val e (pushAll e f (push e acc a b (f a)) (pairs (b :: L))) y = if a ≤ y ∧ y < lastOf b L then g y else val e acc y
    rw [e1, e2]
    by_cases c1 : b ≤ y ∧ y < lastOf b L
    · rw [if_pos c1, if_pos (by omega)]
    · rw [if_neg c1]
      by_cases c2 : a ≤ y ∧ y < b
      · rw [if_pos c2, if_pos (by omega), hg (a, b) (List.mem_cons_self ..) y c2.1 c2.2]
      · rw [if_neg c2, if_neg (by omega)]
/-- No number of a rising row lies between two that stand side by side. -/
theorem pairs_gap : ∀ {L : List Int} {a : Int}, Rise (a :: L) → ∀ p ∈ pairs (a :: L), a ≤ p.1 ∧ p.1 < p.2 ∧ p.1 ∈ a :: L ∧ p.2 ∈ a :: L ∧ ∀ z ∈ a :: L, z ≤ p.1 ∨ p.2 ≤ z
  | [], a, _, p, hp => by simp [pairs] at hp
  | b :: L, a, h, p, hp => by
    have hmin : ∀ {M : List Int} {c : Int}, Rise (c :: M) → ∀ z ∈ c :: M, c ≤ z := by
      intro M
      induction M with
      | nil => intro c _ z hz; rw [List.mem_singleton.1 hz]; exact Int.le_refl _
      | cons d M ih =>
        intro c hc z hz
        rcases List.mem_cons.1 hz with rfl | hz
        · exact Int.le_refl _
        · exact Int.le_trans (Int.le_of_lt hc.1) (ih hc.2 z hz)
    rcases List.mem_cons.1 hp with rfl | hp
    · refine ⟨Int.le_refl _, h.1, by simp, by simp, fun z hz => ?_⟩
      rcases List.mem_cons.1 hz with rfl | hz
      · exact .inl (Int.le_refl _)
      · exact .inr (hmin h.2 z hz)
    · obtain ⟨q1, q2, q3, q4, q5⟩ := pairs_gap h.2 p hp
      have := h.1
      refine ⟨by omega, q2, List.mem_cons_of_mem _ q3, List.mem_cons_of_mem _ q4, fun z hz => ?_⟩
      rcases List.mem_cons.1 hz with rfl | hz
      · exact .inl (by omega)
      · exact q5 z hz
theorem rise_min : ∀ {L : List Int} {a : Int}, Rise (a :: L) → ∀ z ∈ a :: L, a ≤ z ∧ z ≤ lastOf a L
  | [], a, _, z, hz => by rw [List.mem_singleton.1 hz]; exact ⟨Int.le_refl _, Int.le_refl _⟩
  | b :: L, a, h, z, hz => by
    have hab := h.1
    have hb := rise_min h.2 b (List.mem_cons_self ..)
    show a ≤ z ∧ z ≤ lastOf b L
    rcases List.mem_cons.1 hz with rfl | hz
    · omega
    · have := rise_min h.2 z hz; omega
end
/-! Rows. -/
def inn (l : List Span) (x : Int) : Bool := l.any fun s => decide (s.1 ≤ x) && decide (x < s.2)
def ends (l : List Span) : List Int := l.flatMap fun s => [s.1, s.2]
/-- L has just the numbers of M, each once, as they rise. -/
def Sorted (M L : List Int) : Prop := Rise L ∧ ∀ z, z ∈ L ↔ z ∈ M
abbrev Row := List (Int × Int × Bool)
def rowF (keep : Bool → Bool → Bool) (a b : List Span) (L : List Int) : Row := pushAll false (fun x => keep (inn a x) (inn b x)) [] (pairs L)
theorem inn_same {l : List Span} {f t x : Int} (hx : f ≤ x) (ht : x < t) (hg : ∀ z ∈ ends l, z ≤ f ∨ t ≤ z) : inn l x = inn l f := by
  unfold inn
  apply Bool.eq_iff_iff.2
  simp only [List.any_eq_true, Bool.and_eq_true, decide_eq_true_eq]
  constructor
  · rintro ⟨s, hs, h1, h2⟩
    refine ⟨s, hs, ?_, by omega⟩
    have := hg s.1 (List.mem_flatMap.2 ⟨s, hs, by simp⟩)
    omega
  · rintro ⟨s, hs, h1, h2⟩
    refine ⟨s, hs, by omega, ?_⟩
    have := hg s.2 (List.mem_flatMap.2 ⟨s, hs, by simp⟩)
    omega
theorem inn_out {l : List Span} {x : Int} (h : ∀ s ∈ l, x < s.1 ∨ s.2 ≤ x) : inn l x = false := by
  unfold inn
  rw [List.any_eq_false]
  intro s hs
  have := h s hs
  simp only [Bool.and_eq_true, decide_eq_true_eq]
  omega
theorem row_gen (keep : Bool → Bool → Bool) (hk : keep false false = false) (a b : List Span) (L : List Int) (hr : Rise L) (hm : ∀ z ∈ ends (a ++ b), z ∈ L) (lo hi : Int) (hlo : ∀ z ∈ L, lo ≤ z ∧ z ≤ hi) (hlh : lo ≤ hi) :
    NF false lo (rowF keep a b L) ∧ endOf lo (rowF keep a b L) ≤ hi ∧ ∀ x, val false (rowF keep a b L) x = keep (inn a x) (inn b x) := by
  have mem1 : ∀ s ∈ a, s.1 ∈ L ∧ s.2 ∈ L := fun s hs => ⟨hm _ (List.mem_flatMap.2 ⟨s, by simp [hs], by simp⟩), hm _ (List.mem_flatMap.2 ⟨s, by simp [hs], by simp⟩)⟩
  have mem2 : ∀ s ∈ b, s.1 ∈ L ∧ s.2 ∈ L := fun s hs => ⟨hm _ (List.mem_flatMap.2 ⟨s, by simp [hs], by simp⟩), hm _ (List.mem_flatMap.2 ⟨s, by simp [hs], by simp⟩)⟩
  cases L with
  | nil =>
    refine ⟨trivial, hlh, fun x => ?_⟩
    have ha : a = [] := by
      cases a with
      | nil => rfl
      | cons s a => exact absurd (mem1 s (List.mem_cons_self ..)).1 (by simp)
    have hb : b = [] := by
      cases b with
      | nil => rfl
      | cons s b => exact absurd (mem2 s (List.mem_cons_self ..)).1 (by simp)
    rw [ha, hb]
    exact hk.symm
  | cons c L =>
    have hcm := hlo c (List.mem_cons_self ..)
    have hlast : lastOf c L ≤ hi := by
      have : ∀ (M : List Int) (d : Int), lastOf d M ∈ d :: M := by
        intro M
        induction M with
        | nil => intro d; simp [lastOf]
        | cons z M ih => intro d; exact List.mem_cons_of_mem _ (ih z)
      exact (hlo _ (this L c)).2
    obtain ⟨k1, k2, k3⟩ := pushAll_spec false (fun x => keep (inn a x) (inn b x)) (fun x => keep (inn a x) (inn b x)) L c lo [] hr trivial (by simp only [endOf]; omega) hcm.1 (fun p hp x h1 h2 => by
      obtain ⟨_, _, _, _, q5⟩ := pairs_gap hr p hp
      show keep _ _ = keep _ _
      rw [inn_same h1 h2 (fun z hz => q5 z (hm z (List.mem_flatMap.2 (by obtain ⟨s, hs, hz⟩ := List.mem_flatMap.1 hz; exact ⟨s, by simp [hs], hz⟩)))), inn_same h1 h2 (fun z hz => q5 z (hm z (List.mem_flatMap.2 (by obtain ⟨s, hs, hz⟩ := List.mem_flatMap.1 hz; exact ⟨s, by simp [hs], hz⟩))))])
    refine ⟨k1, Int.le_trans k2 hlast, fun x => ?_⟩
    have e1 := k3 x
    show val false (pushAll false _ [] (pairs (c :: L))) x = _
    rw [e1]
    by_cases hx : c ≤ x ∧ x < lastOf c L
    · rw [if_pos hx]
    · rw [if_neg hx]
      have h1 : inn a x = false := inn_out fun s hs => by
        have m1 := rise_min hr s.1 (mem1 s hs).1
        have m2 := rise_min hr s.2 (mem1 s hs).2
        omega
      have h2 : inn b x = false := inn_out fun s hs => by
        have m1 := rise_min hr s.1 (mem2 s hs).1
        have m2 := rise_min hr s.2 (mem2 s hs).2
        omega
      rw [h1, h2, hk]
      rfl
theorem row_spec (keep : Bool → Bool → Bool) (hk : keep false false = false) (a b : List Span) (L : List Int) (hL : Sorted (ends (a ++ b)) L) (lo hi : Int) (hlo : ∀ z ∈ ends (a ++ b), lo ≤ z ∧ z ≤ hi) (hlh : lo ≤ hi) :
    NF false lo (rowF keep a b L) ∧ endOf lo (rowF keep a b L) ≤ hi ∧ ∀ x, val false (rowF keep a b L) x = keep (inn a x) (inn b x) :=
  row_gen keep hk a b L hL.1 (fun z hz => (hL.2 z).2 hz) lo hi (fun z hz => hlo z ((hL.2 z).1 hz)) hlh
def Far : Int := 1048576
def near (p n : Int) : Bool := decide (-Far ≤ p) && decide (p ≤ Far) && decide (1 ≤ n) && decide (n ≤ 2 * Far) && decide (p + n ≤ Far)
def cnt (r : Rect) : Bool := near r.1 r.2.2.1 && near r.2.1 r.2.2.2
def counting (l : List Rect) : List Rect := l.filter cnt
theorem near_iff (p n : Int) : near p n = true ↔ -1048576 ≤ p ∧ p ≤ 1048576 ∧ 1 ≤ n ∧ n ≤ 2097152 ∧ p + n ≤ 1048576 := by
  unfold near Far
  simp only [Bool.and_eq_true, decide_eq_true_eq]
  omega
theorem cnt_iff (r : Rect) : cnt r = true ↔ (-1048576 ≤ r.1 ∧ r.1 ≤ 1048576 ∧ 1 ≤ r.2.2.1 ∧ r.2.2.1 ≤ 2097152 ∧ r.1 + r.2.2.1 ≤ 1048576) ∧ (-1048576 ≤ r.2.1 ∧ r.2.1 ≤ 1048576 ∧ 1 ≤ r.2.2.2 ∧ r.2.2.2 ≤ 2097152 ∧ r.2.1 + r.2.2.2 ≤ 1048576) := by
  unfold cnt
  rw [Bool.and_eq_true, near_iff, near_iff]
/-- The pieces of rectangles in a row. -/
def pieces (l : List Rect) (y : Int) : List Span := (l.filter fun r => decide (r.2.1 ≤ y) && decide (y < r.2.1 + r.2.2.2)).map fun r => (r.1, r.1 + r.2.2.1)
/-- Is a place in a set? -/
def has (l : List Rect) (x y : Int) : Bool := inn (pieces (counting l) y) x
theorem has_iff (l : List Rect) (x y : Int) : has l x y = true ↔ ∃ r ∈ l, cnt r = true ∧ r.2.1 ≤ y ∧ y < r.2.1 + r.2.2.2 ∧ r.1 ≤ x ∧ x < r.1 + r.2.2.1 := by
  unfold has inn pieces counting
  simp only [List.any_eq_true, List.mem_map, List.mem_filter, Bool.and_eq_true, decide_eq_true_eq]
  constructor
  · rintro ⟨s, ⟨r, ⟨⟨h1, h2⟩, h3, h4⟩, rfl⟩, h5, h6⟩
    exact ⟨r, h1, h2, h3, h4, h5, h6⟩
  · rintro ⟨r, h1, h2, h3, h4, h5, h6⟩
    exact ⟨_, ⟨r, ⟨⟨h1, h2⟩, h3, h4⟩, rfl⟩, h5, h6⟩
abbrev Bands := List (Int × Int × Row)
def rectsOf1 (b : Int × Int × Row) : List Rect := b.2.2.map fun s => (s.1, b.1, s.2.1 - s.1, b.2.1 - b.1)
def rectsOf (B : Bands) : List Rect := B.flatMap rectsOf1
/-- The one form: bands none empty, rising, in each the one form of a row, all within Far. -/
structure Good (B : Bands) : Prop where
  nf : NF [] (-1048576) B
  hi : endOf (-1048576) B ≤ 1048576
  rows : ∀ b ∈ B, NF false (-1048576) b.2.2 ∧ endOf (-1048576) b.2.2 ≤ 1048576
def at_ (B : Bands) (x y : Int) : Bool := val false (val [] B y) x
/-- l is the region of the set S. -/
def IsReg (l : List Rect) (S : Int → Int → Bool) : Prop := ∃ B, Good B ∧ l = rectsOf B ∧ ∀ x y, at_ B x y = S x y
theorem val_mem {β : Type} [DecidableEq β] {e : β} : ∀ {B : List (Int × Int × β)} {y : Int}, val e B y = e ∨ ∃ b ∈ B, val e B y = b.2.2
  | [], y => .inl rfl
  | (a, b, v) :: B, y => by
    rw [val_cons]
    split
    · exact .inr ⟨_, List.mem_cons_self .., rfl⟩
    · rcases val_mem (e := e) (B := B) (y := y) with h | ⟨c, hc, h⟩
      · exact .inl h
      · exact .inr ⟨c, List.mem_cons_of_mem _ hc, h⟩
theorem Good.row {B : Bands} (h : Good B) (y : Int) : NF false (-1048576) (val [] B y) ∧ endOf (-1048576) (val [] B y) ≤ 1048576 := by
  rcases val_mem (e := ([] : Row)) (B := B) (y := y) with h1 | ⟨b, hb, h1⟩
  · rw [h1]; exact ⟨trivial, by simp [endOf]⟩
  · rw [h1]; exact h.rows b hb
theorem IsReg.unique {l m : List Rect} {S T : Int → Int → Bool} (h : IsReg l S) (k : IsReg m T) (e : ∀ x y, S x y = T x y) : l = m := by
  obtain ⟨B, g, rfl, hs⟩ := h
  obtain ⟨C, g', rfl, ht⟩ := k
  have : B = C := nf_unique B C _ _ g.nf g'.nf fun y => nf_unique _ _ _ _ (g.row y).1 (g'.row y).1 fun x => (hs x y).trans ((e x y).trans (ht x y).symm)
  rw [this]
theorem IsReg.congr {l : List Rect} {S T : Int → Int → Bool} (h : IsReg l S) (e : ∀ x y, S x y = T x y) : IsReg l T := by
  obtain ⟨B, g, e1, hs⟩ := h
  exact ⟨B, g, e1, fun x y => (hs x y).trans (e x y)⟩
/-- Where a row of the one form has something. -/
theorem val_true {lo : Int} : ∀ {R : Row}, NF false lo R → ∀ x, val false R x = true ↔ ∃ s ∈ R, s.1 ≤ x ∧ x < s.2.1 := by
  intro R
  induction R generalizing lo with
  | nil => intro _ x; simp [val]
  | cons p R ih =>
    obtain ⟨a, b, v⟩ := p
    intro h x
    obtain ⟨h1, h2, h3, h4, h5⟩ := h
    have hv : v = true := by cases v <;> simp_all
    rw [val_cons]
    constructor
    · intro hx
      by_cases c : a ≤ x ∧ x < b
      · exact ⟨_, List.mem_cons_self .., c⟩
      · rw [if_neg c] at hx
        obtain ⟨s, hs, h6⟩ := (ih h4 x).1 hx
        exact ⟨s, List.mem_cons_of_mem _ hs, h6⟩
    · rintro ⟨s, hs, h6⟩
      by_cases c : a ≤ x ∧ x < b
      · rw [if_pos c]; exact hv
      · rw [if_neg c]
        rcases List.mem_cons.1 hs with rfl | hs
        · exact absurd h6 c
        · exact (ih h4 x).2 ⟨s, hs, h6⟩
/-- Bounds of the pieces of the one form. -/
theorem nf_bounds {β : Type} [DecidableEq β] {e : β} : ∀ {B : List (Int × Int × β)} {lo hi : Int}, NF e lo B → endOf lo B ≤ hi → ∀ b ∈ B, lo ≤ b.1 ∧ b.1 < b.2.1 ∧ b.2.1 ≤ hi ∧ b.2.2 ≠ e
  | [], lo, hi, _, _, b, hb => by simp at hb
  | (a, c, v) :: B, lo, hi, h, he, b, hb => by
    obtain ⟨h1, h2, h3, h4, h5⟩ := h
    have h6 : endOf c B ≤ hi := he
    rcases List.mem_cons.1 hb with rfl | hb
    · have := endOf_le h4
      exact ⟨h1, h2, by show c ≤ hi; omega, h3⟩
    · obtain ⟨k1, k2, k3, k4⟩ := nf_bounds h4 h6 b hb
      exact ⟨by omega, k2, k3, k4⟩
theorem Good.counts {B : Bands} (h : Good B) : ∀ r ∈ rectsOf B, cnt r = true := by
  intro r hr
  obtain ⟨b, hb, hr⟩ := List.mem_flatMap.1 hr
  obtain ⟨s, hs, rfl⟩ := List.mem_map.1 hr
  obtain ⟨k1, k2, k3, _⟩ := nf_bounds h.nf h.hi b hb
  obtain ⟨m1, m2⟩ := h.rows b hb
  obtain ⟨j1, j2, j3, _⟩ := nf_bounds m1 m2 s hs
  rw [cnt_iff]
  dsimp only
  omega
/-- What is in the rectangles of bands is what the bands have. -/
theorem has_at {B : Bands} (h : Good B) (x y : Int) : has (rectsOf B) x y = at_ B x y := by
  apply Bool.eq_iff_iff.2
  rw [has_iff]
  have key : ∀ {B : Bands} {lo : Int}, NF [] lo B → (∀ b ∈ B, NF false (-1048576) b.2.2) → (at_ B x y = true ↔ ∃ b ∈ B, b.1 ≤ y ∧ y < b.2.1 ∧ ∃ s ∈ b.2.2, s.1 ≤ x ∧ x < s.2.1) := by
    intro B
    induction B with
    | nil => intro lo _ _; simp [at_, val]
    | cons p B ih =>
      intro lo hn hr
      obtain ⟨a, c, v⟩ := p
      obtain ⟨h1, h2, h3, h4, h5⟩ := hn
      unfold at_
      rw [val_cons]
      by_cases hy : a ≤ y ∧ y < c
      · rw [if_pos hy, val_true (hr (a, c, v) (List.mem_cons_self ..))]
        constructor
        · rintro ⟨s, hs, h6⟩
          exact ⟨_, List.mem_cons_self .., hy.1, hy.2, s, hs, h6⟩
        · rintro ⟨b, hb, h6, h7, s, hs, h8⟩
          rcases List.mem_cons.1 hb with rfl | hb
          · exact ⟨s, hs, h8⟩
          · have := (nf_bounds h4 (Int.le_refl _) b hb).1
            omega
      · rw [if_neg hy]
        have ih2 := ih h4 (fun b hb => hr b (List.mem_cons_of_mem _ hb))
        unfold at_ at ih2
        rw [ih2]
        constructor
        · rintro ⟨b, hb, h6⟩
          exact ⟨b, List.mem_cons_of_mem _ hb, h6⟩
        · rintro ⟨b, hb, h6, h7, h8⟩
          rcases List.mem_cons.1 hb with rfl | hb
          · exact absurd ⟨h6, h7⟩ hy
          · exact ⟨b, hb, h6, h7, h8⟩
  rw [key h.nf (fun b hb => (h.rows b hb).1)]
  constructor
  · rintro ⟨r, hr, _, h1, h2, h3, h4⟩
    obtain ⟨b, hb, hr⟩ := List.mem_flatMap.1 hr
    obtain ⟨s, hs, rfl⟩ := List.mem_map.1 hr
    dsimp only at h1 h2 h3 h4
    exact ⟨b, hb, h1, by omega, s, hs, h3, by omega⟩
  · rintro ⟨b, hb, h1, h2, s, hs, h3, h4⟩
    have hm : (s.1, b.1, s.2.1 - s.1, b.2.1 - b.1) ∈ rectsOf B := List.mem_flatMap.2 ⟨b, hb, List.mem_map.2 ⟨s, hs, rfl⟩⟩
    refine ⟨_, hm, h.counts _ hm, h1, ?_, h3, ?_⟩
    · dsimp only; omega
    · dsimp only; omega
theorem IsReg.has {l : List Rect} {S : Int → Int → Bool} (h : IsReg l S) (x y : Int) : RG.has l x y = S x y := by
  obtain ⟨B, g, rfl, hs⟩ := h
  rw [has_at g, hs]
/-- Nothing is the region of nothing, and of nothing else. -/
theorem IsReg.nil {l : List Rect} {S : Int → Int → Bool} (h : IsReg l S) (e : ∀ x y, S x y = false) : l = [] := by
  refine h.unique (m := []) (T := fun _ _ => false) ⟨[], ⟨trivial, by simp [endOf], by simp⟩, rfl, fun _ _ => rfl⟩ e
theorem IsReg.some {l : List Rect} {S : Int → Int → Bool} (h : IsReg l S) {x y : Int} (e : S x y = true) : l ≠ [] := by
  rintro rfl
  have := h.has x y
  rw [e] at this
  simp [RG.has, inn, pieces, counting] at this
def yends (l : List Rect) : List Int := l.flatMap fun r => [r.2.1, r.2.1 + r.2.2.2]
/-- What the rows of two sets of rectangles make: any function of two rows of pieces. -/
structure RowOk (keep : Bool → Bool → Bool) (a b : List Rect) (F : Int → Row) : Prop where
  ok : ∀ y, NF false (-1048576) (F y) ∧ endOf (-1048576) (F y) ≤ 1048576 ∧ ∀ x, val false (F y) x = keep (inn (pieces a y) x) (inn (pieces b y) x)
theorem RowOk.same {keep : Bool → Bool → Bool} {a b : List Rect} {F : Int → Row} (h : RowOk keep a b F) {y z : Int} (ha : pieces a y = pieces a z) (hb : pieces b y = pieces b z) : F y = F z :=
  nf_unique _ _ _ _ (h.ok y).1 (h.ok z).1 fun x => by rw [(h.ok y).2.2, (h.ok z).2.2, ha, hb]
theorem pieces_same {l : List Rect} {f t y : Int} (hy : f ≤ y) (ht : y < t) (hg : ∀ z ∈ yends l, z ≤ f ∨ t ≤ z) : pieces l y = pieces l f := by
  unfold pieces
  congr 1
  apply List.filter_congr
  intro r hr
  have h1 := hg r.2.1 (List.mem_flatMap.2 ⟨r, hr, by simp⟩)
  have h2 := hg (r.2.1 + r.2.2.2) (List.mem_flatMap.2 ⟨r, hr, by simp⟩)
  apply Bool.eq_iff_iff.2
  simp only [Bool.and_eq_true, decide_eq_true_eq]
  omega
theorem pieces_out {l : List Rect} {y : Int} (h : ∀ r ∈ l, y < r.2.1 ∨ r.2.1 + r.2.2.2 ≤ y) : pieces l y = [] := by
  unfold pieces
  rw [List.map_eq_nil_iff, List.filter_eq_nil_iff]
  intro r hr
  have := h r hr
  simp only [Bool.and_eq_true, decide_eq_true_eq]
  omega
def bandsF (F : Int → Row) (L : List Int) : Bands := pushAll [] F [] (pairs L)
theorem lastOf_mem : ∀ (M : List Int) (d : Int), lastOf d M ∈ d :: M
  | [], d => by simp [lastOf]
  | z :: M, d => List.mem_cons_of_mem _ (lastOf_mem M z)
theorem push_vals {β : Type} [DecidableEq β] {e : β} {P : β → Prop} : ∀ (l : List (Int × Int × β)) (a b : Int) (v : β), (∀ p ∈ l, P p.2.2) → P v → ∀ p ∈ push e l a b v, P p.2.2
  | [], a, b, v, _, hv, p, hp => by
    unfold push at hp
    split at hp
    · simp at hp
    · rw [List.mem_singleton.1 hp]; exact hv
  | [(c, d, u)], a, b, v, hl, hv, p, hp => by
    unfold push at hp
    split at hp
    · exact hl p hp
    · split at hp
      · rw [List.mem_singleton.1 hp]; exact hv
      · rcases List.mem_cons.1 hp with rfl | hp
        · exact hl (c, d, u) (List.mem_cons_self ..)
        · rw [List.mem_singleton.1 hp]; exact hv
  | q :: r :: l, a, b, v, hl, hv, p, hp => by
    unfold push at hp
    rcases List.mem_cons.1 hp with rfl | hp
    · exact hl _ (List.mem_cons_self ..)
    · exact push_vals (r :: l) a b v (fun p hp => hl p (List.mem_cons_of_mem _ hp)) hv p hp
theorem pushAll_vals {β : Type} [DecidableEq β] {e : β} {P : β → Prop} {f : Int → β} (hf : ∀ x, P (f x)) : ∀ (ps : List (Int × Int)) (l : List (Int × Int × β)), (∀ p ∈ l, P p.2.2) → ∀ p ∈ pushAll e f l ps, P p.2.2
  | [], l, hl => hl
  | q :: ps, l, hl => pushAll_vals hf ps _ (push_vals l q.1 q.2 (f q.1) hl (hf _))
theorem bands_spec (keep : Bool → Bool → Bool) (hk : keep false false = false) (a b : List Rect) (F : Int → Row) (hF : RowOk keep a b F) (L : List Int) (hL : Sorted (yends (a ++ b)) L) (hc : ∀ r ∈ a ++ b, cnt r = true) :
    Good (bandsF F L) ∧ ∀ y, val [] (bandsF F L) y = F y := by
  obtain ⟨hr, hm⟩ := hL
  have hrows : ∀ p ∈ bandsF F L, NF false (-1048576) p.2.2 ∧ endOf (-1048576) p.2.2 ≤ 1048576 := pushAll_vals (P := fun v : Row => NF false (-1048576) v ∧ endOf (-1048576) v ≤ 1048576) (fun x => ⟨(hF.ok x).1, (hF.ok x).2.1⟩) (pairs L) [] (by simp)
  have hz : ∀ z ∈ L, -1048576 ≤ z ∧ z ≤ 1048576 := by
    intro z h
    obtain ⟨r, h1, h2⟩ := List.mem_flatMap.1 ((hm z).1 h)
    have h3 := (cnt_iff r).1 (hc r h1)
    simp only [List.mem_cons, List.not_mem_nil, or_false] at h2
    omega
  have memy : ∀ r ∈ a ++ b, r.2.1 ∈ L ∧ r.2.1 + r.2.2.2 ∈ L := fun r h => ⟨(hm _).2 (List.mem_flatMap.2 ⟨r, h, by simp⟩), (hm _).2 (List.mem_flatMap.2 ⟨r, h, by simp⟩)⟩
  have empty : ∀ y, pieces a y = [] → pieces b y = [] → F y = [] := fun y h1 h2 => nf_unique _ _ _ (-1048576) (hF.ok y).1 trivial fun x => by rw [(hF.ok y).2.2, h1, h2]; exact hk
  cases L with
  | nil =>
    have ha : ∀ r ∈ a ++ b, False := fun r h => by have := (memy r h).1; simp at this
    refine ⟨⟨trivial, by simp [bandsF, pairs, pushAll, endOf], hrows⟩, fun y => ?_⟩
    exact (empty y (pieces_out fun r h => (ha r (by simp [h])).elim) (pieces_out fun r h => (ha r (by simp [h])).elim)).symm
  | cons c L =>
    obtain ⟨k1, k2, k3⟩ := pushAll_spec ([] : Row) F F L c (-1048576) [] hr trivial (by simp only [endOf]; exact (hz c (List.mem_cons_self ..)).1) (hz c (List.mem_cons_self ..)).1 (fun p hp y h1 h2 => by
      obtain ⟨_, _, _, _, q5⟩ := pairs_gap hr p hp
      exact hF.same (pieces_same h1 h2 fun z hz => q5 z ((hm z).2 (by obtain ⟨r, h3, h4⟩ := List.mem_flatMap.1 hz; exact List.mem_flatMap.2 ⟨r, by simp [h3], h4⟩))) (pieces_same h1 h2 fun z hz => q5 z ((hm z).2 (by obtain ⟨r, h3, h4⟩ := List.mem_flatMap.1 hz; exact List.mem_flatMap.2 ⟨r, by simp [h3], h4⟩))))
    refine ⟨⟨k1, Int.le_trans k2 (hz _ (lastOf_mem L c)).2, hrows⟩, fun y => ?_⟩
    have e1 := k3 y
    show val [] (pushAll [] F [] (pairs (c :: L))) y = _
    rw [e1]
    by_cases hy : c ≤ y ∧ y < lastOf c L
    · rw [if_pos hy]
    · rw [if_neg hy]
      refine (empty y (pieces_out fun r h => ?_) (pieces_out fun r h => ?_)).symm
      · have m1 := rise_min hr _ (memy r (by simp [h])).1
        have m2 := rise_min hr _ (memy r (by simp [h])).2
        omega
      · have m1 := rise_min hr _ (memy r (by simp [h])).1
        have m2 := rise_min hr _ (memy r (by simp [h])).2
        omega
theorem bands_reg (keep : Bool → Bool → Bool) (hk : keep false false = false) (a b : List Rect) (F : Int → Row) (hF : RowOk keep (counting a) (counting b) F) (L : List Int) (hL : Sorted (yends (counting a ++ counting b)) L) : IsReg (rectsOf (bandsF F L)) (fun x y => keep (has a x y) (has b x y)) := by
  have hc : ∀ r ∈ counting a ++ counting b, cnt r = true := by
    intro r hr
    rcases List.mem_append.1 hr with h | h <;> exact (List.mem_filter.1 h).2
  obtain ⟨g, hv⟩ := bands_spec keep hk _ _ F hF L hL hc
  refine ⟨_, g, rfl, fun x y => ?_⟩
  unfold at_
  rw [hv, (hF.ok y).2.2]
  rfl
/-- The row of the borders of its own pieces. -/
theorem row_ok (keep : Bool → Bool → Bool) (hk : keep false false = false) (a b : List Rect) (hc : ∀ r ∈ a ++ b, cnt r = true) (G : Int → List Int) (hG : ∀ y, Sorted (ends (pieces a y ++ pieces b y)) (G y)) : RowOk keep a b (fun y => rowF keep (pieces a y) (pieces b y) (G y)) := by
  refine ⟨fun y => row_spec keep hk _ _ _ (hG y) _ _ (fun z hz => ?_) (by decide)⟩
  obtain ⟨s, hs, hz⟩ := List.mem_flatMap.1 hz
  have : ∃ r ∈ a ++ b, s = (r.1, r.1 + r.2.2.1) := by
    rcases List.mem_append.1 hs with h | h
    · obtain ⟨r, h1, rfl⟩ := List.mem_map.1 h
      exact ⟨r, by simp [(List.mem_filter.1 h1).1], rfl⟩
    · obtain ⟨r, h1, rfl⟩ := List.mem_map.1 h
      exact ⟨r, by simp [(List.mem_filter.1 h1).1], rfl⟩
  obtain ⟨r, h1, rfl⟩ := this
  have h3 := (cnt_iff r).1 (hc r h1)
  simp only [List.mem_cons, List.not_mem_nil, or_false] at hz
  omega
/-! The program's way: the last band is kept apart. -/
abbrev CB := Int × Int × List Span
def spansOf (r : Row) : List Span := r.map fun s => (s.1, s.2.1)
def rectsC (b : CB) : List Rect := b.2.2.map fun s => (s.1, b.1, s.2 - s.1, b.2.1 - b.1)
def stepC (st : List Rect × CB) (f t : Int) (s : List Span) : List Rect × CB := if 0 < s.length ∧ st.2.2.1 = f ∧ s = st.2.2.2 then (st.1, (st.2.1, t, s)) else (st.1 ++ rectsC st.2, (f, t, s))
def allC (S : Int → List Span) (st : List Rect × CB) (ps : List (Int × Int)) : List Rect × CB := ps.foldl (fun st p => stepC st p.1 p.2 (S p.1)) st
def combC (S : Int → List Span) (L : List Int) : List Rect := (allC S ([], (0, 0, [])) (pairs L)).1 ++ rectsC (allC S ([], (0, 0, [])) (pairs L)).2
theorem spans_inj {r s : Row} (hr : ∀ p ∈ r, p.2.2 = true) (hs : ∀ p ∈ s, p.2.2 = true) (h : spansOf r = spansOf s) : r = s := by
  induction r generalizing s with
  | nil => cases s with
    | nil => rfl
    | cons p s => simp [spansOf] at h
  | cons p r ih => cases s with
    | nil => simp [spansOf] at h
    | cons q s =>
      obtain ⟨a, b, v⟩ := p
      obtain ⟨c, d, u⟩ := q
      simp only [spansOf, List.map_cons, List.cons.injEq, Prod.mk.injEq] at h
      have h1 := hr (a, b, v) (List.mem_cons_self ..)
      have h2 := hs (c, d, u) (List.mem_cons_self ..)
      dsimp only at h1 h2
      rw [h.1.1, h.1.2, h1, h2, ih (fun p hp => hr p (List.mem_cons_of_mem _ hp)) (fun p hp => hs p (List.mem_cons_of_mem _ hp)) h.2]
theorem nf_true {lo : Int} : ∀ {r : Row}, NF false lo r → ∀ p ∈ r, p.2.2 = true := by
  intro r h p hp
  have := (nf_bounds h (Int.le_refl _) p hp).2.2.2
  cases h : p.2.2 <;> simp_all
theorem rectsC_of (a b : Int) (r : Row) : rectsC (a, b, spansOf r) = rectsOf1 (a, b, r) := by
  unfold rectsC rectsOf1 spansOf
  rw [List.map_map]
  rfl
/-- Where the last piece ends: a list is empty, or has a last one. -/
theorem push_last {β : Type} [DecidableEq β] (e : β) : ∀ (l : List (Int × Int × β)) (c d : Int) (u : β) (a b : Int) (v : β), push e (l ++ [(c, d, u)]) a b v = if v = e then l ++ [(c, d, u)] else if d = a ∧ u = v then l ++ [(c, b, v)] else l ++ [(c, d, u), (a, b, v)]
  | [], c, d, u, a, b, v => by
    show push e [(c, d, u)] a b v = _
    unfold push
    split
    · rfl
    · split <;> rfl
  | [p], c, d, u, a, b, v => by
    show push e (p :: (c, d, u) :: []) a b v = _
    unfold push
    unfold push
    split
    · rfl
    · split <;> rfl
  | p :: q :: l, c, d, u, a, b, v => by
    have ih := push_last e (q :: l) c d u a b v
    show push e (p :: q :: (l ++ [(c, d, u)])) a b v = _
    unfold push
    rw [show q :: (l ++ [(c, d, u)]) = q :: l ++ [(c, d, u)] from rfl, ih]
    split
    · rfl
    · split <;> rfl
theorem push_none {β : Type} [DecidableEq β] (e : β) (l : List (Int × Int × β)) (a b : Int) : push e l a b e = l := by
  rcases List.eq_nil_or_concat l with rfl | ⟨l0, ⟨c, d, u⟩, rfl⟩
  · show (if e = e then [] else _) = _
    rw [if_pos rfl]
  · rw [List.concat_eq_append, push_last, if_pos rfl]
theorem push_app {β : Type} [DecidableEq β] (e : β) (l : List (Int × Int × β)) (a b : Int) (v : β) (hv : v ≠ e) (h : ∀ l0 c d u, l = l0 ++ [(c, d, u)] → d ≠ a) : push e l a b v = l ++ [(a, b, v)] := by
  rcases List.eq_nil_or_concat l with rfl | ⟨l0, ⟨c, d, u⟩, rfl⟩
  · show (if v = e then [] else _) = _
    rw [if_neg hv]; rfl
  · rw [List.concat_eq_append] at h ⊢
    rw [push_last, if_neg hv, if_neg (fun k => h l0 c d u rfl k.1)]
    simp
/-- The program's state beside the bands: f is where the next step begins. -/
def Rel (st : List Rect × CB) (B : Bands) (f : Int) : Prop :=
  (∃ B0 r, B = B0 ++ [(st.2.1, st.2.2.1, r)] ∧ r ≠ [] ∧ st.2.2.2 = spansOf r ∧ st.1 = rectsOf B0 ∧ (∀ p ∈ r, p.2.2 = true) ∧ st.2.2.1 ≤ f) ∨
  (st.2.2.2 = [] ∧ st.1 = rectsOf B ∧ ∀ B0 c d u, B = B0 ++ [(c, d, u)] → d < f)
theorem rel_step {F : Int → Row} (hF : ∀ y, ∀ p ∈ F y, p.2.2 = true) {st : List Rect × CB} {B : Bands} {f t : Int} (h : Rel st B f) (hft : f < t) : Rel (stepC st f t (spansOf (F f))) (push [] B f t (F f)) t := by
  obtain ⟨out, c, d, sp⟩ := st
  unfold stepC
  dsimp only
  rcases h with ⟨B0, r, rfl, hr, hsp, hout, ht, hdf⟩ | ⟨hsp, hout, hd⟩
  · dsimp only at hsp hout hdf
    by_cases hv : F f = []
    · rw [hv, push_none, if_neg (by simp [spansOf])]
      refine .inr ⟨rfl, ?_, fun B1 c1 d1 u1 e => ?_⟩
      · show out ++ rectsC (c, d, sp) = _
        rw [hout, hsp, rectsC_of]
        simp [rectsOf]
      · have := (List.append_inj' e rfl).2
        simp only [List.cons.injEq, Prod.mk.injEq, and_true] at this
        omega
    · rw [push_last, if_neg hv]
      have hlen : 0 < (spansOf (F f)).length := by
        unfold spansOf
        rw [List.length_map]
        exact List.length_pos_iff.2 hv
      by_cases hm : d = f ∧ r = F f
      · rw [if_pos hm, if_pos ⟨hlen, hm.1, by rw [hsp, hm.2]⟩]
        exact .inl ⟨B0, F f, rfl, hv, rfl, hout, hF _, Int.le_refl _⟩
      · rw [if_neg hm, if_neg (fun h => hm ⟨h.2.1, spans_inj ht (hF _) (by rw [← hsp]; exact h.2.2.symm)⟩)]
        refine .inl ⟨B0 ++ [(c, d, r)], F f, by simp, hv, rfl, ?_, hF _, Int.le_refl _⟩
        show out ++ rectsC (c, d, sp) = _
        rw [hout, hsp, rectsC_of]
        simp [rectsOf]
  · dsimp only at hsp hout
    have hnil : rectsC (c, d, sp) = [] := by rw [hsp]; rfl
    by_cases hv : F f = []
    · rw [hv, push_none, if_neg (by simp [spansOf])]
      refine .inr ⟨rfl, ?_, fun B1 c1 d1 u1 e => by have := hd B1 c1 d1 u1 e; omega⟩
      show out ++ rectsC (c, d, sp) = _
      rw [hnil, List.append_nil, hout]
    · rw [push_app [] B f t (F f) hv (fun l0 c1 d1 u1 e => by have := hd l0 c1 d1 u1 e; omega), if_neg (fun h => ?_)]
      · refine .inl ⟨B, F f, rfl, hv, rfl, ?_, hF _, Int.le_refl _⟩
        show out ++ rectsC (c, d, sp) = _
        rw [hnil, List.append_nil, hout]
      · have h3 := h.1
        rw [h.2.2, hsp] at h3
        simp at h3
theorem rel_all {F : Int → Row} (hF : ∀ y, ∀ p ∈ F y, p.2.2 = true) : ∀ (L : List Int) (a : Int) (st : List Rect × CB) (B : Bands), Rise (a :: L) → Rel st B a → Rel (allC (fun y => spansOf (F y)) st (pairs (a :: L))) (pushAll [] F B (pairs (a :: L))) (lastOf a L)
  | [], a, st, B, _, h => h
  | b :: L, a, st, B, hr, h => rel_all hF L b _ _ hr.2 (rel_step hF h hr.1)
theorem rel_end {st : List Rect × CB} {B : Bands} {f : Int} (h : Rel st B f) : st.1 ++ rectsC st.2 = rectsOf B := by
  obtain ⟨out, c, d, sp⟩ := st
  rcases h with ⟨B0, r, rfl, hr, hsp, hout, ht, _⟩ | ⟨hsp, hout, hd⟩
  · dsimp only at hsp hout ⊢
    rw [hout, hsp, rectsC_of]
    simp [rectsOf]
  · dsimp only at hsp hout ⊢
    rw [hout, hsp]
    simp [rectsC]
theorem comb_eq {F : Int → Row} (hF : ∀ y, ∀ p ∈ F y, p.2.2 = true) (L : List Int) (hL : Rise L) : combC (fun y => spansOf (F y)) L = rectsOf (bandsF F L) := by
  cases L with
  | nil => rfl
  | cons a L => exact rel_end (rel_all hF L a _ [] hL (.inr ⟨rfl, rfl, fun B0 c d u e => by simp at e⟩))
/-- What two sets make, the program's way, is the region of what they make as sets. -/
theorem comb_reg (keep : Bool → Bool → Bool) (hk : keep false false = false) (a b : List Rect) (F : Int → Row) (hF : RowOk keep (counting a) (counting b) F) (L : List Int) (hL : Sorted (yends (counting a ++ counting b)) L) : IsReg (combC (fun y => spansOf (F y)) L) (fun x y => keep (has a x y) (has b x y)) := by
  rw [comb_eq (fun y => nf_true (hF.ok y).1) L hL.1]
  exact bands_reg keep hk a b F hF L hL
/-- A sum over so many numbers from one on. -/
def sumI (lo : Int) : Nat → (Int → Int) → Int
  | 0, _ => 0
  | n + 1, f => f lo + sumI (lo + 1) n f
theorem sumI_add (f : Int → Int) : ∀ (n m : Nat) (lo : Int), sumI lo (n + m) f = sumI lo n f + sumI (lo + n) m f
  | 0, m, lo => by simp [sumI]
  | n + 1, m, lo => by
    rw [show n + 1 + m = (n + m) + 1 by omega]
    simp only [sumI]
    rw [sumI_add f n m (lo + 1), show lo + 1 + (n : Int) = lo + ((n + 1 : Nat) : Int) by push_cast; omega]
    omega
theorem sumI_congr {f g : Int → Int} : ∀ (n : Nat) (lo : Int), (∀ y, lo ≤ y → y < lo + n → f y = g y) → sumI lo n f = sumI lo n g
  | 0, _, _ => rfl
  | n + 1, lo, h => by
    simp only [sumI]
    rw [h lo (Int.le_refl _) (by push_cast; omega), sumI_congr n (lo + 1) (fun y h1 h2 => h y (by omega) (by push_cast; omega))]
theorem sumI_const (c : Int) : ∀ (n : Nat) (lo : Int), sumI lo n (fun _ => c) = n * c
  | 0, _ => by simp [sumI]
  | n + 1, lo => by
    simp only [sumI]
    rw [sumI_const c n (lo + 1)]
    push_cast
    rw [Int.add_mul]
    omega
theorem sumI_plus (f g : Int → Int) : ∀ (n : Nat) (lo : Int), sumI lo n (fun y => f y + g y) = sumI lo n f + sumI lo n g
  | 0, _ => rfl
  | n + 1, lo => by
    simp only [sumI]
    rw [sumI_plus f g n (lo + 1)]
    omega
theorem sumI_le {f g : Int → Int} : ∀ (n : Nat) (lo : Int), (∀ y, lo ≤ y → y < lo + n → f y ≤ g y) → sumI lo n f ≤ sumI lo n g
  | 0, _, _ => Int.le_refl _
  | n + 1, lo, h => by
    simp only [sumI]
    have h1 := h lo (Int.le_refl _) (by push_cast; omega)
    have h2 := sumI_le n (lo + 1) (fun y h1 h2 => h y (by omega) (by push_cast; omega))
    omega
def wsum {β : Type} (f : β → Int) (B : List (Int × Int × β)) : Int := (B.map fun b => (b.2.1 - b.1) * f b.2.2).foldr (· + ·) 0
theorem wsum_cons {β : Type} (f : β → Int) (a c : Int) (v : β) (B : List (Int × Int × β)) : wsum f ((a, c, v) :: B) = (c - a) * f v + wsum f B := rfl
/-- The pieces' lengths, each with what its value counts, are the sum over all places. -/
theorem nf_sum {β : Type} [DecidableEq β] {e : β} (f : β → Int) (h0 : f e = 0) : ∀ (B : List (Int × Int × β)) (lo : Int) (n : Nat), NF e lo B → endOf lo B ≤ lo + n → wsum f B = sumI lo n (fun y => f (val e B y))
  | [], lo, n, _, _ => by
    show (0 : Int) = sumI lo n (fun _ => f e)
    rw [h0, sumI_const]
    simp
  | (a, c, v) :: B, lo, n, h, he => by
    have hh := h
    obtain ⟨h1, h2, h3, h4, h5⟩ := h
    have h6 : endOf c B ≤ lo + n := he
    have h7 := endOf_le h4
    obtain ⟨p, rfl⟩ : ∃ p : Nat, a = lo + p := ⟨(a - lo).toNat, by omega⟩
    obtain ⟨q, rfl⟩ : ∃ q : Nat, c = lo + p + q := ⟨(c - (lo + p)).toNat, by omega⟩
    obtain ⟨r, rfl⟩ : ∃ r : Nat, n = p + q + r := ⟨n - (p + q), by omega⟩
    have ih := nf_sum f h0 B (lo + p + q) r h4 (by push_cast at h6; omega)
    rw [wsum_cons, sumI_add, sumI_add]
    have s1 : sumI lo p (fun y => f (val e ((lo + (p : Int), lo + p + q, v) :: B) y)) = 0 := by
      rw [sumI_congr (g := fun _ => 0) p lo (fun y k1 k2 => by rw [val_below (lo := lo + (p : Int)) (show NF e (lo + (p : Int)) ((lo + (p : Int), lo + p + q, v) :: B) from ⟨Int.le_refl _, h2, h3, h4, h5⟩) k2]; exact h0), sumI_const]
      simp
    have s2 : sumI (lo + p) q (fun y => f (val e ((lo + (p : Int), lo + p + q, v) :: B) y)) = q * f v := by
      rw [sumI_congr (g := fun _ => f v) q _ (fun y k1 k2 => by rw [val_cons, if_pos ⟨k1, k2⟩]), sumI_const]
    have s3 : sumI (lo + ((p + q : Nat) : Int)) r (fun y => f (val e ((lo + (p : Int), lo + p + q, v) :: B) y)) = sumI (lo + p + q) r (fun y => f (val e B y)) := by
      rw [show lo + ((p + q : Nat) : Int) = lo + p + q by push_cast; omega]
      exact sumI_congr r _ (fun y k1 k2 => by rw [val_cons, if_neg (by omega)])
    rw [s1, s2, s3, ih, show lo + (p : Int) + q - (lo + p) = q by omega]
    omega
def area0 (l : List Rect) : Int := (l.map fun r => r.2.2.1 * r.2.2.2).foldr (· + ·) 0
theorem area0_cons (r : Rect) (l : List Rect) : area0 (r :: l) = r.2.2.1 * r.2.2.2 + area0 l := rfl
theorem area0_append : ∀ (l m : List Rect), area0 (l ++ m) = area0 l + area0 m
  | [], m => by simp [area0]
  | r :: l, m => by
    rw [List.cons_append, area0_cons, area0_cons, area0_append l m]
    omega
def ind (b : Bool) : Int := if b = true then 1 else 0
def rowN (v : Row) : Int := wsum ind v
theorem area_band (a c : Int) : ∀ v : Row, (∀ p ∈ v, p.2.2 = true) → area0 (rectsOf1 (a, c, v)) = (c - a) * rowN v
  | [], _ => by simp [rectsOf1, area0, rowN, wsum]
  | (x, y, b) :: v, h => by
    have h1 := h (x, y, b) (List.mem_cons_self ..)
    dsimp only at h1
    subst h1
    have ih := area_band a c v (fun p hp => h p (List.mem_cons_of_mem _ hp))
    show area0 ((x, a, y - x, c - a) :: rectsOf1 (a, c, v)) = _
    rw [area0_cons, ih]
    show (y - x) * (c - a) + (c - a) * rowN v = (c - a) * ((y - x) * ind true + rowN v)
    rw [Int.mul_add, show ind true = 1 from rfl, Int.mul_one, Int.mul_comm (y - x)]
theorem area_bands : ∀ B : Bands, (∀ b ∈ B, ∀ p ∈ b.2.2, p.2.2 = true) → area0 (rectsOf B) = wsum rowN B
  | [], _ => rfl
  | (a, c, v) :: B, h => by
    show area0 (rectsOf1 (a, c, v) ++ rectsOf B) = _
    rw [area0_append, area_band a c v (h (a, c, v) (List.mem_cons_self ..)), area_bands B (fun b hb => h b (List.mem_cons_of_mem _ hb))]
    rfl
/-- How many places within Far a set has. -/
def areaOf (S : Int → Int → Bool) : Int := sumI (-1048576) 2097152 fun y => sumI (-1048576) 2097152 fun x => ind (S x y)
theorem IsReg.area {l : List Rect} {S : Int → Int → Bool} (h : IsReg l S) : area0 l = areaOf S := by
  obtain ⟨B, g, rfl, hs⟩ := h
  rw [area_bands B (fun b hb => nf_true (g.rows b hb).1), nf_sum rowN rfl B (-1048576) 2097152 g.nf (by have := g.hi; omega)]
  unfold areaOf
  refine sumI_congr _ _ fun y _ _ => ?_
  unfold rowN
  rw [nf_sum ind rfl (val [] B y) (-1048576) 2097152 (g.row y).1 (by have := (g.row y).2; omega)]
  exact sumI_congr _ _ fun x _ _ => by rw [← hs]; rfl
theorem areaOf_congr {S T : Int → Int → Bool} (h : ∀ x y, S x y = T x y) : areaOf S = areaOf T := by
  unfold areaOf
  exact sumI_congr _ _ fun y _ _ => sumI_congr _ _ fun x _ _ => by rw [h]
theorem areaOf_plus {S T U V : Int → Int → Bool} (h : ∀ x y, ind (S x y) + ind (T x y) = ind (U x y) + ind (V x y)) : areaOf S + areaOf T = areaOf U + areaOf V := by
  unfold areaOf
  rw [← sumI_plus, ← sumI_plus]
  refine sumI_congr _ _ fun y _ _ => ?_
  rw [← sumI_plus, ← sumI_plus]
  exact sumI_congr _ _ fun x _ _ => h x y
theorem areaOf_le {S T : Int → Int → Bool} (h : ∀ x y, S x y = true → T x y = true) : areaOf S ≤ areaOf T := by
  unfold areaOf
  refine sumI_le _ _ fun y _ _ => sumI_le _ _ fun x _ _ => ?_
  have := h x y
  unfold ind
  by_cases h1 : S x y = true
  · rw [if_pos h1, if_pos (this h1)]
    exact Int.le_refl _
  · rw [if_neg h1]
    split <;> decide
theorem areaOf_nonneg (S : Int → Int → Bool) : 0 ≤ areaOf S := by
  have h := areaOf_le (S := fun _ _ => false) (T := S) (fun _ _ h => by cases h)
  have e : areaOf (fun _ _ => false) = 0 := by
    unfold areaOf
    rw [sumI_congr (g := fun _ => 0) _ _ (fun y _ _ => by show sumI _ _ (fun _ => (0 : Int)) = 0; rw [sumI_const]; simp), sumI_const]
    simp
  omega
theorem areaOf_top (S : Int → Int → Bool) : areaOf S ≤ 4398046511104 := by
  have h := areaOf_le (S := S) (T := fun _ _ => true) (fun _ _ _ => rfl)
  have e : areaOf (fun _ _ => true) = 4398046511104 := by
    unfold areaOf
    rw [sumI_congr (g := fun _ => 2097152) _ _ (fun y _ _ => by show sumI _ _ (fun _ => (1 : Int)) = 2097152; rw [sumI_const]; decide), sumI_const]
    decide
  omega
theorem rise_of_pairwise : ∀ {l : List Int}, l.Pairwise (· < ·) → Rise l
  | [], _ => trivial
  | [_], _ => trivial
  | a :: b :: l, h => ⟨(List.pairwise_cons.1 h).1 b (List.mem_cons_self ..), rise_of_pairwise (List.pairwise_cons.1 h).2⟩
theorem comp_spec (d : Array Int) (hs : ∀ i j, i < j → j < d.size → d[i]! ≤ d[j]!) : ∀ m, m ≤ d.size → (Go.Lib.compactUpTo d m).Pairwise (· < ·) ∧ ∀ z, z ∈ Go.Lib.compactUpTo d m ↔ ∃ i, i < m ∧ d[i]! = z
  | 0, _ => ⟨by simp [Go.Lib.compactUpTo], by simp [Go.Lib.compactUpTo]⟩
  | m + 1, h => by
    obtain ⟨h1, h2⟩ := comp_spec d hs m (by omega)
    rw [Go.Lib.compactUpTo_succ]
    by_cases hk : Go.Lib.keeps d m = true
    · rw [if_pos hk]
      have hk2 : m = 0 ∨ d[m]! ≠ d[m - 1]! := by simpa [Go.Lib.keeps] using hk
      constructor
      · rw [List.pairwise_append]
        refine ⟨h1, by simp, fun z hz x hx => ?_⟩
        rw [List.mem_singleton.1 hx]
        obtain ⟨i, hi, rfl⟩ := (h2 z).1 hz
        have hne : d[m]! ≠ d[m - 1]! := hk2.resolve_left (by omega)
        have h3 : d[i]! ≤ d[m - 1]! := by
          by_cases e : i = m - 1
          · rw [e]; exact Int.le_refl _
          · exact hs i (m - 1) (by omega) (by omega)
        have h4 := hs (m - 1) m (by omega) (by omega)
        omega
      · intro z
        rw [List.mem_append, h2, List.mem_singleton]
        constructor
        · rintro (⟨i, hi, e⟩ | rfl)
          · exact ⟨i, by omega, e⟩
          · exact ⟨m, by omega, rfl⟩
        · rintro ⟨i, hi, e⟩
          by_cases c : i = m
          · subst c; exact .inr e.symm
          · exact .inl ⟨i, by omega, e⟩
    · rw [if_neg hk, List.append_nil]
      have hk2 : ¬ (m = 0 ∨ d[m]! ≠ d[m - 1]!) := by simpa [Go.Lib.keeps] using hk
      refine ⟨h1, fun z => ?_⟩
      rw [h2]
      constructor
      · rintro ⟨i, hi, e⟩
        exact ⟨i, by omega, e⟩
      · rintro ⟨i, hi, e⟩
        by_cases c : i = m
        · subst c
          refine ⟨i - 1, by omega, ?_⟩
          rw [← e]
          exact (Classical.byContradiction fun h => hk2 (.inr fun h3 => h h3.symm))
        · exact ⟨i, by omega, e⟩
/-- Numbers, each once, as they rise. -/
def srt (M : List Int) : List Int := Go.Lib.compact (M.mergeSort fun x y => decide (x ≤ y))
theorem srt_sorted (M : List Int) : Sorted M (srt M) := by
  have hp : (M.mergeSort fun x y => decide (x ≤ y)).Pairwise (fun x y => decide (x ≤ y) = true) := List.pairwise_mergeSort (fun a b c h1 h2 => by simp only [decide_eq_true_eq] at *; omega) (fun a b => by simp only [Bool.or_eq_true, decide_eq_true_eq]; omega) M
  have hs : ∀ i j, i < j → j < (M.mergeSort fun x y => decide (x ≤ y)).toArray.size → (M.mergeSort fun x y => decide (x ≤ y)).toArray[i]! ≤ (M.mergeSort fun x y => decide (x ≤ y)).toArray[j]! := by
    intro i j hij hj
    have hj2 : j < (M.mergeSort fun x y => decide (x ≤ y)).length := by simpa using hj
    have := List.pairwise_iff_getElem.1 hp i j (by omega) hj2 hij
    rw [decide_eq_true_eq] at this
    have hi : i < (M.mergeSort fun x y => decide (x ≤ y)).toArray.size := Nat.lt_trans hij hj
    rw [getElem!_pos _ i hi, getElem!_pos _ j hj]
    simpa using this
  obtain ⟨h1, h2⟩ := comp_spec _ hs (M.mergeSort fun x y => decide (x ≤ y)).length (by simp)
  refine ⟨rise_of_pairwise h1, fun z => ?_⟩
  unfold srt Go.Lib.compact
  rw [h2]
  constructor
  · rintro ⟨i, hi, e⟩
    rw [getElem!_pos _ i (by simpa using hi)] at e
    have : z ∈ (M.mergeSort fun x y => decide (x ≤ y)) := by rw [← e]; simp
    exact (List.mergeSort_perm M _).mem_iff.1 this
  · intro hz
    have : z ∈ (M.mergeSort fun x y => decide (x ≤ y)) := (List.mergeSort_perm M _).mem_iff.2 hz
    obtain ⟨i, hi, e⟩ := List.mem_iff_getElem.1 this
    refine ⟨i, hi, ?_⟩
    rw [getElem!_pos _ i (by simpa using hi)]
    simpa using e
/-- Two rows of the same numbers are the same. -/
theorem rise_unique : ∀ {L K : List Int}, Rise L → Rise K → (∀ z, z ∈ L ↔ z ∈ K) → L = K
  | [], [], _, _, _ => rfl
  | [], b :: K, _, _, h => absurd ((h b).2 (List.mem_cons_self ..)) (by simp)
  | a :: L, [], _, _, h => absurd ((h a).1 (List.mem_cons_self ..)) (by simp)
  | a :: L, b :: K, hl, hk, h => by
    have e : a = b := by
      have h1 := rise_min hl b ((h b).2 (List.mem_cons_self ..))
      have h2 := rise_min hk a ((h a).1 (List.mem_cons_self ..))
      omega
    subst e
    have nl : a ∉ L := by
      cases L with
      | nil => simp
      | cons c L => intro hm; have := rise_min hl.2 a hm; have := hl.1; omega
    have nk : a ∉ K := by
      cases K with
      | nil => simp
      | cons c K => intro hm; have := rise_min hk.2 a hm; have := hk.1; omega
    rw [rise_unique hl.tail hk.tail fun z => ?_]
    have hz := h z
    simp only [List.mem_cons] at hz
    constructor
    · intro hm
      rcases hz.1 (.inr hm) with rfl | h
      · exact absurd hm nl
      · exact h
    · intro hm
      rcases hz.2 (.inr hm) with rfl | h
      · exact absurd hm nk
      · exact h
/-- Of a row over more borders than its own. -/
theorem row_okD (keep : Bool → Bool → Bool) (hk : keep false false = false) (a b : List Rect) (hc : ∀ r ∈ a ++ b, cnt r = true) (L : List Int) (hr : Rise L) (hm : ∀ z, z ∈ L ↔ ∃ r ∈ a ++ b, z = r.1 ∨ z = r.1 + r.2.2.1) : RowOk keep a b (fun y => rowF keep (pieces a y) (pieces b y) L) := by
  have mem : ∀ (l : List Rect) (y : Int) (s : Span), s ∈ pieces l y → ∃ r ∈ l, s = (r.1, r.1 + r.2.2.1) := fun l y s hs => by
    obtain ⟨r, h1, rfl⟩ := List.mem_map.1 hs
    exact ⟨r, (List.mem_filter.1 h1).1, rfl⟩
  refine ⟨fun y => row_gen keep hk _ _ L hr (fun z hz => ?_) _ _ (fun z hz => ?_) (by decide)⟩
  · obtain ⟨s, hs, hz⟩ := List.mem_flatMap.1 hz
    simp only [List.mem_cons, List.not_mem_nil, or_false] at hz
    rw [hm]
    rcases List.mem_append.1 hs with h | h
    · obtain ⟨r, h1, rfl⟩ := mem a y s h
      exact ⟨r, by simp [h1], hz⟩
    · obtain ⟨r, h1, rfl⟩ := mem b y s h
      exact ⟨r, by simp [h1], hz⟩
  · obtain ⟨r, h1, h2⟩ := (hm z).1 hz
    have h3 := (cnt_iff r).1 (hc r h1)
    omega
def sameXW : List Rect → List Rect → Bool
  | [], [] => true
  | r :: l, s :: m => decide (r.1 = s.1) && decide (r.2.2.1 = s.2.2.1) && sameXW l m
  | _, _ => false
def stepD (st : List Rect × List Rect) (f t : Int) (s : Row) : List Rect × List Rect := if 0 < st.2.length ∧ sameXW st.2 (rectsOf1 (f, t, s)) = true then (st.1, st.2.map fun r => (r.1, r.2.1, r.2.2.1, t - r.2.1)) else (st.1 ++ st.2, rectsOf1 (f, t, s))
def allD (S : Int → Row) (st : List Rect × List Rect) (ps : List (Int × Int)) : List Rect × List Rect := ps.foldl (fun st p => stepD st p.1 p.2 (S p.1)) st
def combD (S : Int → Row) (L : List Int) : List Rect := (allD S ([], []) (pairs L)).1 ++ (allD S ([], []) (pairs L)).2
theorem sameXW_iff : ∀ (r s : Row) (a b c d : Int), (∀ p ∈ r, p.2.2 = true) → (∀ p ∈ s, p.2.2 = true) → (sameXW (rectsOf1 (a, b, r)) (rectsOf1 (c, d, s)) = true ↔ r = s)
  | [], [], _, _, _, _, _, _ => by simp [rectsOf1, sameXW]
  | [], q :: s, _, _, _, _, _, _ => by simp [rectsOf1, sameXW]
  | p :: r, [], _, _, _, _, _, _ => by simp [rectsOf1, sameXW]
  | (x, y, u) :: r, (z, w, v) :: s, a, b, c, d, hr, hs => by
    have ih := sameXW_iff r s a b c d (fun p hp => hr p (List.mem_cons_of_mem _ hp)) (fun p hp => hs p (List.mem_cons_of_mem _ hp))
    have h1 := hr (x, y, u) (List.mem_cons_self ..)
    have h2 := hs (z, w, v) (List.mem_cons_self ..)
    dsimp only at h1 h2
    subst h1
    subst h2
    show (decide (x = z) && decide (y - x = w - z) && sameXW (rectsOf1 (a, b, r)) (rectsOf1 (c, d, s))) = true ↔ _
    rw [Bool.and_eq_true, Bool.and_eq_true, ih, decide_eq_true_eq, decide_eq_true_eq]
    simp only [List.cons.injEq, Prod.mk.injEq, and_true]
    constructor
    · rintro ⟨⟨h1, h2⟩, h3⟩; exact ⟨⟨h1, by omega⟩, h3⟩
    · rintro ⟨⟨h1, h2⟩, h3⟩; exact ⟨⟨h1, by omega⟩, h3⟩
def RelD (st : List Rect × List Rect) (B : Bands) (f : Int) : Prop :=
  (∃ B0 c r, B = B0 ++ [(c, f, r)] ∧ r ≠ [] ∧ st.2 = rectsOf1 (c, f, r) ∧ st.1 = rectsOf B0 ∧ (∀ p ∈ r, p.2.2 = true)) ∨
  (st.2 = [] ∧ st.1 = rectsOf B ∧ ∀ B0 c d u, B = B0 ++ [(c, d, u)] → d < f)
theorem relD_step {F : Int → Row} (hF : ∀ y, ∀ p ∈ F y, p.2.2 = true) {st : List Rect × List Rect} {B : Bands} {f t : Int} (h : RelD st B f) (hft : f < t) : RelD (stepD st f t (F f)) (push [] B f t (F f)) t := by
  obtain ⟨out, last⟩ := st
  unfold stepD
  dsimp only
  rcases h with ⟨B0, c, r, rfl, hr, hl, hout, ht⟩ | ⟨hl, hout, hd⟩
  · dsimp only at hl hout
    have hlen : 0 < last.length := by
      rw [hl]
      unfold rectsOf1
      rw [List.length_map]
      exact List.length_pos_iff.2 hr
    by_cases hv : F f = []
    · rw [hv, push_none, if_neg (fun h => ?_)]
      · refine .inr ⟨rfl, ?_, fun B1 c1 d1 u1 e => ?_⟩
        · show out ++ last = _
          rw [hout, hl]
          simp [rectsOf]
        · have := (List.append_inj' e rfl).2
          simp only [List.cons.injEq, Prod.mk.injEq, and_true] at this
          omega
      · have h2 := h.2
        rw [hl, sameXW_iff r [] c f f t ht (by simp)] at h2
        exact hr h2
    · rw [push_last, if_neg hv]
      by_cases hm : r = F f
      · rw [if_pos ⟨hlen, by rw [hl, sameXW_iff r (F f) c f f t ht (hF _)]; exact hm⟩, if_pos ⟨rfl, hm⟩]
        refine .inl ⟨B0, c, F f, rfl, hv, ?_, hout, hF _⟩
        show last.map _ = _
        rw [hl, ← hm]
        unfold rectsOf1
        rw [List.map_map]
        rfl
      · rw [if_neg (fun h => hm ((sameXW_iff r (F f) c f f t ht (hF _)).1 (by rw [← hl]; exact h.2))), if_neg (fun h => hm h.2)]
        refine .inl ⟨B0 ++ [(c, f, r)], f, F f, by simp, hv, rfl, ?_, hF _⟩
        show out ++ last = _
        rw [hout, hl]
        simp [rectsOf]
  · dsimp only at hl hout
    subst hl
    rw [if_neg (by simp), List.append_nil]
    by_cases hv : F f = []
    · rw [hv, push_none]
      exact .inr ⟨rfl, hout, fun B1 c1 d1 u1 e => by have := hd B1 c1 d1 u1 e; omega⟩
    · rw [push_app [] B f t (F f) hv (fun l0 c1 d1 u1 e => by have := hd l0 c1 d1 u1 e; omega)]
      exact .inl ⟨B, f, F f, rfl, hv, rfl, hout, hF _⟩
theorem relD_all {F : Int → Row} (hF : ∀ y, ∀ p ∈ F y, p.2.2 = true) : ∀ (L : List Int) (a : Int) (st : List Rect × List Rect) (B : Bands), Rise (a :: L) → RelD st B a → RelD (allD F st (pairs (a :: L))) (pushAll [] F B (pairs (a :: L))) (lastOf a L)
  | [], a, st, B, _, h => h
  | b :: L, a, st, B, hr, h => relD_all hF L b _ _ hr.2 (relD_step hF h hr.1)
theorem combD_eq {F : Int → Row} (hF : ∀ y, ∀ p ∈ F y, p.2.2 = true) (L : List Int) (hL : Rise L) : combD F L = rectsOf (bandsF F L) := by
  cases L with
  | nil => rfl
  | cons a L =>
    have h := relD_all hF L a ([], []) [] hL (.inr ⟨rfl, rfl, fun B0 c d u e => by simp at e⟩)
    show (allD F ([], []) (pairs (a :: L))).1 ++ (allD F ([], []) (pairs (a :: L))).2 = rectsOf (pushAll [] F [] (pairs (a :: L)))
    rcases h with ⟨B0, c, r, h1, hr, hl, hout, ht⟩ | ⟨hl, hout, hd⟩
    · rw [h1, hl, hout]
      simp [rectsOf]
    · rw [hl, hout, List.append_nil]
theorem combD_reg (keep : Bool → Bool → Bool) (hk : keep false false = false) (a b : List Rect) (X Y : List Int) (hX : Rise X) (hXm : ∀ z, z ∈ X ↔ ∃ r ∈ counting a ++ counting b, z = r.1 ∨ z = r.1 + r.2.2.1) (hY : Sorted (yends (counting a ++ counting b)) Y) :
    IsReg (combD (fun y => rowF keep (pieces (counting a) y) (pieces (counting b) y) X) Y) (fun x y => keep (has a x y) (has b x y)) := by
  have hc : ∀ r ∈ counting a ++ counting b, cnt r = true := by
    intro r hr
    rcases List.mem_append.1 hr with h | h <;> exact (List.mem_filter.1 h).2
  have hF := row_okD keep hk _ _ hc X hX hXm
  rw [combD_eq (fun y => nf_true (hF.ok y).1) Y hY.1]
  exact bands_reg keep hk a b _ hF Y hY
/-! The document's borders: numbers laid into a row that rises. -/
def putI : List Int → Int → List Int
  | [], n => [n]
  | a :: l, n => if n < a then n :: a :: l else if n = a then a :: l else a :: putI l n
theorem putI_mem : ∀ (l : List Int) (n z : Int), z ∈ putI l n ↔ z = n ∨ z ∈ l
  | [], n, z => by simp [putI]
  | a :: l, n, z => by
    unfold putI
    by_cases h : n < a
    · rw [if_pos h]; simp
    · rw [if_neg h]
      by_cases h2 : n = a
      · rw [if_pos h2]; subst h2; simp
      · rw [if_neg h2, List.mem_cons, putI_mem l n z, List.mem_cons]
        constructor
        · rintro (h | h | h) <;> simp [h]
        · rintro (h | h | h) <;> simp [h]
theorem putI_rise : ∀ (l : List Int) (n : Int), Rise l → Rise (putI l n)
  | [], n, _ => trivial
  | a :: l, n, h => by
    unfold putI
    by_cases h1 : n < a
    · rw [if_pos h1]; exact ⟨h1, h⟩
    · rw [if_neg h1]
      by_cases h2 : n = a
      · rw [if_pos h2]; exact h
      · rw [if_neg h2]
        have ih := putI_rise l n h.tail
        cases l with
        | nil => exact ⟨by omega, trivial⟩
        | cons b l =>
          unfold putI at ih ⊢
          by_cases h3 : n < b
          · rw [if_pos h3] at ih ⊢; exact ⟨by omega, ih⟩
          · rw [if_neg h3] at ih ⊢
            by_cases h4 : n = b
            · rw [if_pos h4] at ih ⊢; exact ⟨h.1, ih⟩
            · rw [if_neg h4] at ih ⊢; exact ⟨h.1, ih⟩
/-- Two rectangles that stand one behind the other in the one form. -/
def Adj (s r : Rect) : Prop := (s.2.1 = r.2.1 → s.2.2.2 = r.2.2.2 ∧ s.1 + s.2.2.1 < r.1) ∧ (s.2.1 ≠ r.2.1 → s.2.1 + s.2.2.2 ≤ r.2.1)
def AdjAll : List Rect → Prop
  | s :: r :: l => Adj s r ∧ AdjAll (r :: l)
  | _ => True
theorem adj_band (a c : Int) : ∀ (v : Row) (lo : Int), NF false lo v → AdjAll (rectsOf1 (a, c, v))
  | [], _, _ => trivial
  | [_], _, _ => trivial
  | (x, y, u) :: (z, w, t) :: v, lo, h => by
    obtain ⟨h1, h2, h3, h4, h5⟩ := h
    have ht : t = true := nf_true h4 (z, w, t) (List.mem_cons_self ..)
    have hu : u = true := by cases u <;> simp_all
    have hz : y < z := by
      have := h4.1
      by_cases e : z = y
      · subst e; subst ht; subst hu; exact (h5 _ _ rfl).elim
      · omega
    exact ⟨⟨fun _ => ⟨rfl, by show x + (y - x) < z; omega⟩, fun h => absurd rfl h⟩, adj_band a c ((z, w, t) :: v) y h4⟩
theorem adjAll_append : ∀ (l m : List Rect), AdjAll l → AdjAll m → (∀ s ∈ l, ∀ r ∈ m, Adj s r) → AdjAll (l ++ m)
  | [], m, _, hm, _ => hm
  | [s], [], _, _, _ => trivial
  | [s], r :: m, _, hm, h => ⟨h s (by simp) r (by simp), hm⟩
  | s :: t :: l, m, hl, hm, h => ⟨hl.1, adjAll_append (t :: l) m hl.2 hm fun s hs r hr => h s (List.mem_cons_of_mem _ hs) r hr⟩
theorem adj_bands : ∀ (B : Bands) (lo : Int), NF [] lo B → (∀ b ∈ B, NF false (-1048576) b.2.2) → AdjAll (rectsOf B)
  | [], _, _, _ => trivial
  | (a, c, v) :: B, lo, h, hr => by
    obtain ⟨h1, h2, h3, h4, h5⟩ := h
    show AdjAll (rectsOf1 (a, c, v) ++ rectsOf B)
    refine adjAll_append _ _ (adj_band a c v _ (hr (a, c, v) (List.mem_cons_self ..))) (adj_bands B c h4 fun b hb => hr b (List.mem_cons_of_mem _ hb)) fun s hs r hr => ?_
    obtain ⟨p, _, rfl⟩ := List.mem_map.1 hs
    obtain ⟨b, hb, hr⟩ := List.mem_flatMap.1 hr
    obtain ⟨q, _, rfl⟩ := List.mem_map.1 hr
    have := (nf_bounds h4 (Int.le_refl _) b hb).1
    exact ⟨fun e => by dsimp only at e; omega, fun _ => by show a + (c - a) ≤ b.1; omega⟩
theorem IsReg.adj {l : List Rect} {S : Int → Int → Bool} (h : IsReg l S) : AdjAll l := by
  obtain ⟨B, g, rfl, _⟩ := h
  exact adj_bands B _ g.nf fun b hb => (g.rows b hb).1
theorem IsReg.counts {l : List Rect} {S : Int → Int → Bool} (h : IsReg l S) : ∀ r ∈ l, cnt r = true := by
  obtain ⟨B, g, rfl, _⟩ := h
  exact g.counts
/-! Moved. -/
theorem NF.lower {β : Type} [DecidableEq β] {e : β} {lo lo' : Int} {l : List (Int × Int × β)} (h : NF e lo l) (h2 : ∀ p ∈ l, lo' ≤ p.1) : NF e lo' l := by
  cases l with
  | nil => trivial
  | cons p l => obtain ⟨a, b, v⟩ := p; exact ⟨h2 (a, b, v) (List.mem_cons_self ..), h.2⟩
theorem endOf_all {β : Type} [DecidableEq β] : ∀ (l : List (Int × Int × β)) (lo hi : Int), lo ≤ hi → (∀ p ∈ l, p.2.1 ≤ hi) → endOf lo l ≤ hi
  | [], lo, hi, h, _ => h
  | (a, b, v) :: l, lo, hi, h, h2 => endOf_all l b hi (h2 (a, b, v) (List.mem_cons_self ..)) fun p hp => h2 p (List.mem_cons_of_mem _ hp)
def mv {β : Type} (d : Int) (f : β → β) (l : List (Int × Int × β)) : List (Int × Int × β) := l.map fun p => (p.1 + d, p.2.1 + d, f p.2.2)
theorem mv_nf {β : Type} [DecidableEq β] {e : β} (d : Int) (f : β → β) (hf : ∀ u v, f u = f v → u = v) (he : f e = e) : ∀ (l : List (Int × Int × β)) (lo : Int), NF e lo l → NF e (lo + d) (mv d f l)
  | [], _, _ => trivial
  | (a, b, v) :: l, lo, h => by
    obtain ⟨h1, h2, h3, h4, h5⟩ := h
    refine ⟨Int.add_le_add_right h1 d, Int.add_lt_add_right h2 d, fun h => h3 (hf v e (h.trans he.symm)), mv_nf d f hf he l b h4, fun x l' h => ?_⟩
    cases l with
    | nil => simp [mv] at h
    | cons q l =>
      obtain ⟨c, t, u⟩ := q
      simp only [mv, List.map_cons, List.cons.injEq, Prod.mk.injEq] at h
      have e1 : c = b := by omega
      have e2 := hf u v h.1.2.2
      subst e1; subst e2
      exact h5 _ _ rfl
theorem mv_val {β : Type} [DecidableEq β] {e : β} (d : Int) (f : β → β) (he : f e = e) : ∀ (l : List (Int × Int × β)) (y : Int), val e (mv d f l) y = f (val e l (y - d))
  | [], y => he.symm
  | (a, b, v) :: l, y => by
    show val e ((a + d, b + d, f v) :: mv d f l) y = _
    rw [val_cons, val_cons]
    by_cases h : a ≤ y - d ∧ y - d < b
    · rw [if_pos h, if_pos (by omega)]
    · rw [if_neg h, if_neg (by omega), mv_val d f he l y]
def shiftR (dx dy : Int) (r : Rect) : Rect := (r.1 + dx, r.2.1 + dy, r.2.2.1, r.2.2.2)
theorem mv_inj {β : Type} (d : Int) (f : β → β) (hf : ∀ u v, f u = f v → u = v) : ∀ (l m : List (Int × Int × β)), mv d f l = mv d f m → l = m
  | [], [], _ => rfl
  | [], _ :: _, h => by simp [mv] at h
  | _ :: _, [], h => by simp [mv] at h
  | (a, b, u) :: l, (c, e, v) :: m, h => by
    simp only [mv, List.map_cons, List.cons.injEq, Prod.mk.injEq] at h
    have h1 := hf u v h.1.2.2
    have h2 := mv_inj d f hf l m h.2
    have h3 : a = c := by omega
    have h4 : b = e := by omega
    subst h1; subst h2; subst h3; subst h4; rfl
theorem IsReg.shift {l : List Rect} {S : Int → Int → Bool} (h : IsReg l S) (dx dy : Int) (hc : ∀ r ∈ l, cnt (shiftR dx dy r) = true) : IsReg (l.map (shiftR dx dy)) (fun x y => S (x - dx) (y - dy)) := by
  obtain ⟨B, g, rfl, hs⟩ := h
  have hR : rectsOf (mv dy (mv dx id) B) = (rectsOf B).map (shiftR dx dy) := by
    unfold rectsOf mv
    rw [List.flatMap_map, List.map_flatMap]
    congr 1
    funext b
    unfold rectsOf1
    rw [List.map_map, List.map_map]
    apply List.map_congr_left
    intro s _
    show ((s.1 + dx, b.1 + dy, s.2.1 + dx - (s.1 + dx), b.2.1 + dy - (b.1 + dy)) : Rect) = (s.1 + dx, b.1 + dy, s.2.1 - s.1, b.2.1 - b.1)
    rw [show s.2.1 + dx - (s.1 + dx) = s.2.1 - s.1 by omega, show b.2.1 + dy - (b.1 + dy) = b.2.1 - b.1 by omega]
  have hcc : ∀ b ∈ B, ∀ s ∈ b.2.2, -1048576 ≤ s.1 + dx ∧ s.2.1 + dx ≤ 1048576 ∧ -1048576 ≤ b.1 + dy ∧ b.2.1 + dy ≤ 1048576 := by
    intro b hb s hs
    have := (cnt_iff _).1 (hc (s.1, b.1, s.2.1 - s.1, b.2.1 - b.1) (List.mem_flatMap.2 ⟨b, hb, List.mem_map.2 ⟨s, hs, rfl⟩⟩))
    unfold shiftR at this
    dsimp only at this
    omega
  have hne : ∀ b ∈ B, b.2.2 ≠ [] := fun b hb => (nf_bounds g.nf (Int.le_refl _) b hb).2.2.2
  have hband : ∀ b ∈ B, -1048576 ≤ b.1 + dy ∧ b.2.1 + dy ≤ 1048576 := by
    intro b hb
    cases h : b.2.2 with
    | nil => exact absurd h (hne b hb)
    | cons s v => have := hcc b hb s (by rw [h]; simp); omega
  have hin : ∀ u v : Row, mv dx id u = mv dx id v → u = v := mv_inj dx id (fun _ _ h => h)
  refine ⟨mv dy (mv dx id) B, ⟨?_, ?_, ?_⟩, hR.symm, fun x y => ?_⟩
  · refine (mv_nf dy (mv dx id) hin rfl B _ g.nf).lower fun p hp => ?_
    obtain ⟨b, hb, rfl⟩ := List.mem_map.1 hp
    exact (hband b hb).1
  · refine endOf_all _ _ _ (by decide) fun p hp => ?_
    obtain ⟨b, hb, rfl⟩ := List.mem_map.1 hp
    exact (hband b hb).2
  · intro p hp
    obtain ⟨b, hb, rfl⟩ := List.mem_map.1 hp
    refine ⟨(mv_nf dx id (fun _ _ h => h) rfl b.2.2 _ (g.rows b hb).1).lower fun q hq => ?_, endOf_all _ _ _ (by decide) fun q hq => ?_⟩
    · obtain ⟨s, hs, rfl⟩ := List.mem_map.1 hq
      exact (hcc b hb s hs).1
    · obtain ⟨s, hs, rfl⟩ := List.mem_map.1 hq
      exact (hcc b hb s hs).2.1
  · unfold at_
    rw [mv_val dy (mv dx id) rfl B y, mv_val dx id rfl]
    exact hs _ _
theorem area_shift (dx dy : Int) : ∀ l : List Rect, area0 (l.map (shiftR dx dy)) = area0 l
  | [] => rfl
  | r :: l => by rw [List.map_cons, area0_cons, area0_cons, area_shift dx dy l]; rfl
/-- One rectangle is a region. -/
theorem reg_one (r : Rect) (h : cnt r = true) : IsReg [r] (fun x y => decide (r.1 ≤ x) && decide (x < r.1 + r.2.2.1) && decide (r.2.1 ≤ y) && decide (y < r.2.1 + r.2.2.2)) := by
  have hc := (cnt_iff r).1 h
  refine ⟨[(r.2.1, r.2.1 + r.2.2.2, [(r.1, r.1 + r.2.2.1, true)])], ⟨⟨by omega, by omega, by simp, trivial, fun d l' h => by cases h⟩, by simp only [endOf]; omega, fun b hb => ?_⟩, ?_, fun x y => ?_⟩
  · rw [List.mem_singleton.1 hb]
    exact ⟨⟨by omega, by omega, by simp, trivial, fun d l' h => by cases h⟩, by simp only [endOf]; omega⟩
  · obtain ⟨x, y, w, k⟩ := r
    show [(x, y, w, k)] = [((x, y, x + w - x, y + k - y) : Rect)]
    rw [show x + w - x = w by omega, show y + k - y = k by omega]
  · unfold at_
    rw [val_cons]
    by_cases c : r.2.1 ≤ y ∧ y < r.2.1 + r.2.2.2
    · rw [if_pos c, val_cons]
      by_cases d : r.1 ≤ x ∧ x < r.1 + r.2.2.1
      · rw [if_pos d]; simp [c, d]
      · rw [if_neg d]; simp only [val]; symm; rw [Bool.and_eq_false_iff]; left; rw [Bool.and_eq_false_iff]; left; rw [Bool.and_eq_false_iff, decide_eq_false_iff_not, decide_eq_false_iff_not]; omega
    · rw [if_neg c]; simp only [val]; symm
      by_cases e : r.2.1 ≤ y
      · rw [Bool.and_eq_false_iff]; right; rw [decide_eq_false_iff_not]; omega
      · rw [Bool.and_eq_false_iff]; left; rw [Bool.and_eq_false_iff]; right; rw [decide_eq_false_iff_not]; omega
/-- Numbers, each once, as they rise: put in one by one. -/
def isrt (M : List Int) : List Int := M.foldl putI []
theorem isrt_mem (M : List Int) : ∀ (l : List Int) (z : Int), z ∈ M.foldl putI l ↔ z ∈ M ∨ z ∈ l := by
  induction M with
  | nil => intro l z; simp
  | cons n M ih =>
    intro l z
    rw [List.foldl_cons, ih, putI_mem, List.mem_cons]
    constructor
    · rintro (h | h | h)
      · exact .inl (.inr h)
      · exact .inl (.inl h)
      · exact .inr h
    · rintro ((h | h) | h)
      · exact .inr (.inl h)
      · exact .inl h
      · exact .inr (.inr h)
theorem isrt_rise (M : List Int) : ∀ l : List Int, Rise l → Rise (M.foldl putI l) := by
  induction M with
  | nil => exact fun l h => h
  | cons n M ih => exact fun l h => ih _ (putI_rise l n h)
theorem isrt_sorted (M : List Int) : Sorted M (isrt M) := ⟨isrt_rise M [] trivial, fun z => by unfold isrt; rw [isrt_mem]; simp⟩
theorem srt_isrt (M : List Int) : srt M = isrt M := rise_unique (srt_sorted M).1 (isrt_sorted M).1 (fun z => by rw [(srt_sorted M).2, (isrt_sorted M).2])
theorem putI_len : ∀ (l : List Int) (n : Int), (putI l n).length ≤ l.length + 1
  | [], n => by simp [putI]
  | a :: l, n => by
    unfold putI
    have := putI_len l n
    split
    · simp
    · split
      · simp
      · simp; omega
theorem isrt_len (M : List Int) : (isrt M).length ≤ M.length := by
  have h : ∀ (M l : List Int), (M.foldl putI l).length ≤ l.length + M.length := fun M => by
    induction M with
    | nil => exact fun l => Nat.le_refl _
    | cons n M ih => intro l; rw [List.foldl_cons, List.length_cons]; have h1 := ih (putI l n); have h2 := putI_len l n; omega
  have := h M []
  unfold isrt; simpa using this
end Go.Proofs.Ytkobiblgbpnlaaa.RG

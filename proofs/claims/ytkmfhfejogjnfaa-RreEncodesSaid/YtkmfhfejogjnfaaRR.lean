/- Pieces of one value on a ground; what comes most often: plain. No condition. -/
namespace Go.Proofs.Ytkmfhfejogjnfaa.RR
set_option linter.unusedVariables false
/-- A piece: its value, where it begins, how wide, how high. -/
structure Pc where
  v : Int
  x : Nat
  y : Nat
  w : Nat
  h : Nat
def inP (p : Pc) (x y : Nat) : Bool := decide (p.x ≤ x) && decide (x < p.x + p.w) && decide (p.y ≤ y) && decide (y < p.y + p.h)
def cov (l : List Pc) (x y : Nat) : Bool := l.any fun p => inP p x y
def cnt (l : List Pc) (x y : Nat) : Nat := (l.filter fun p => inP p x y).length
/-- How far it goes on, at most n. -/
def ext (p : Nat → Bool) : Nat → Nat → Nat
  | _, 0 => 0
  | s, n + 1 => if p s = true then 1 + ext p (s + 1) n else 0
theorem ext_le (p : Nat → Bool) : ∀ n s, ext p s n ≤ n
  | 0, s => Nat.le_refl _
  | n + 1, s => by
    unfold ext
    split
    · have := ext_le p n (s + 1); omega
    · omega
theorem ext_all (p : Nat → Bool) : ∀ n s i, i < ext p s n → p (s + i) = true
  | 0, s, i, h => by simp [ext] at h
  | n + 1, s, i, h => by
    unfold ext at h
    split at h
    · cases i with
      | zero => assumption
      | succ i =>
        have := ext_all p n (s + 1) i (by omega)
        rwa [show s + 1 + i = s + (i + 1) by omega] at this
    · omega
theorem ext_congr (p q : Nat → Bool) : ∀ n s, (∀ i, i < n → p (s + i) = q (s + i)) → ext p s n = ext q s n
  | 0, s, _ => rfl
  | n + 1, s, h => by
    have h0 := h 0 (by omega)
    rw [Nat.add_zero] at h0
    unfold ext
    rw [h0, ext_congr p q n (s + 1) (fun i hi => by have := h (i + 1) (by omega); rwa [show s + (i + 1) = s + 1 + i by omega] at this)]
/-- Free for a value: of it, and in no piece. -/
def free (val : Nat → Nat → Int) (l : List Pc) (v : Int) (x y : Nat) : Bool := decide (val x y = v) && !cov l x y
def rowFree (val : Nat → Nat → Int) (l : List Pc) (v : Int) (x y n : Nat) : Bool := (List.range n).all fun i => free val l v (x + i) y
def wide (val : Nat → Nat → Int) (l : List Pc) (w x y : Nat) : Nat := 1 + ext (fun a => free val l (val x y) a y) (x + 1) (w - x - 1)
def high (val : Nat → Nat → Int) (l : List Pc) (w h x y : Nat) : Nat := 1 + ext (fun b => rowFree val l (val x y) x b (wide val l w x y)) (y + 1) (h - y - 1)
def piece (val : Nat → Nat → Int) (l : List Pc) (w h x y : Nat) : Pc := ⟨val x y, x, y, wide val l w x y, high val l w h x y⟩
def step (val : Nat → Nat → Int) (w h : Nat) (g : Int) (l : List Pc) (q : Nat × Nat) : List Pc := if val q.1 q.2 ≠ g ∧ cov l q.1 q.2 = false then l ++ [piece val l w h q.1 q.2] else l
def scan (val : Nat → Nat → Int) (w h : Nat) (g : Int) (ps : List (Nat × Nat)) : List Pc := ps.foldl (step val w h g) []
theorem wide_ok (val : Nat → Nat → Int) (l : List Pc) (w x y : Nat) (hx : x < w) : 1 ≤ wide val l w x y ∧ x + wide val l w x y ≤ w := by
  unfold wide
  have := ext_le (fun a => free val l (val x y) a y) (w - x - 1) (x + 1)
  omega
theorem high_ok (val : Nat → Nat → Int) (l : List Pc) (w h x y : Nat) (hy : y < h) : 1 ≤ high val l w h x y ∧ y + high val l w h x y ≤ h := by
  unfold high
  have := ext_le (fun b => rowFree val l (val x y) x b (wide val l w x y)) (h - y - 1) (y + 1)
  omega
/-- All places of a new piece are of its value, and in no piece so far. -/
theorem piece_free (val : Nat → Nat → Int) (l : List Pc) (w h x y : Nat) (hc : cov l x y = false) (a b : Nat) (hin : inP (piece val l w h x y) a b = true) : val a b = val x y ∧ cov l a b = false := by
  have h0 : (x ≤ a ∧ a < x + wide val l w x y) ∧ (y ≤ b ∧ b < y + high val l w h x y) := by
    unfold inP piece at hin
    simp at hin
    omega
  have hf : ∀ c d : Nat, free val l (val x y) c d = true → val c d = val x y ∧ cov l c d = false := fun c d hfr => by
    simpa [free] using hfr
  by_cases hb : b = y
  · subst hb
    by_cases ha : a = x
    · subst ha; exact ⟨rfl, hc⟩
    · refine hf a b ?_
      have := ext_all (fun a => free val l (val x b) a b) (w - x - 1) (x + 1) (a - (x + 1)) (by unfold wide at h0; omega)
      rwa [show x + 1 + (a - (x + 1)) = a by omega] at this
  · refine hf a b ?_
    have := ext_all (fun d => rowFree val l (val x y) x d (wide val l w x y)) (h - y - 1) (y + 1) (b - (y + 1)) (by unfold high at h0; omega)
    rw [show y + 1 + (b - (y + 1)) = b by omega] at this
    have h2 := List.all_eq_true.1 this (a - x) (List.mem_range.2 (by omega))
    rwa [show x + (a - x) = a by omega] at h2
theorem cov_app (l : List Pc) (p : Pc) (x y : Nat) : cov (l ++ [p]) x y = (cov l x y || inP p x y) := by simp [cov]
theorem cnt_app (l : List Pc) (p : Pc) (x y : Nat) : cnt (l ++ [p]) x y = cnt l x y + (if inP p x y = true then 1 else 0) := by
  unfold cnt
  rw [List.filter_append, List.length_append]
  congr 1
  by_cases h : inP p x y = true <;> simp [h]
theorem cnt_cov (l : List Pc) (x y : Nat) (h : cov l x y = false) : cnt l x y = 0 := by
  unfold cnt
  rw [List.length_eq_zero_iff, List.filter_eq_nil_iff]
  intro p hp hin
  have := List.any_eq_false.1 h p hp
  exact this hin
/-- What holds of the pieces so far. -/
structure Good (val : Nat → Nat → Int) (w h : Nat) (g : Int) (l : List Pc) : Prop where
  sides : ∀ p ∈ l, 1 ≤ p.w ∧ 1 ≤ p.h ∧ p.x + p.w ≤ w ∧ p.y + p.h ≤ h
  value : ∀ p ∈ l, p.v ≠ g ∧ ∀ a b, inP p a b = true → val a b = p.v
  once : ∀ a b, cnt l a b = if cov l a b = true then 1 else 0
theorem Good.nil (val : Nat → Nat → Int) (w h : Nat) (g : Int) : Good val w h g [] := ⟨(fun p hp => by cases hp), (fun p hp => by cases hp), fun a b => rfl⟩
theorem Good.step {val : Nat → Nat → Int} {w h : Nat} {g : Int} {l : List Pc} (H : Good val w h g l) (q : Nat × Nat) (hx : q.1 < w) (hy : q.2 < h) : Good val w h g (step val w h g l q) ∧ (∀ a b, cov l a b = true → cov (RR.step val w h g l q) a b = true) ∧ (val q.1 q.2 ≠ g → cov (RR.step val w h g l q) q.1 q.2 = true) := by
  obtain ⟨x, y⟩ := q
  unfold RR.step
  by_cases hc : val x y ≠ g ∧ cov l x y = false
  · rw [if_pos hc]
    have hw := wide_ok val l w x y hx
    have hh := high_ok val l w h x y hy
    have hp := piece_free val l w h x y hc.2
    refine ⟨⟨fun p hp' => ?_, fun p hp' => ?_, fun a b => ?_⟩, fun a b hab => by rw [cov_app, hab]; rfl, fun _ => ?_⟩
    · rcases List.mem_append.1 hp' with h1 | h1
      · exact H.sides p h1
      · simp at h1; subst h1; exact ⟨hw.1, hh.1, hw.2, hh.2⟩
    · rcases List.mem_append.1 hp' with h1 | h1
      · exact H.value p h1
      · simp at h1; subst h1; exact ⟨hc.1, fun a b hab => (hp a b hab).1⟩
    · rw [cnt_app, cov_app, H.once]
      cases hin : inP (piece val l w h x y) a b with
      | false => simp
      | true => rw [(hp a b hin).2]; rfl
    · rw [cov_app]
      have : inP (piece val l w h x y) x y = true := by
        unfold inP piece
        simp
        omega
      rw [this, Bool.or_true]
  · rw [if_neg hc]
    refine ⟨H, fun a b hab => hab, fun hv => ?_⟩
    cases hcv : cov l x y with
    | true => rfl
    | false => exact absurd ⟨hv, hcv⟩ hc
theorem fold_good {val : Nat → Nat → Int} {w h : Nat} {g : Int} : ∀ (ps : List (Nat × Nat)) (l : List Pc), Good val w h g l → (∀ q ∈ ps, q.1 < w ∧ q.2 < h) →
    Good val w h g (ps.foldl (step val w h g) l) ∧ (∀ a b, cov l a b = true → cov (ps.foldl (step val w h g) l) a b = true) ∧ ∀ q ∈ ps, val q.1 q.2 ≠ g → cov (ps.foldl (step val w h g) l) q.1 q.2 = true
  | [], l, H, _ => ⟨H, fun _ _ h => h, (fun q hq => by cases hq)⟩
  | p :: ps, l, H, hin => by
    obtain ⟨h1, h2, h3⟩ := H.step p (hin p List.mem_cons_self).1 (hin p List.mem_cons_self).2
    obtain ⟨g1, g2, g3⟩ := fold_good ps _ h1 (fun q hq => hin q (List.mem_cons_of_mem _ hq))
    rw [List.foldl_cons]
    refine ⟨g1, fun a b hab => g2 a b (h2 a b hab), fun q hq hv => ?_⟩
    rcases List.mem_cons.1 hq with rfl | hq
    · exact g2 _ _ (h3 hv)
    · exact g3 q hq hv
/-- EACH PLACE THAT IS NOT THE GROUND IS IN JUST ONE PIECE, OF ITS VALUE; NO OTHER IS IN ONE. -/
theorem covers (val : Nat → Nat → Int) (w h : Nat) (g : Int) (ps : List (Nat × Nat)) (hin : ∀ q ∈ ps, q.1 < w ∧ q.2 < h) (hall : ∀ x y, x < w → y < h → (x, y) ∈ ps) :
    Good val w h g (scan val w h g ps) ∧ ∀ x y, x < w → y < h → cnt (scan val w h g ps) x y = if val x y = g then 0 else 1 := by
  obtain ⟨h1, _, h3⟩ := fold_good ps [] (Good.nil val w h g) hin
  refine ⟨h1, fun x y hx hy => ?_⟩
  have ho := h1.once x y
  unfold scan
  by_cases hv : val x y = g
  · rw [if_pos hv, ho]
    cases hc : cov (ps.foldl (step val w h g) []) x y with
    | false => rfl
    | true =>
      obtain ⟨p, hp, hi⟩ := List.any_eq_true.1 hc
      have := h1.value p hp
      exact absurd (((this.2 x y hi).symm.trans hv)) this.1
  · rw [if_neg hv, ho, h3 (x, y) (hall x y hx hy) hv]; rfl
/-- v comes more often than b, or as often and is less. -/
def Better (c : Int → Nat) (v b : Int) : Prop := c b < c v ∨ c v = c b ∧ v < b
instance (c : Int → Nat) (v b : Int) : Decidable (Better c v b) := by unfold Better; infer_instance
theorem Better.trans {c : Int → Nat} {u v b : Int} (h : Better c u v) (k : Better c v b) : Better c u b := by unfold Better at *; omega
/-- r is what comes most often, the least of these; nought, if there is none. -/
def Top (l : List Int) (r : Int) : Prop := (l = [] ∧ r = 0) ∨ (r ∈ l ∧ ∀ v ∈ l, ¬ Better (fun z => l.count z) v r)
theorem Top.unique {l : List Int} {r s : Int} (h : Top l r) (k : Top l s) : r = s := by
  rcases h with ⟨rfl, rfl⟩ | ⟨h1, h2⟩
  · rcases k with ⟨_, rfl⟩ | ⟨k1, _⟩
    · rfl
    · cases k1
  · rcases k with ⟨rfl, rfl⟩ | ⟨k1, k2⟩
    · cases h1
    · have a := h2 s k1
      have b := k2 r h1
      unfold Better at a b
      omega
/-- The program's way: with all counted ahead. -/
def groundP (l : List Int) : Int := l.foldl (fun b v => if Better (fun z => l.count z) v b then v else b) 0
theorem groundP_fold (c : Int → Nat) : ∀ (l : List Int) (b : Int) (P : Int → Prop), P b → (∀ v ∈ l, P v) → P (l.foldl (fun b v => if Better c v b then v else b) b) ∧ (∀ v ∈ l, ¬ Better c v (l.foldl (fun b v => if Better c v b then v else b) b)) ∧ ¬ Better c b (l.foldl (fun b v => if Better c v b then v else b) b)
  | [], b, P, hb, _ => ⟨hb, (fun v hv => by cases hv), fun h => by unfold Better at h; simp at h⟩
  | a :: l, b, P, hb, hl => by
    rw [List.foldl_cons]
    by_cases h : Better c a b
    · rw [if_pos h]
      obtain ⟨h1, h2, h3⟩ := groundP_fold c l a P (hl a List.mem_cons_self) (fun v hv => hl v (List.mem_cons_of_mem _ hv))
      refine ⟨h1, fun v hv => ?_, fun hb' => ?_⟩
      · rcases List.mem_cons.1 hv with rfl | hv
        · exact h3
        · exact h2 v hv
      · exact h3 (h.trans hb')
    · rw [if_neg h]
      obtain ⟨h1, h2, h3⟩ := groundP_fold c l b P hb (fun v hv => hl v (List.mem_cons_of_mem _ hv))
      refine ⟨h1, fun v hv => ?_, h3⟩
      rcases List.mem_cons.1 hv with rfl | hv
      · intro h4
        generalize l.foldl (fun b v => if Better c v b then v else b) b = r at h3 h4
        unfold Better at *
        omega
      · exact h2 v hv
theorem groundP_top (l : List Int) : Top l (groundP l) := by
  unfold groundP
  cases hl : l with
  | nil => exact .inl ⟨rfl, rfl⟩
  | cons a m =>
    rw [← hl]
    obtain ⟨h1, h2, h3⟩ := groundP_fold (fun z => l.count z) l 0 (fun z => z = 0 ∨ z ∈ l) (.inl rfl) (fun v hv => .inr hv)
    refine .inr ⟨?_, h2⟩
    rcases h1 with h1 | h1
    · rw [h1] at h2 ⊢
      by_cases hz : (0 : Int) ∈ l
      · exact hz
      · exfalso
        have ha : a ∈ l := by rw [hl]; exact List.mem_cons_self
        have c1 := List.count_pos_iff.2 ha
        have c2 := List.count_eq_zero.2 hz
        exact h2 a ha (.inl (by show l.count 0 < l.count a; omega))
    · exact h1
/-- The document's way: the best so far, and how often it comes. -/
def groundD (l : List Int) : Int := (l.foldl (fun (s : Int × Nat) v => if s.2 < l.count v ∨ l.count v = s.2 ∧ v < s.1 then (v, l.count v) else s) (0, 0)).1
theorem groundD_fold (c : Int → Nat) : ∀ (l : List Int) (b : Int), (l.foldl (fun (s : Int × Nat) v => if s.2 < c v ∨ c v = s.2 ∧ v < s.1 then (v, c v) else s) (b, c b)) = (l.foldl (fun b v => if Better c v b then v else b) b, c (l.foldl (fun b v => if Better c v b then v else b) b))
  | [], b => rfl
  | a :: l, b => by
    rw [List.foldl_cons, List.foldl_cons]
    by_cases h : Better c a b
    · rw [if_pos h, if_pos (show (b, c b).2 < c a ∨ c a = (b, c b).2 ∧ a < (b, c b).1 from h)]
      exact groundD_fold c l a
    · rw [if_neg h, if_neg (show ¬ ((b, c b).2 < c a ∨ c a = (b, c b).2 ∧ a < (b, c b).1) from h)]
      exact groundD_fold c l b
theorem groundD_top (l : List Int) : Top l (groundD l) := by
  unfold groundD
  cases hl : l with
  | nil => exact .inl ⟨rfl, rfl⟩
  | cons a m =>
    have ha : 0 < (a :: m).count a := List.count_pos_iff.2 List.mem_cons_self
    rw [List.foldl_cons, if_pos (.inl ha), groundD_fold (fun z => (a :: m).count z) m a]
    obtain ⟨h1, h2, h3⟩ := groundP_fold (fun z => (a :: m).count z) m a (fun z => z ∈ a :: m) List.mem_cons_self (fun v hv => List.mem_cons_of_mem _ hv)
    refine .inr ⟨h1, fun v hv => ?_⟩
    rcases List.mem_cons.1 hv with rfl | hv
    · exact h3
    · exact h2 v hv
theorem ground_same (l : List Int) : groundP l = groundD l := (groundP_top l).unique (groundD_top l)
/-- All alike: it is the ground; with one place of another value, too. -/
theorem ground_all (l : List Int) (a : Int) (h0 : l ≠ []) (h : ∀ v ∈ l, v = a) : groundP l = a := by
  rcases groundP_top l with ⟨h1, _⟩ | ⟨h1, _⟩
  · exact absurd h1 h0
  · exact h _ h1
theorem ground_one (l : List Int) (a b : Int) (hab : a ≠ b) (h : ∀ v ∈ l, v = a ∨ v = b) (hb : l.count b = 1) (ha : 2 ≤ l.count a) : groundP l = a := by
  rcases groundP_top l with ⟨h1, _⟩ | ⟨h1, h2⟩
  · subst h1; simp at hb
  · rcases h _ h1 with e | e
    · exact e
    · exfalso
      rw [e] at h2
      exact h2 a (List.count_pos_iff.1 (by omega)) (.inl (by show l.count b < l.count a; omega))
theorem scan_len (val : Nat → Nat → Int) (w h : Nat) (g : Int) : ∀ (ps : List (Nat × Nat)) (l : List Pc), (ps.foldl (step val w h g) l).length ≤ l.length + ps.length
  | [], l => Nat.le_refl _
  | p :: ps, l => by
    rw [List.foldl_cons, List.length_cons]
    refine Nat.le_trans (scan_len val w h g ps _) ?_
    unfold step
    split
    · rw [List.length_append, List.length_singleton]; omega
    · omega
/-- Places of the ground change nothing. -/
theorem scan_ground (val : Nat → Nat → Int) (w h : Nat) (g : Int) : ∀ (ps : List (Nat × Nat)) (l : List Pc), (∀ q ∈ ps, val q.1 q.2 = g ∨ cov l q.1 q.2 = true) → ps.foldl (step val w h g) l = l
  | [], l, _ => rfl
  | p :: ps, l, hq => by
    have h1 : step val w h g l p = l := by
      unfold step
      rw [if_neg]
      rintro ⟨h2, h3⟩
      rcases hq p List.mem_cons_self with h | h
      · exact h2 h
      · rw [h3] at h; cases h
    rw [List.foldl_cons, h1]
    exact scan_ground val w h g ps l (fun q hq' => hq q (List.mem_cons_of_mem _ hq'))
theorem ext_zero (p : Nat → Bool) (s n : Nat) (h : 0 < n → p s = false) : ext p s n = 0 := by
  cases n with
  | zero => rfl
  | succ n => unfold ext; rw [h (by omega)]; simp
/-- One place of another value: one piece, of that place. -/
theorem scan_one (val : Nat → Nat → Int) (w h : Nat) (a b : Int) (hab : a ≠ b) (x y : Nat) (hx : x < w) (hy : y < h) (hv : ∀ c d, val c d = if c = x ∧ d = y then b else a) (ps : List (Nat × Nat)) (hin : (x, y) ∈ ps) :
    scan val w h a ps = [⟨b, x, y, 1, 1⟩] := by
  have hpc : piece val [] w h x y = ⟨b, x, y, 1, 1⟩ := by
    have hb : val x y = b := by rw [hv, if_pos ⟨rfl, rfl⟩]
    have hw : wide val [] w x y = 1 := by
      unfold wide
      rw [ext_zero _ _ _ (fun _ => by unfold free; rw [hb, hv, if_neg (by omega)]; simp [hab])]
    have hh : high val [] w h x y = 1 := by
      unfold high
      rw [ext_zero _ _ _ (fun _ => by
        unfold rowFree
        rw [hw, hb]
        simp only [List.range_one, List.all_cons, List.all_nil, Bool.and_true, Nat.add_zero]
        unfold free
        rw [hv, if_neg (by omega)]
        simp [hab])]
    unfold piece
    rw [hb, hw, hh]
  have key : ∀ (ps : List (Nat × Nat)), (x, y) ∈ ps → ps.foldl (step val w h a) [] = [⟨b, x, y, 1, 1⟩] := by
    intro ps
    induction ps with
    | nil => intro h; cases h
    | cons p ps ih =>
      intro hm
      rw [List.foldl_cons]
      by_cases hp : p = (x, y)
      · subst hp
        have h1 : step val w h a [] (x, y) = [⟨b, x, y, 1, 1⟩] := by
          unfold step
          rw [if_pos ⟨by show val x y ≠ a; rw [hv, if_pos ⟨rfl, rfl⟩]; exact fun e => hab e.symm, rfl⟩]
          show [] ++ [piece val [] w h x y] = _
          rw [hpc]; rfl
        rw [h1]
        refine scan_ground val w h a ps _ (fun q _ => ?_)
        by_cases hq : q.1 = x ∧ q.2 = y
        · right
          simp [cov, inP, hq.1, hq.2]
        · left; rw [hv, if_neg hq]
      · have h1 : step val w h a [] p = [] := by
          unfold step
          rw [if_neg]
          rintro ⟨h2, _⟩
          rw [hv, if_neg (fun e => hp (by obtain ⟨p1, p2⟩ := p; simp only at e; rw [e.1, e.2]))] at h2
          exact h2 rfl
        rw [h1]
        rcases List.mem_cons.1 hm with e | e
        · exact absurd e.symm hp
        · exact ih e
  exact key ps hin
/-- All places, row by row. -/
def places (w h : Nat) : List (Nat × Nat) := (List.range (w * h)).map fun i => (i % w, i / w)
theorem places_in (w h : Nat) : ∀ q ∈ places w h, q.1 < w ∧ q.2 < h := fun q hq => by
  obtain ⟨i, hi, rfl⟩ := List.mem_map.1 hq
  have hlt := List.mem_range.1 hi
  have hw : 0 < w := by
    rcases Nat.eq_zero_or_pos w with e | e
    · rw [e, Nat.zero_mul] at hlt; omega
    · exact e
  exact ⟨Nat.mod_lt _ hw, (Nat.div_lt_iff_lt_mul hw).2 (by rwa [Nat.mul_comm] at hlt)⟩
theorem places_all (w h x y : Nat) (hx : x < w) (hy : y < h) : (x, y) ∈ places w h := by
  refine List.mem_map.2 ⟨y * w + x, List.mem_range.2 ?_, ?_⟩
  · have h1 : (y + 1) * w ≤ h * w := Nat.mul_le_mul_right w hy
    rw [Nat.add_mul, Nat.one_mul] at h1
    rw [Nat.mul_comm w h]
    omega
  · have hw : 0 < w := by omega
    rw [Nat.mul_comm y w, Nat.mul_add_mod, Nat.mod_eq_of_lt hx, Nat.mul_add_div hw, Nat.div_eq_of_lt hx, Nat.add_zero]
theorem places_len (w h : Nat) : (places w h).length = w * h := by simp [places]
theorem pieces_few (val : Nat → Nat → Int) (w h : Nat) (g : Int) : (scan val w h g (places w h)).length ≤ w * h := by
  have := scan_len val w h g (places w h) []
  rw [places_len] at this
  simpa [scan] using this
end Go.Proofs.Ytkmfhfejogjnfaa.RR

/- Pieces, with what is taken held as a row of Bools: plain. No condition. -/
import Derived.Test.YtkmfhfejogjnfaaRR
namespace Go.Proofs.Ytkmfhfejogjnfaa.X
set_option linter.unusedVariables false
/-- So many values from a place on, of a value and not taken. -/
def freeN (vals : List Int) (tk : List Bool) (v : Int) : Nat → Nat → Bool
  | _, 0 => true
  | at_, n + 1 => (decide (vals.getD at_ 0 = v) && !tk.getD at_ false) && freeN vals tk v (at_ + 1) n
/-- So many places from one on are taken. -/
def setN (tk : List Bool) (at_ : Nat) : Nat → List Bool
  | 0 => tk
  | n + 1 => (setN tk at_ n).set (at_ + n) true
/-- So many rows. -/
def setB (tk : List Bool) (at_ w n : Nat) : Nat → List Bool
  | 0 => tk
  | r + 1 => setN (setB tk at_ w n r) (at_ + r * w) n
theorem setN_len (tk : List Bool) (at_ : Nat) : ∀ n, (setN tk at_ n).length = tk.length
  | 0 => rfl
  | n + 1 => by unfold setN; rw [List.length_set, setN_len]
theorem setB_len (tk : List Bool) (at_ w n : Nat) : ∀ r, (setB tk at_ w n r).length = tk.length
  | 0 => rfl
  | r + 1 => by unfold setB; rw [setN_len, setB_len]
def wideP (vals : List Int) (tk : List Bool) (w x y : Nat) : Nat := 1 + RR.ext (fun a => freeN vals tk (vals.getD (y * w + x) 0) (y * w + a) 1) (x + 1) (w - x - 1)
def highP (vals : List Int) (tk : List Bool) (w h x y : Nat) : Nat := 1 + RR.ext (fun b => freeN vals tk (vals.getD (y * w + x) 0) (b * w + x) (wideP vals tk w x y)) (y + 1) (h - y - 1)
theorem wideP_ok (vals : List Int) (tk : List Bool) (w x y : Nat) (hx : x < w) : 1 ≤ wideP vals tk w x y ∧ x + wideP vals tk w x y ≤ w := by
  unfold wideP
  have := RR.ext_le (fun a => freeN vals tk (vals.getD (y * w + x) 0) (y * w + a) 1) (w - x - 1) (x + 1)
  omega
theorem highP_ok (vals : List Int) (tk : List Bool) (w h x y : Nat) (hy : y < h) : 1 ≤ highP vals tk w h x y ∧ y + highP vals tk w h x y ≤ h := by
  unfold highP
  have := RR.ext_le (fun b => freeN vals tk (vals.getD (y * w + x) 0) (b * w + x) (wideP vals tk w x y)) (h - y - 1) (y + 1)
  omega
theorem setN_get (tk : List Bool) (at_ : Nat) : ∀ n i, at_ + n ≤ tk.length → (setN tk at_ n).getD i false = (tk.getD i false || (decide (at_ ≤ i) && decide (i < at_ + n)))
  | 0, i, h => by
    unfold setN
    have : (decide (at_ ≤ i) && decide (i < at_ + 0)) = false := by simp
    rw [this, Bool.or_false]
  | n + 1, i, h => by
    unfold setN
    have ih := setN_get tk at_ n i (by omega)
    by_cases hi : at_ + n = i
    · subst hi
      have h1 : (((setN tk at_ n).set (at_ + n) true)).getD (at_ + n) false = true := by
        rw [List.getD_eq_getElem?_getD, List.getElem?_set_self (by rw [setN_len]; omega)]; rfl
      rw [h1]; simp
    · have h1 : (((setN tk at_ n).set (at_ + n) true)).getD i false = (setN tk at_ n).getD i false := by
        rw [List.getD_eq_getElem?_getD, List.getElem?_set_ne hi, ← List.getD_eq_getElem?_getD]
      rw [h1, ih]
      congr 1
      rw [Bool.eq_iff_iff]; simp; omega
/-- How far places lie apart. -/
theorem row_in {w x y a b n : Nat} (ha : a < w) (hn : x + n ≤ w) : (y * w + x ≤ b * w + a ∧ b * w + a < y * w + x + n) ↔ (b = y ∧ x ≤ a ∧ a < x + n) := by
  constructor
  · rintro ⟨h1, h2⟩
    have e : b = y := by
      rcases Nat.lt_trichotomy b y with h | h | h
      · have : (b + 1) * w ≤ y * w := Nat.mul_le_mul_right w h
        rw [Nat.add_mul, Nat.one_mul] at this; omega
      · exact h
      · have : (y + 1) * w ≤ b * w := Nat.mul_le_mul_right w h
        rw [Nat.add_mul, Nat.one_mul] at this; omega
    subst e
    exact ⟨rfl, by omega, by omega⟩
  · rintro ⟨rfl, h1, h2⟩; omega
theorem setB_get (tk : List Bool) (w h x y n : Nat) (hn : x + n ≤ w) (hl : tk.length = w * h) : ∀ r a b, y + r ≤ h → a < w →
    (setB tk (y * w + x) w n r).getD (b * w + a) false = (tk.getD (b * w + a) false || (decide (x ≤ a) && decide (a < x + n) && decide (y ≤ b) && decide (b < y + r)))
  | 0, a, b, hr, ha => by
    unfold setB
    have : (decide (x ≤ a) && decide (a < x + n) && decide (y ≤ b) && decide (b < y + 0)) = false := by
      rw [Bool.eq_false_iff]; simp; try omega
    rw [this, Bool.or_false]
  | r + 1, a, b, hr, ha => by
    unfold setB
    have h3 : (y + r + 1) * w ≤ h * w := Nat.mul_le_mul_right w hr
    rw [Nat.add_mul, Nat.one_mul, Nat.add_mul, Nat.mul_comm h w] at h3
    rw [setN_get _ _ _ _ (by rw [setB_len, hl]; omega), setB_get tk w h x y n hn hl r a b (by omega) ha]
    have e : (decide (y * w + x + r * w ≤ b * w + a) && decide (b * w + a < y * w + x + r * w + n)) = (decide (b = y + r) && decide (x ≤ a) && decide (a < x + n)) := by
      have := row_in (w := w) (x := x) (y := y + r) (a := a) (b := b) (n := n) ha hn
      rw [Nat.add_mul] at this
      rw [Bool.eq_iff_iff]
      simp only [Bool.and_eq_true, decide_eq_true_eq, and_assoc]
      rw [← this]; omega
    rw [e, Bool.or_assoc]
    congr 1
    rw [Bool.eq_iff_iff]; simp; omega
def valOf (vals : List Int) (w x y : Nat) : Int := vals.getD (y * w + x) 0
/-- What is taken is what is covered. -/
def Agree (w h : Nat) (tk : List Bool) (l : List RR.Pc) : Prop := tk.length = w * h ∧ ∀ x y, x < w → y < h → tk.getD (y * w + x) false = RR.cov l x y
theorem freeN_rowFree {w h : Nat} {vals : List Int} {tk : List Bool} {l : List RR.Pc} (H : Agree w h tk l) (v : Int) (y : Nat) (hy : y < h) : ∀ n x, x + n ≤ w → freeN vals tk v (y * w + x) n = RR.rowFree (valOf vals w) l v x y n
  | 0, x, _ => rfl
  | n + 1, x, hx => by
    unfold freeN
    rw [Nat.add_assoc, freeN_rowFree H v y hy n (x + 1) (by omega), H.2 x y (by omega) hy]
    unfold RR.rowFree
    rw [List.range_succ_eq_map, List.all_cons, List.all_map]
    congr 1
    congr 1
    funext i
    show RR.free _ _ _ (x + 1 + i) y = RR.free _ _ _ (x + (i + 1)) y
    rw [show x + 1 + i = x + (i + 1) by omega]
theorem wideP_eq {w h : Nat} {vals : List Int} {tk : List Bool} {l : List RR.Pc} (H : Agree w h tk l) (x y : Nat) (hx : x < w) (hy : y < h) : wideP vals tk w x y = RR.wide (valOf vals w) l w x y := by
  unfold wideP RR.wide
  congr 1
  refine RR.ext_congr _ _ _ _ (fun i hi => ?_)
  rw [freeN_rowFree H _ y hy 1 (x + 1 + i) (by omega)]
  unfold RR.rowFree
  simp [valOf]
theorem highP_eq {w h : Nat} {vals : List Int} {tk : List Bool} {l : List RR.Pc} (H : Agree w h tk l) (x y : Nat) (hx : x < w) (hy : y < h) : highP vals tk w h x y = RR.high (valOf vals w) l w h x y := by
  unfold highP RR.high
  congr 1
  refine RR.ext_congr _ _ _ _ (fun i hi => ?_)
  rw [wideP_eq H x y hx hy]
  exact freeN_rowFree H _ (y + 1 + i) (by omega) _ x (RR.wide_ok _ _ _ _ _ hx).2
/-- One place: what is taken, and the pieces. -/
def stepP (vals : List Int) (w h : Nat) (g : Int) (s : List Bool × List RR.Pc) (at_ : Nat) : List Bool × List RR.Pc :=
  if vals.getD at_ 0 ≠ g ∧ s.1.getD at_ false = false then
    (setB s.1 (at_ / w * w + at_ % w) w (wideP vals s.1 w (at_ % w) (at_ / w)) (highP vals s.1 w h (at_ % w) (at_ / w)), s.2 ++ [⟨vals.getD (at_ / w * w + at_ % w) 0, at_ % w, at_ / w, wideP vals s.1 w (at_ % w) (at_ / w), highP vals s.1 w h (at_ % w) (at_ / w)⟩])
  else s
theorem at_eq (at_ w : Nat) : at_ / w * w + at_ % w = at_ := by rw [Nat.mul_comm]; exact Nat.div_add_mod at_ w
theorem at_in {at_ w h : Nat} (hat : at_ < w * h) : at_ % w < w ∧ at_ / w < h := by
  have hw : 0 < w := by
    rcases Nat.eq_zero_or_pos w with e | e
    · rw [e, Nat.zero_mul] at hat; omega
    · exact e
  exact ⟨Nat.mod_lt _ hw, (Nat.div_lt_iff_lt_mul hw).2 (by rwa [Nat.mul_comm] at hat)⟩
theorem stepP_len (vals : List Int) (w h : Nat) (g : Int) (s : List Bool × List RR.Pc) (at_ : Nat) : (stepP vals w h g s at_).1.length = s.1.length := by
  unfold stepP; split
  · exact setB_len _ _ _ _ _
  · rfl
theorem stepP_eq {vals : List Int} {w h : Nat} {g : Int} {s : List Bool × List RR.Pc} {at_ : Nat} (H : Agree w h s.1 s.2) (hat : at_ < w * h) :
    (stepP vals w h g s at_).2 = RR.step (valOf vals w) w h g s.2 (at_ % w, at_ / w) ∧ Agree w h (stepP vals w h g s at_).1 (stepP vals w h g s at_).2 := by
  obtain ⟨hx, hy⟩ := at_in hat
  have hc := H.2 _ _ hx hy
  have ha := at_eq at_ w
  unfold stepP RR.step
  have hv : valOf vals w (at_ % w) (at_ / w) = vals.getD at_ 0 := by unfold valOf; rw [ha]
  rw [ha] at hc
  by_cases hcond : vals.getD at_ 0 ≠ g ∧ s.1.getD at_ false = false
  · rw [if_pos hcond, if_pos (by simp only [hv]; rw [← hc]; exact hcond)]
    have hw := wideP_eq (vals := vals) H _ _ hx hy
    have hh := highP_eq (vals := vals) H _ _ hx hy
    have hwo := RR.wide_ok (valOf vals w) s.2 w (at_ % w) (at_ / w) hx
    have hho := RR.high_ok (valOf vals w) s.2 w h (at_ % w) (at_ / w) hy
    refine ⟨?_, ?_, fun a b hA hB => ?_⟩
    · simp only [RR.piece, hw, hh, hv]; rw [ha]
    · simp only [setB_len]; exact H.1
    · simp only [RR.cov_app]
      rw [setB_get s.1 w h _ _ _ (by rw [hw]; omega) H.1 _ _ _ (by rw [hh]; omega) hA, H.2 a b hA hB]
      rfl
  · rw [if_neg hcond, if_neg (by simp only [hv]; rw [← hc]; exact hcond)]
    exact ⟨rfl, H⟩
/-- The pieces of so many places. -/
def runP (vals : List Int) (w h : Nat) (g : Int) (n : Nat) : List Bool × List RR.Pc := (List.range n).foldl (stepP vals w h g) (List.replicate vals.length false, [])
theorem runP_succ (vals : List Int) (w h : Nat) (g : Int) (n : Nat) : runP vals w h g (n + 1) = stepP vals w h g (runP vals w h g n) n := by
  unfold runP; rw [List.range_succ, List.foldl_append]; rfl
theorem runP_len (vals : List Int) (w h : Nat) (g : Int) : ∀ n, (runP vals w h g n).1.length = vals.length
  | 0 => by simp [runP]
  | n + 1 => by rw [runP_succ, stepP_len, runP_len]
theorem getD_rep (n i : Nat) : (List.replicate n false).getD i false = false := by
  rw [List.getD_eq_getElem?_getD, List.getElem?_replicate]; split <;> rfl
theorem runP_eq {vals : List Int} {w h : Nat} {g : Int} (hl : vals.length = w * h) : ∀ n, n ≤ w * h → (runP vals w h g n).2 = ((List.range n).map fun i => (i % w, i / w)).foldl (RR.step (valOf vals w) w h g) [] ∧ Agree w h (runP vals w h g n).1 (runP vals w h g n).2
  | 0, _ => ⟨rfl, by simp [runP, hl], fun x y _ _ => by simp only [runP, List.range_zero, List.foldl_nil]; rw [getD_rep]; rfl⟩
  | n + 1, hn => by
    obtain ⟨h1, h2⟩ := runP_eq (vals := vals) (g := g) hl n (by omega)
    obtain ⟨h3, h4⟩ := stepP_eq (vals := vals) (g := g) h2 (by omega : n < w * h)
    rw [runP_succ]
    refine ⟨?_, h4⟩
    rw [h3, h1, List.range_succ, List.map_append, List.foldl_append]
    rfl
/-- THE PROGRAM'S PIECES ARE THE SCAN'S. -/
theorem runP_scan {vals : List Int} {w h : Nat} {g : Int} (hl : vals.length = w * h) : (runP vals w h g vals.length).2 = RR.scan (valOf vals w) w h g (RR.places w h) := by
  rw [hl]; exact (runP_eq hl _ (Nat.le_refl _)).1
end Go.Proofs.Ytkmfhfejogjnfaa.X

/- The document's pieces and ground, plain: free, Pieces, Ground. No condition. -/
import Derived.Test.YtkmfhfejogjnfaaEV
import Derived.Test.YtkmfhfejogjnfaaXx31
import Derived.Test.YtkmfhfejogjnfaaXx32
import Derived.Test.YtkmfhfejogjnfaaXx30
import Derived.Test.YtkmfhfejogjnfaaXx5
namespace Go.Proofs.Ytkmfhfejogjnfaa.RP
open Go.RowKit Go.Proofs.YtkmfhfejogjnfaaW.PrintWords Go.Proofs.YtkmfhfejogjnfaaW.PrintLast Go.Proofs.YtkmfhfejogjnfaaW.PrintMore Go.Proofs.Ytkmfhfejogjnfaa.B Go.Proofs.Ytkmfhfejogjnfaa.EV Go.Proofs.Ytkmfhfejogjnfaa.X
set_option linter.unusedVariables false
set_option linter.unusedSimpArgs false
def pcD (p : RR.Pc) : S33 := ⟨p.v, ⟨(p.x : Int), (p.y : Int), (p.w : Int), (p.h : Int)⟩⟩
/-- The piece lies within bounds. -/
def Fine (p : RR.Pc) : Prop := p.x + p.w ≤ 1000000 ∧ p.y + p.h ≤ 1000000
theorem wn {n : Nat} (h : n ≤ 1000000000) : wrap64 (n : Int) = (n : Int) := w64 (by omega) (by omega)
theorem wadd {a b : Nat} (h : a + b ≤ 1000000000) : wrap64 ((a : Int) + (b : Int)) = ((a + b : Nat) : Int) := by rw [← Int.natCast_add]; exact wn h
theorem wone {a : Nat} (h : a ≤ 100000000) : wrap64 ((a : Int) + 1) = ((a + 1 : Nat) : Int) := wadd (a := a) (b := 1) (by omega)
theorem wmul {a b : Nat} (h : a * b ≤ 1000000000) : wrap64 ((a : Int) * (b : Int)) = ((a * b : Nat) : Int) := by rw [← Int.natCast_mul]; exact wn h
theorem wat {y w x : Nat} (h : y * w + x ≤ 1000000000) : wrap64 (wrap64 ((y : Int) * (w : Int)) + (x : Int)) = ((y * w + x : Nat) : Int) := by rw [wmul (by omega), wadd h]
theorem rdD (l : List RR.Pc) (i : Nat) (hi : i < l.length) : rd_T33 (l.map pcD) (i : Int) = pcD l[i] := by
  unfold rd_T33
  rw [Int.toNat_natCast, List.getD_eq_getElem?_getD, List.getElem?_eq_getElem (by simpa using hi), List.getElem_map]; rfl
theorem rdV (vals : List Int) (i : Nat) : rd vals (i : Int) = vals.getD i 0 := by unfold rd; rw [Int.toNat_natCast]
theorem in_f (p : RR.Pc) (hp : Fine p) (a b : Nat) : miradorref14_In.f (p.x : Int) (p.y : Int) (p.w : Int) (p.h : Int) (a : Int) (b : Int) = some (RR.inP p a b) := by
  unfold miradorref14_In.f RR.inP
  rw [wadd (by have := hp.1; omega), wadd (by have := hp.2; omega)]
  by_cases h1 : p.x ≤ a
  · rw [if_pos (by omega)]
    by_cases h2 : a < p.x + p.w
    · rw [if_pos (by omega)]
      by_cases h3 : p.y ≤ b
      · rw [if_pos (by omega)]
        have : decide ((b : Int) < ((p.y + p.h : Nat) : Int)) = decide (b < p.y + p.h) := decide_eq_decide.2 (by omega)
        rw [this]; simp [h1, h2, h3]
      · rw [if_neg (by omega)]; simp [h3]
    · rw [if_neg (by omega)]; simp [h2]
  · rw [if_neg (by omega)]; simp [h1]
section
variable {w h : Nat} {vals : List Int} {l : List RR.Pc} (hw : w ≤ 4096) (hh : h ≤ 4096) (hv : vals.length = w * h) (hn9 : w * h ≤ 1000000) (hl : ∀ p ∈ l, Fine p) (hl9 : l.length ≤ 10000000)
theorem free_l1 (hl : ∀ p ∈ l, Fine p) (hl9 : l.length ≤ 10000000) {v : Int} {x y n a : Nat} {r : Bool} (hc : RR.cov l a y = false → Evt (fun k => miradorref17_free.l0 k (w : Int) vals (l.map pcD) v (x : Int) (y : Int) (n : Int) (wrap64 ((a : Int) + 1))) r) (hr : RR.cov l a y = true → r = false) :
    ∀ d i, i + d = l.length → RR.cov (l.take i) a y = false → Evt (fun k => miradorref17_free.l1 k (w : Int) vals (l.map pcD) v (x : Int) (y : Int) (n : Int) (a : Int) (i : Int)) r
  | 0, i, hi, ht => by
    rw [List.take_of_length_le (by omega)] at ht
    refine Evt.step (hc ht) fun k => ?_
    simp only [miradorref17_free.l1]
    rw [if_neg (by rw [List.length_map]; omega)]
  | d + 1, i, hi, ht => by
    have hlt : i < l.length := by omega
    have h1 := in_f l[i] (hl _ (List.getElem_mem hlt)) a y
    by_cases hin : RR.inP l[i] a y = true
    · have hr2 : r = false := hr (List.any_eq_true.2 ⟨_, List.getElem_mem hlt, hin⟩)
      subst hr2
      refine Evt.step (Evt.const false) fun k => ?_
      simp only [miradorref17_free.l1]
      rw [if_pos (by rw [List.length_map]; omega), if_pos (by omega), rdD l i hlt]
      refine bind_eq h1 ?_
      rw [hin]; rfl
    · have hin2 : RR.inP l[i] a y = false := by simpa using hin
      have ih := free_l1 hl hl9 hc hr d (i + 1) (by omega) (by
        rw [List.take_succ_eq_append_getElem hlt, RR.cov_app, ht, hin2]; rfl)
      refine Evt.step ih fun k => ?_
      simp only [miradorref17_free.l1]
      rw [if_pos (by rw [List.length_map]; omega), if_pos (by omega), rdD l i hlt]
      refine bind_eq h1 ?_
      rw [hin2, wone (by omega)]; rfl
theorem rowFree_succ (val : Nat → Nat → Int) (l : List RR.Pc) (v : Int) (x y n : Nat) : RR.rowFree val l v x y (n + 1) = (RR.free val l v x y && RR.rowFree val l v (x + 1) y n) := by
  unfold RR.rowFree
  rw [List.range_succ_eq_map, List.all_cons, List.all_map]
  congr 1
  congr 1
  funext i
  show RR.free _ _ _ (x + (i + 1)) y = RR.free _ _ _ (x + 1 + i) y
  rw [show x + 1 + i = x + (i + 1) by omega]
include hw hh hv hn9 hl hl9
omit hh in
theorem free_l0 (v : Int) (x y n : Nat) (hy : y < h) (hx : x + n ≤ w) : ∀ e j, j + e = n → Evt (fun k => miradorref17_free.l0 k (w : Int) vals (l.map pcD) v (x : Int) (y : Int) (n : Int) ((x + j : Nat) : Int)) (RR.rowFree (X.valOf vals w) l v (x + j) y e)
  | 0, j, hj => by
    refine Evt.step (Evt.const true) fun k => ?_
    simp only [miradorref17_free.l0]
    rw [wadd (by omega), if_neg (by omega)]
  | e + 1, j, hj => by
    have hidx : y * w + (x + j) < w * h := by
      have h3 : (y + 1) * w ≤ h * w := Nat.mul_le_mul_right w hy
      rw [Nat.add_mul, Nat.one_mul, Nat.mul_comm h w] at h3; omega
    rw [rowFree_succ]
    by_cases hval : vals.getD (y * w + (x + j)) 0 = v
    · have hf : RR.free (X.valOf vals w) l v (x + j) y = !RR.cov l (x + j) y := by unfold RR.free; rw [show X.valOf vals w (x + j) y = v from hval]; simp
      rw [hf]
      have ih := free_l0 v x y n hy hx e (j + 1) (by omega)
      refine Evt.step (free_l1 (w := w) (vals := vals) (v := v) (x := x) (n := n) (a := x + j) hl hl9 (fun hcv => ?_) (fun hcv => by rw [hcv]; rfl) l.length 0 (by omega) rfl) fun k => ?_
      · rw [hcv, wone (by omega)]
        exact ih
      · simp only [miradorref17_free.l0]
        rw [wadd (by omega), if_pos (by omega), wat (by omega), if_pos (by omega), if_pos (by omega), rdV, if_pos hval]; rfl
    · have hf : RR.free (X.valOf vals w) l v (x + j) y = false := by unfold RR.free X.valOf; simp only [decide_eq_false hval, Bool.false_and]
      rw [hf, Bool.false_and]
      refine Evt.step (Evt.const false) fun k => ?_
      simp only [miradorref17_free.l0]
      rw [wadd (by omega), if_pos (by omega), wat (by omega), if_pos (by omega), if_pos (by omega), rdV, if_neg hval]
omit hh in
theorem free_f (v : Int) (x y n : Nat) (hy : y < h) (hx : x + n ≤ w) : Evt (fun k => miradorref17_free.f k (w : Int) vals (l.map pcD) v (x : Int) (y : Int) (n : Int)) (RR.rowFree (X.valOf vals w) l v x y n) :=
  (free_l0 hw hv hn9 hl hl9 v x y n hy hx n 0 (by omega)).congr fun k => rfl
omit hl hl9
/-- The pieces of so many places. -/
def runD (vals : List Int) (w h : Nat) (g : Int) (i : Nat) : List RR.Pc := ((List.range i).map fun i => (i % w, i / w)).foldl (RR.step (X.valOf vals w) w h g) []
omit hw hh hv hn9
theorem runD_succ (vals : List Int) (w h : Nat) (g : Int) (i : Nat) : runD vals w h g (i + 1) = RR.step (X.valOf vals w) w h g (runD vals w h g i) (i % w, i / w) := by
  unfold runD; rw [List.range_succ, List.map_append, List.foldl_append]; rfl
theorem runD_good (g : Int) (i : Nat) (hi : i ≤ w * h) : RR.Good (X.valOf vals w) w h g (runD vals w h g i) :=
  (RR.fold_good _ [] (RR.Good.nil _ w h g) (fun q hq => by
    obtain ⟨j, hj, rfl⟩ := List.mem_map.1 hq
    exact at_in (Nat.lt_of_lt_of_le (List.mem_range.1 hj) hi))).1
theorem runD_len (g : Int) (i : Nat) : (runD vals w h g i).length ≤ i := by
  have := RR.scan_len (X.valOf vals w) w h g ((List.range i).map fun i => (i % w, i / w)) []
  simpa [runD] using this
include hw hh hv hn9
theorem pieces_l3 (hl : ∀ p ∈ l, Fine p) (hl9 : l.length ≤ 10000000) (g v : Int) (x y n : Nat) (hx : x + n ≤ w) {r : List S33} : ∀ d m, y + m + d = h →
    Evt (fun k => miradorref17_Pieces.l1 k (w : Int) (h : Int) vals g ((l ++ [(⟨v, x, y, n, m + RR.ext (fun b => RR.rowFree (X.valOf vals w) l v x b n) (y + m) d⟩ : RR.Pc)]).map pcD) (y : Int) (wrap64 ((x : Int) + 1))) r →
    Evt (fun k => miradorref17_Pieces.l3 k (w : Int) (h : Int) vals g (l.map pcD) (y : Int) (x : Int) v (n : Int) (m : Int)) r
  | 0, m, hm, hc => by
    refine Evt.step hc fun k => ?_
    simp only [miradorref17_Pieces.l3, RR.ext]
    rw [wadd (by omega), if_neg (by omega), if_pos (by rw [List.length_map]; omega), List.map_append]; rfl
  | d + 1, m, hm, hc => by
    have hf := free_f hw hv hn9 hl hl9 v x (y + m) n (by omega) hx
    unfold RR.ext at hc
    cases hb : RR.rowFree (X.valOf vals w) l v x (y + m) n with
    | true =>
      rw [hb] at hf
      have ih := pieces_l3 hl hl9 g v x y n hx (r := r) d (m + 1) (by omega) (by
        rw [hb, if_pos rfl] at hc
        rw [show m + 1 + RR.ext (fun b => RR.rowFree (X.valOf vals w) l v x b n) (y + (m + 1)) d = m + (1 + RR.ext (fun b => RR.rowFree (X.valOf vals w) l v x b n) (y + m + 1) d) by rw [show y + (m + 1) = y + m + 1 by omega]; omega]
        exact hc)
      refine Evt.step2 hf ih fun k hk => ?_
      simp only [miradorref17_Pieces.l3]
      rw [wadd (by omega), if_pos (by omega), hk, Option.bind_some, if_pos rfl, wone (by omega)]
    | false =>
      rw [hb] at hf
      rw [hb, if_neg (by decide)] at hc
      refine Evt.step2 hf hc fun k hk => ?_
      simp only [miradorref17_Pieces.l3]
      rw [wadd (by omega), if_pos (by omega), hk, Option.bind_some, if_neg (by decide), if_pos (by rw [List.length_map]; omega), List.map_append]
      rfl
omit hw hh hv hn9 in
theorem rowFree_one (val : Nat → Nat → Int) (l : List RR.Pc) (v : Int) (x y : Nat) : RR.rowFree val l v x y 1 = RR.free val l v x y := by simp [RR.rowFree]
omit hh in
theorem pieces_l2 (hl : ∀ p ∈ l, Fine p) (hl9 : l.length ≤ 10000000) (g v : Int) (x y : Nat) (hy : y < h) {r : List S33} : ∀ d n, x + n + d = w →
    Evt (fun k => miradorref17_Pieces.j5 k (w : Int) (h : Int) vals g (l.map pcD) (y : Int) (x : Int) v ((n + RR.ext (fun a => RR.free (X.valOf vals w) l v a y) (x + n) d : Nat) : Int)) r →
    Evt (fun k => miradorref17_Pieces.l2 k (w : Int) (h : Int) vals g (l.map pcD) (y : Int) (x : Int) v (n : Int)) r
  | 0, n, hn, hc => by
    refine Evt.step hc fun k => ?_
    simp only [miradorref17_Pieces.l2, RR.ext]
    rw [wadd (by omega), if_neg (by omega), Nat.add_zero]
  | d + 1, n, hn, hc => by
    have hf := free_f hw hv hn9 hl hl9 v (x + n) y 1 hy (by omega)
    rw [rowFree_one] at hf
    unfold RR.ext at hc
    cases hb : RR.free (X.valOf vals w) l v (x + n) y with
    | true =>
      rw [hb] at hf
      have ih := pieces_l2 hl hl9 g v x y hy (r := r) d (n + 1) (by omega) (by
        rw [hb, if_pos rfl] at hc
        rw [show n + 1 + RR.ext (fun a => RR.free (X.valOf vals w) l v a y) (x + (n + 1)) d = n + (1 + RR.ext (fun a => RR.free (X.valOf vals w) l v a y) (x + n + 1) d) by rw [show x + (n + 1) = x + n + 1 by omega]; omega]
        exact hc)
      refine Evt.step2 hf ih fun k hk => ?_
      simp only [miradorref17_Pieces.l2]
      rw [wadd (by omega), if_pos (by omega)]
      refine (bind_eq hk rfl).trans ?_
      rw [if_pos rfl, wone (by omega)]
    | false =>
      rw [hb] at hf
      rw [hb, if_neg (by decide)] at hc
      refine Evt.step2 hf hc fun k hk => ?_
      simp only [miradorref17_Pieces.l2]
      rw [wadd (by omega), if_pos (by omega)]
      refine (bind_eq hk rfl).trans ?_
      rw [if_neg (by decide)]
      rfl
omit hv hn9 in
theorem runD_fine (g : Int) (i : Nat) (hi : i ≤ w * h) : ∀ p ∈ runD vals w h g i, Fine p := fun p hp => by
  have := (runD_good (vals := vals) g i hi).sides p hp
  unfold Fine; omega
theorem pieces_l1 (g : Int) (y : Nat) (hy : y < h) {r : List S33} (hc : Evt (fun k => miradorref17_Pieces.l0 k (w : Int) (h : Int) vals g ((runD vals w h g ((y + 1) * w)).map pcD) ((y + 1 : Nat) : Int)) r) : ∀ d x, x + d = w →
    Evt (fun k => miradorref17_Pieces.l1 k (w : Int) (h : Int) vals g ((runD vals w h g (y * w + x)).map pcD) (y : Int) (x : Int)) r
  | 0, x, hx => by
    refine Evt.step hc fun k => ?_
    simp only [miradorref17_Pieces.l1]
    rw [if_neg (by omega), wone (by omega), Nat.add_mul, Nat.one_mul, show x = w by omega]
  | d + 1, x, hx => by
    have hxw : x < w := by omega
    have hidx : y * w + x < w * h := by
      have h3 : (y + 1) * w ≤ h * w := Nat.mul_le_mul_right w hy
      rw [Nat.add_mul, Nat.one_mul, Nat.mul_comm h w] at h3; omega
    have hmod : (y * w + x) % w = x := by rw [Nat.mul_comm, Nat.mul_add_mod, Nat.mod_eq_of_lt hxw]
    have hdiv : (y * w + x) / w = y := by rw [Nat.mul_comm, Nat.mul_add_div (by omega), Nat.div_eq_of_lt hxw, Nat.add_zero]
    have hl := runD_fine (vals := vals) hw hh g (y * w + x) (by omega)
    have hl9 : (runD vals w h g (y * w + x)).length ≤ 10000000 := Nat.le_trans (runD_len g _) (by omega)
    have hs := runD_succ vals w h g (y * w + x)
    rw [hmod, hdiv] at hs
    have ih := pieces_l1 g y hy hc d (x + 1) (by omega)
    rw [show y * w + (x + 1) = y * w + x + 1 by omega, hs] at ih
    obtain ⟨l, hle⟩ : ∃ l, runD vals w h g (y * w + x) = l := ⟨_, rfl⟩
    rw [hle] at hl hl9 ih ⊢
    obtain ⟨v, hve⟩ : ∃ v, vals.getD (y * w + x) 0 = v := ⟨_, rfl⟩
    have hvx : X.valOf vals w x y = v := hve
    have hf := free_f hw hv hn9 hl hl9 v x y 1 hy (by omega)
    rw [rowFree_one] at hf
    have hfc : RR.free (X.valOf vals w) l v x y = !RR.cov l x y := by unfold RR.free; rw [hvx]; simp
    rw [hfc] at hf
    by_cases hst : v ≠ g ∧ RR.cov l x y = false
    · rw [RR.step, if_pos (by rw [show (x, y).1 = x from rfl, show (x, y).2 = y from rfl, hvx]; exact hst)] at ih
      rw [hst.2] at hf
      have h2 := pieces_l2 hw hv hn9 hl hl9 g v x y hy (r := r) (w - x - 1) 1 (by omega) (by
        have e : 1 + RR.ext (fun a => RR.free (X.valOf vals w) l v a y) (x + 1) (w - x - 1) = RR.wide (X.valOf vals w) l w x y := by unfold RR.wide; rw [hvx]
        rw [e]
        refine Evt.step (pieces_l3 hw hh hv hn9 hl hl9 g v x y (RR.wide (X.valOf vals w) l w x y) (RR.wide_ok _ _ _ _ _ hxw).2 (r := r) (h - y - 1) 1 (by omega) ?_) fun k => rfl
        have e2 : 1 + RR.ext (fun b => RR.rowFree (X.valOf vals w) l v x b (RR.wide (X.valOf vals w) l w x y)) (y + 1) (h - y - 1) = RR.high (X.valOf vals w) l w h x y := by unfold RR.high; rw [hvx]
        rw [e2, wone (by omega)]
        have e3 : RR.piece (X.valOf vals w) l w h x y = ⟨v, x, y, RR.wide (X.valOf vals w) l w x y, RR.high (X.valOf vals w) l w h x y⟩ := by unfold RR.piece; rw [hvx]
        rw [← e3]; exact ih)
      refine Evt.step2 hf (Evt.step (f := fun k => miradorref17_Pieces.j3 k (w : Int) (h : Int) vals g (l.map pcD) (y : Int) (x : Int) v false) h2 fun k => by simp only [miradorref17_Pieces.j3]; rfl) fun k hk => ?_
      simp only [miradorref17_Pieces.l1]
      rw [if_pos (by omega), wat (by omega), if_pos (by omega), if_pos (by omega), rdV, hve]
      refine (bind_eq hk rfl).trans ?_
      rw [if_neg hst.1]; rfl
    · rw [RR.step, if_neg (by rw [show (x, y).1 = x from rfl, show (x, y).2 = y from rfl, hvx]; exact hst)] at ih
      have hj : Evt (fun k => miradorref17_Pieces.j3 k (w : Int) (h : Int) vals g (l.map pcD) (y : Int) (x : Int) v true) r := Evt.step ih fun k => by
        simp only [miradorref17_Pieces.j3]
        rw [wone (by omega)]; rfl
      refine Evt.step2 hf hj fun k hk => ?_
      simp only [miradorref17_Pieces.l1]
      rw [if_pos (by omega), wat (by omega), if_pos (by omega), if_pos (by omega), rdV, hve]
      refine (bind_eq hk rfl).trans ?_
      by_cases hvg : v = g
      · rw [if_pos hvg]
      · have hcv : RR.cov l x y = true := by
          cases hcv : RR.cov l x y with
          | true => rfl
          | false => exact absurd ⟨hvg, hcv⟩ hst
        rw [if_neg hvg, hcv]; rfl
theorem pieces_l0 (g : Int) : ∀ d y, y + d = h → Evt (fun k => miradorref17_Pieces.l0 k (w : Int) (h : Int) vals g ((runD vals w h g (y * w)).map pcD) (y : Int)) ((runD vals w h g (w * h)).map pcD)
  | 0, y, hy => by
    refine Evt.step (Evt.const _) fun k => ?_
    simp only [miradorref17_Pieces.l0]
    rw [if_neg (by omega), show y = h by omega, Nat.mul_comm h w]
  | d + 1, y, hy => by
    have ih := pieces_l0 g d (y + 1) (by omega)
    refine Evt.step (pieces_l1 hw hh hv hn9 g y (by omega) ih w 0 (by omega)) fun k => ?_
    simp only [miradorref17_Pieces.l0]
    rw [if_pos (by omega)]; rfl
theorem pieces_f (g : Int) : Evt (fun k => miradorref17_Pieces.f k (w : Int) (h : Int) vals g) ((RR.scan (X.valOf vals w) w h g (RR.places w h)).map pcD) := by
  refine (Evt.step (f := fun k => miradorref17_Pieces.j0 k (w : Int) (h : Int) vals g false) ((pieces_l0 hw hh hv hn9 g h 0 (by omega)).congr (f := fun k => miradorref17_Pieces.l0 k (w : Int) (h : Int) vals g [] 0) fun k => by rw [Nat.zero_mul]; rfl) fun k => ?_).congr fun k => ?_
  · simp only [miradorref17_Pieces.j0]; rfl
  · unfold miradorref17_Pieces.f
    rw [if_neg (by omega), if_neg (by omega), if_neg (by omega), if_neg (by omega), wmul (by omega)]
    have : ((vals.length : Int) != ((w * h : Nat) : Int)) = false := by rw [hv]; simp
    rw [this]
end
/-- No pieces, if the sides or the row don't fit. -/
theorem pieces_none (a0 a1 : Int) (vals : List Int) (g : Int) (h : ¬ (0 ≤ a0 ∧ 0 ≤ a1 ∧ a0 ≤ 4096 ∧ a1 ≤ 4096 ∧ (vals.length : Int) = wrap64 (a0 * a1))) : Evt (fun k => miradorref17_Pieces.f k a0 a1 vals g) [] := by
  have hj : Evt (fun k => miradorref17_Pieces.j0 k a0 a1 vals g true) [] := Evt.step (Evt.const _) fun k => by simp only [miradorref17_Pieces.j0]; rfl
  refine hj.congr fun k => ?_
  unfold miradorref17_Pieces.f
  by_cases h1 : a0 < 0
  · rw [if_pos h1]
  rw [if_neg h1]
  by_cases h2 : a1 < 0
  · rw [if_pos h2]
  rw [if_neg h2]
  by_cases h3 : a0 > 4096
  · rw [if_pos h3]
  rw [if_neg h3]
  by_cases h4 : a1 > 4096
  · rw [if_pos h4]
  rw [if_neg h4]
  have : ((vals.length : Int) != wrap64 (a0 * a1)) = true := by
    rw [bne_iff_ne]; intro e; exact h ⟨by omega, by omega, by omega, by omega, e⟩
  rw [this]
/-- How often a value comes, from a place on. -/
theorem ground_l1 (l : List Int) (hl : l.length ≤ 1000000) (best : Int) (most i : Nat) (hi : i < l.length) {r : Int} (hc : Evt (fun k => if (l.count (l.getD i 0) : Int) > (most : Int) then miradorref17_Ground.l0 k l (l.getD i 0) (l.count (l.getD i 0) : Int) ((i + 1 : Nat) : Int) else if (l.count (l.getD i 0) : Int) = (most : Int) then if l.getD i 0 < best then miradorref17_Ground.l0 k l (l.getD i 0) (l.count (l.getD i 0) : Int) ((i + 1 : Nat) : Int) else miradorref17_Ground.l0 k l best (most : Int) ((i + 1 : Nat) : Int) else miradorref17_Ground.l0 k l best (most : Int) ((i + 1 : Nat) : Int)) r) :
    ∀ d j n, j + d = l.length → n = (l.take j).count (l.getD i 0) → Evt (fun k => miradorref17_Ground.l1 k l best (most : Int) (i : Int) (n : Int) (j : Int)) r
  | 0, j, n, hj, hn => by
    rw [List.take_of_length_le (by omega)] at hn
    subst hn
    refine Evt.step hc fun k => ?_
    simp only [miradorref17_Ground.l1]
    have p0 : (0 : Int) ≤ (i : Int) := by omega
    have p1 : (i : Int) < (l.length : Int) := by omega
    rw [if_neg (by omega)]
    simp only [if_pos p0, if_pos p1, rdV, wone (show i ≤ 100000000 by omega)]
  | d + 1, j, n, hj, hn => by
    have hlt : j < l.length := by omega
    have hg : l.getD j 0 = l[j] := by rw [List.getD_eq_getElem?_getD, List.getElem?_eq_getElem hlt]; rfl
    have hnl : n ≤ j := by rw [hn]; exact Nat.le_trans List.count_le_length (List.length_take_le _ _)
    have ht : (l.take (j + 1)).count (l.getD i 0) = n + if l.getD j 0 = l.getD i 0 then 1 else 0 := by
      rw [List.take_succ_eq_append_getElem hlt, List.count_append, ← hn, hg]
      rw [List.count_singleton]
      by_cases e : l[j] = l.getD i 0
      · rw [if_pos (by simpa using e), if_pos e]
      · rw [if_neg (by simpa using e), if_neg e]
    by_cases e : l.getD j 0 = l.getD i 0
    · rw [if_pos e] at ht
      refine Evt.step (ground_l1 l hl best most i hi hc d (j + 1) (n + 1) (by omega) ht.symm) fun k => ?_
      simp only [miradorref17_Ground.l1]
      rw [if_pos (by omega), if_pos (by omega), if_pos (by omega), if_pos (by omega), rdV, rdV, if_pos e, wone (by omega), wone (by omega)]
    · rw [if_neg e] at ht
      refine Evt.step (ground_l1 l hl best most i hi hc d (j + 1) n (by omega) (by rw [ht]; rfl)) fun k => ?_
      simp only [miradorref17_Ground.l1]
      rw [if_pos (by omega), if_pos (by omega), if_pos (by omega), if_pos (by omega), rdV, rdV, if_neg e, wone (by omega)]
theorem ground_l0 (l : List Int) (hl : l.length ≤ 1000000) : ∀ d i (best : Int) (most : Nat), i + d = l.length → Evt (fun k => miradorref17_Ground.l0 k l best (most : Int) (i : Int)) ((l.drop i).foldl (fun (s : Int × Nat) v => if s.2 < l.count v ∨ l.count v = s.2 ∧ v < s.1 then (v, l.count v) else s) (best, most)).1
  | 0, i, best, most, hi => by
    rw [List.drop_of_length_le (by omega)]
    refine Evt.step (Evt.const _) fun k => ?_
    simp only [miradorref17_Ground.l0]
    rw [if_neg (by omega)]; rfl
  | d + 1, i, best, most, hi => by
    have hlt : i < l.length := by omega
    have hg : l.getD i 0 = l[i] := by rw [List.getD_eq_getElem?_getD, List.getElem?_eq_getElem hlt]; rfl
    rw [List.drop_eq_getElem_cons hlt, List.foldl_cons, ← hg]
    refine Evt.step (ground_l1 l hl best most i hlt ?_ l.length 0 0 (by omega) (by simp)) fun k => ?_
    · obtain ⟨v, hv⟩ : ∃ v, l.getD i 0 = v := ⟨_, rfl⟩
      rw [hv]
      by_cases h1 : most < l.count v
      · rw [if_pos (.inl h1)]
        exact Evt.ite_pos (by omega) (ground_l0 l hl d (i + 1) v (l.count v) (by omega))
      · refine Evt.ite_neg (by omega) ?_
        by_cases h2 : l.count v = most
        · refine Evt.ite_pos (by omega) ?_
          by_cases h3 : v < best
          · rw [if_pos (.inr ⟨h2, h3⟩)]
            exact Evt.ite_pos h3 (ground_l0 l hl d (i + 1) v (l.count v) (by omega))
          · rw [if_neg (by omega)]
            exact Evt.ite_neg h3 (ground_l0 l hl d (i + 1) best most (by omega))
        · rw [if_neg (by omega)]
          exact Evt.ite_neg (by omega) (ground_l0 l hl d (i + 1) best most (by omega))
    · simp only [miradorref17_Ground.l0]
      rw [if_pos (by omega)]; rfl
theorem ground_f (l : List Int) (hl : l.length ≤ 1000000) : Evt (fun k => miradorref17_Ground.f k l) (RR.groundP l) := by
  rw [RR.ground_same]
  exact (ground_l0 l hl l.length 0 0 0 (by omega)).congr fun k => rfl
end Go.Proofs.Ytkmfhfejogjnfaa.RP

/- A screen and the document's image beside it: what each act keeps. No condition. -/
import Derived.Test.YtjcibgopebpkiaaSCV
import Derived.Test.YtjcibgopebpkiaaSCQ
namespace Go.Proofs.Ytjcibgopebpkiaa.SC
open Go.RowKit Go.Proofs.YtjcibgopebpkiaaW.PrintWords Go.Proofs.YtjcibgopebpkiaaW.PrintLast Go.Proofs.YtjcibgopebpkiaaW.PrintMore Go.Proofs.Ytjcibgopebpkiaa.B Go.Proofs.Ytjcibgopebpkiaa.SCP
set_option linter.unusedVariables false
set_option linter.unusedSimpArgs false
/-- A screen in block g, the document's image in block gm. -/
structure St (W0 : World) (g gm : Nat) (w h : Int) (F : Nat → Int) (rb : Nat) (wm hm : Int) (Fm : Nat → Int) (v : Value) (W : World) : Prop where
  scr : Scr W0.heap.size g rb w h F W
  box : W.heap[gm]? = some (.cells #[.int .i64 wm, .int .i64 hm, v] 33 (0, 0))
  row : RI W W0.heap.size (fun q => q ≠ rb) v (lst (wm * hm).toNat Fm)
  below : Below W0.heap.size W0 W
  apart : g ≠ gm ∧ rb ≠ gm ∧ W0.heap.size ≤ gm
theorem St.lt {W0 : World} {g gm : Nat} {w h : Int} {F : Nat → Int} {rb : Nat} {wm hm : Int} {Fm : Nat → Int} {v : Value} {W : World} (s : St W0 g gm w h F rb wm hm Fm v W) : g < W.heap.size ∧ rb < W.heap.size ∧ gm < W.heap.size := ⟨s.scr.1.lt.1, s.scr.1.lt.2, blk_lt s.box⟩
theorem St.below_ {W0 : World} {g gm : Nat} {w h : Int} {F : Nat → Int} {rb : Nat} {wm hm : Int} {Fm : Nat → Int} {v : Value} {W W1 : World} (s : St W0 g gm w h F rb wm hm Fm v W) (hb : Below W.heap.size W W1) : St W0 g gm w h F rb wm hm Fm v W1 :=
  ⟨s.scr.below hb, (hb.block gm (blk_lt s.box)).trans s.box, Kd.R_below s.row hb, s.below.trans (Below.mono hb s.below.size), s.apart⟩
theorem St.dr {W0 : World} {g gm : Nat} {w h : Int} {F : Nat → Int} {rb : Nat} {wm hm : Int} {Fm : Nat → Int} {v : Value} {W : World} (s : St W0 g gm w h F rb wm hm Fm v W) (q : Nat) : St W0 g gm w h F rb wm hm Fm v (W.drewN q) := s.below_ (pw_below_drewN (Below.refl _ _) q)
theorem St.cells {W0 : World} {g gm : Nat} {w h : Int} {F : Nat → Int} {rb : Nat} {wm hm : Int} {Fm : Nat → Int} {v : Value} {W : World} (s : St W0 g gm w h F rb wm hm Fm v W) : W.cell? ⟨gm, 0, none⟩ = some (.int .i64 wm) ∧ W.cell? ⟨gm, 1, none⟩ = some (.int .i64 hm) ∧ W.cell? ⟨gm, 2, none⟩ = some v ∧ W.frozen? ⟨gm, 0, none⟩ = false ∧ W.frozen? ⟨gm, 1, none⟩ = false ∧ W.frozen? ⟨gm, 2, none⟩ = false :=
  ⟨by rw [World.cell?, s.box]; rfl, by rw [World.cell?, s.box]; rfl, by rw [World.cell?, s.box]; rfl, blk_frozen s.box _, blk_frozen s.box _, blk_frozen s.box _⟩
/-- The program has drawn. -/
theorem St.drawn {W0 : World} {g gm : Nat} {w h : Int} {F F1 : Nat → Int} {rb : Nat} {wm hm : Int} {Fm : Nat → Int} {v : Value} {W W1 : World} (s : St W0 g gm w h F rb wm hm Fm v W) (h1 : Scr W0.heap.size g rb w h F1 W1) (hk : KP rb W W1) : St W0 g gm w h F1 rb wm hm Fm v W1 :=
  ⟨h1, (hk.block gm (blk_lt s.box) (Ne.symm s.apart.2.1)).trans s.box, Kd.R_step s.row (fun k hne hlt => hk.block k hlt hne), s.below.trans (hk.below s.scr.1.1.2.1 s.below.size), s.apart⟩
/-- The program has another size. -/
theorem St.resized {W0 : World} {g gm : Nat} {w h w2 h2 : Int} {F F1 : Nat → Int} {rb rb2 : Nat} {wm hm : Int} {Fm : Nat → Int} {v : Value} {W W1 : World} (s : St W0 g gm w h F rb wm hm Fm v W) (h1 : Scr W0.heap.size g rb2 w2 h2 F1 W1) (hr : W.heap.size ≤ rb2) (hk : KP g W W1) : St W0 g gm w2 h2 F1 rb2 wm hm Fm v W1 := by
  have hl := s.lt
  have ht := Kd.R_types s.row (g := g) s.scr.1.2.1 (fun q hq => by
    rcases List.mem_cons.1 hq with rfl | hq
    · decide
    · cases hq)
  refine ⟨h1, (hk.block gm hl.2.2 (Ne.symm s.apart.1)).trans s.box, ?_, s.below.trans (hk.below s.scr.1.1.1 s.below.size), s.apart.1, by omega, s.apart.2.2⟩
  have hb := Kd.R_bound ht
  exact Kd.R_mono (Kd.R_step hb (fun k hk2 hlt => hk.block k hlt hk2.1.2)) (fun k hk2 => by have := hk2.2.2.1; omega)
/-- What the document's functions may write. -/
def Pq (B g rb gm gt : Nat) (q : Nat) : Prop := q ≠ g ∧ q ≠ rb ∧ q ≠ gm ∧ q ≠ gt ∧ B ≤ q
theorem St.free {W0 : World} {g gm gt t : Nat} {cs : Array Value} {w h : Int} {F : Nat → Int} {rb : Nat} {wm hm : Int} {Fm : Nat → Int} {v : Value} {W : World} (s : St W0 g gm w h F rb wm hm Fm v W) (hgt : W.heap[gt]? = some (.cells cs t (0, 0))) (hne : 3 ≠ t) : RI W W0.heap.size (Pq W0.heap.size g rb gm gt) v (lst (wm * hm).toNat Fm) := by
  have h1 := Kd.R_types s.row (g := g) s.scr.1.2.1 (fun q hq => by
    rcases List.mem_cons.1 hq with rfl | hq
    · decide
    · cases hq)
  have h2 := Kd.R_types h1 (g := gm) s.box (fun q hq => by
    rcases List.mem_cons.1 hq with rfl | hq
    · decide
    · cases hq)
  have h3 := Kd.R_types h2 (g := gt) hgt (fun q hq => by
    rcases List.mem_cons.1 hq with rfl | hq
    · exact hne
    · cases hq)
  exact Kd.R_mono (Kd.R_bound h3) (fun k hk => ⟨hk.1.1.1.2, hk.1.1.1.1, hk.1.1.2, hk.1.2, hk.2.1⟩)
/-- The document's image is laid back. -/
theorem St.laid {W0 : World} {g gm gt : Nat} {w h : Int} {F : Nat → Int} {rb : Nat} {wm hm wm2 hm2 : Int} {Fm Fm2 : Nat → Int} {v v2 : Value} {W W1 : World} (s : St W0 g gm w h F rb wm hm Fm v W) (hr : RI W1 W0.heap.size (fun k => Pq W0.heap.size g rb gm gt k ∨ W.heap.size ≤ k) v2 (lst (wm2 * hm2).toNat Fm2)) (hb : Below W0.heap.size W0 W1) (hk : Kept W W1 (fun k => Pq W0.heap.size g rb gm gt k)) :
    St W0 g gm w h F rb wm2 hm2 Fm2 v2 (((W1.setCell ⟨gm, 0, none⟩ (.int .i64 wm2)).setCell ⟨gm, 1, none⟩ (.int .i64 hm2)).setCell ⟨gm, 2, none⟩ v2) := by
  have hl := s.lt
  have hs1 : Scr W0.heap.size g rb w h F W1 := s.scr.keep hk (fun h => h.1 rfl) (fun h => h.2.1 rfl)
  have hbx : W1.heap[gm]? = some (.cells #[.int .i64 wm, .int .i64 hm, v] 33 (0, 0)) := (hk.2 gm hl.2.2 (fun h => h.2.2.1 rfl)).trans s.box
  refine ⟨((hs1.set s.apart.1 s.apart.2.1 0 _).set s.apart.1 s.apart.2.1 1 _).set s.apart.1 s.apart.2.1 2 _, blk_set (blk_set (blk_set hbx 0 _) 1 _) 2 _, ?_, below_put (below_put (below_put hb s.apart.2.2 0 _) s.apart.2.2 1 _) s.apart.2.2 2 _, s.apart⟩
  have hr2 := Kd.R_types hr (g := gm) hbx (fun q hq => by
    rcases List.mem_cons.1 hq with rfl | hq
    · decide
    · cases hq)
  have hr3 := Kd.R_far (Kd.R_far (Kd.R_far hr2 (p := ⟨gm, 0, none⟩) (fun k hk => hk.2) (.int .i64 wm2)) (p := ⟨gm, 1, none⟩) (fun k hk => hk.2) (.int .i64 hm2)) (p := ⟨gm, 2, none⟩) (fun k hk => hk.2) v2
  refine Kd.R_mono hr3 (fun k hk => ?_)
  rcases hk.1 with h | h
  · exact h.2.1
  · show k ≠ rb; omega
theorem rfill_all (K : Nat) (hK : 40000000 ≤ K) (w h x y rw rh c : Int) (F : Nat → Int) (h1 : 1 ≤ w ∧ w ≤ 4096 ∧ 1 ≤ h ∧ h ≤ 4096) : X.miradorref14_Fill.f K w h (lst (w * h).toNat F) x y rw rh c = some (w, h, lst (w * h).toNat (fillG w h x y rw rh c F), fillE w h x y rw rh c) := by
  unfold fillG fillE
  by_cases hin : inside x y rw rh w h
  · by_cases hc : isC c = true
    · rw [if_pos hin, if_pos hc, if_pos ⟨hin, hc⟩]; exact rfill_f K hK w h x y rw rh c F h1 hin hc
    · rw [if_pos hin, if_neg hc, if_neg (fun h => hc h.2)]; exact rfill_odd K hK w h x y rw rh c _ h1 hin (by simpa using hc)
  · rw [if_neg hin, if_neg (fun h => hin h.1)]; exact rfill_out K hK w h x y rw rh c _ h1 hin
theorem rblit_all (K : Nat) (hK : 40000000 ≤ K) (w h x y rw rh : Int) (F : Nat → Int) (xs : List Int) (h1 : 1 ≤ w ∧ w ≤ 4096 ∧ 1 ≤ h ∧ h ≤ 4096) : X.miradorref14_Blit.f K w h (lst (w * h).toNat F) x y rw rh xs = some (w, h, lst (w * h).toNat (blitG w h x y rw rh xs F), blitE w h x y rw rh xs) := by
  unfold blitG blitE
  by_cases hin : inside x y rw rh w h
  · by_cases hc : (xs.length : Int) = rw * rh ∧ xs.all isC = true
    · rw [if_pos hin, if_pos hc, if_pos ⟨hin, hc⟩]
      have := rblit_f K hK w h x y rw rh F (pF xs) xs.length h1 hin hc.1 (by rw [lst_pF]; exact hc.2)
      rw [lst_pF] at this
      exact this
    · rw [if_pos hin, if_neg hc, if_neg (fun h => hc h.2)]
      refine rblit_odd K hK w h x y rw rh _ xs h1 hin ?_
      by_cases hl : (xs.length : Int) = rw * rh
      · right; simpa using fun h => hc ⟨hl, h⟩
      · exact .inl hl
  · rw [if_neg hin, if_neg (fun h => hin h.1)]; exact rblit_out K hK w h x y rw rh _ xs h1 hin
theorem rpart_all (K : Nat) (hK : 40000000 ≤ K) (w h x y rw rh : Int) (F : Nat → Int) (h1 : 1 ≤ w ∧ w ≤ 4096 ∧ 1 ≤ h ∧ h ≤ 4096) : X.miradorref14_Part.f K w h (lst (w * h).toNat F) x y rw rh = some (partXs w h x y rw rh F, partE w h x y rw rh) := by
  unfold partXs partE
  by_cases hin : inside x y rw rh w h
  · rw [if_pos hin, if_pos hin]; exact rpart_f K hK w h x y rw rh F h1 hin
  · rw [if_neg hin, if_neg hin]; exact rpart_out K w h x y rw rh _ h1 hin
theorem rmove_all (K : Nat) (hK : 40000001 ≤ K) (w h x y rw rh tx ty tw th : Int) (F : Nat → Int) (h1 : 1 ≤ w ∧ w ≤ 4096 ∧ 1 ≤ h ∧ h ≤ 4096) (hF : isCF (w * h).toNat F) : X.miradorref14_Move.f K w h (lst (w * h).toNat F) x y rw rh tx ty tw th = some (w, h, lst (w * h).toNat (moveG w h x y rw rh tx ty tw th F), moveE w h x y rw rh tx ty tw th) := by
  unfold moveG moveE
  by_cases hin : inside x y rw rh w h
  · by_cases hin2 : inside tx ty tw th w h
    · by_cases hd : rw = tw ∧ rh = th
      · rw [if_pos hin, if_pos hin2, if_pos hd, if_pos ⟨hin, hin2, hd⟩]
        obtain ⟨rfl, rfl⟩ := hd
        exact rmove_f K hK w h x y rw rh tx ty F h1 hin hin2 hF
      · rw [if_pos hin, if_pos hin2, if_neg hd, if_neg (fun h => hd h.2.2)]; exact rmove_odd1 K hK w h x y rw rh tx ty tw th F h1 hin hin2 (by omega)
    · rw [if_pos hin, if_neg hin2, if_neg (fun h => hin2 h.2.1)]; exact rmove_odd2 K hK w h x y rw rh tx ty tw th F h1 hin hin2
  · rw [if_neg hin, if_neg (fun h => hin h.1)]; exact rmove_out K hK w h x y rw rh tx ty tw th _ h1 hin
theorem partXs_le {w h x y rw rh : Int} {F : Nat → Int} (h1 : 1 ≤ w ∧ w ≤ 4096 ∧ 1 ≤ h ∧ h ≤ 4096) : (partXs w h x y rw rh F).length ≤ 16777216 := by
  unfold partXs
  split
  · rename_i hin
    have hr := rect_le h1 hin
    rw [Int.mul_comm] at hr
    rw [lst_length]; omega
  · simp
/-- Are acts too many? -/
theorem over_f (K : Nat) (w h : Int) (l : List X.S52) (hK : l.length + 3 ≤ K) (hl : l.length ≤ 9223372036854775807) : ∃ r, X.miradorlaw14_over.f K w h l = some r ∧ (r = false → ∀ i, i < l.length → (X.rd_T52 l (i : Int)).f4.length ≤ 500) := by
  have key : ∀ (d k i : Nat), i + d = l.length → d < k → ∃ r, X.miradorlaw14_over.l0 k l i = some r ∧ (r = false → ∀ j, i ≤ j → j < l.length → (X.rd_T52 l (j : Int)).f4.length ≤ 500) := by
    intro d
    induction d with
    | zero =>
      intro k i hd hk
      obtain ⟨k, rfl⟩ : ∃ m, k = m + 1 := ⟨k - 1, by omega⟩
      simp only [X.miradorlaw14_over.l0]
      rw [if_neg (by omega)]
      exact ⟨_, rfl, fun _ j h1 h2 => by omega⟩
    | succ d ih =>
      intro k i hd hk
      obtain ⟨k, rfl⟩ : ∃ m, k = m + 1 := ⟨k - 1, by omega⟩
      obtain ⟨r, hr, hr2⟩ := ih k (i + 1) (by omega) (by omega)
      have hw : wrap64 ((i : Int) + 1) = ((i + 1 : Nat) : Int) := by rw [w64 (by omega) (by omega)]; push_cast; rfl
      simp only [X.miradorlaw14_over.l0]
      rw [if_pos (by omega), if_pos (by omega)]
      split
      · exact ⟨_, rfl, fun h => by cases h⟩
      · rename_i hp
        have hlast : ∀ j, i ≤ j → j < l.length → r = false → (X.rd_T52 l (j : Int)).f4.length ≤ 500 := fun j h1 h2 h3 => by
          by_cases hij : j = i
          · subst hij; omega
          · exact hr2 h3 j (by omega) h2
        split
        · split
          · exact ⟨_, rfl, fun h => by cases h⟩
          · split
            · exact ⟨_, rfl, fun h => by cases h⟩
            · rw [hw]; exact ⟨r, hr, fun h j h1 h2 => hlast j h1 h2 h⟩
        · rw [hw]; exact ⟨r, hr, fun h j h1 h2 => hlast j h1 h2 h⟩
  obtain ⟨k, rfl⟩ : ∃ m, K = m + 1 := ⟨K - 1, by omega⟩
  have hj : ∀ q, ∃ r, X.miradorlaw14_over.j0 (k + 1) l q = some r ∧ (r = false → ∀ i, i < l.length → (X.rd_T52 l (i : Int)).f4.length ≤ 500) := fun q => by
    simp only [X.miradorlaw14_over.j0]
    split
    · exact ⟨_, rfl, fun h => by cases h⟩
    · obtain ⟨r, h1, h2⟩ := key l.length k 0 (by omega) (by omega)
      exact ⟨r, h1, fun h i hi => h2 h i (Nat.zero_le _) hi⟩
  unfold X.miradorlaw14_over.f
  split
  · exact hj _
  · split <;> exact hj _
end Go.Proofs.Ytjcibgopebpkiaa.SC

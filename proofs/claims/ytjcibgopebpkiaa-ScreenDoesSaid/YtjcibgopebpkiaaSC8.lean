/- A screen by its places: what Blit leaves, in plain form; Image, Move. No condition. -/
import Derived.Test.YtjcibgopebpkiaaSC7
namespace Go.Proofs.Ytjcibgopebpkiaa.SC
open Go.RowKit Go.Proofs.YtjcibgopebpkiaaW.PrintWords Go.Proofs.YtjcibgopebpkiaaW.PrintLast Go.Proofs.YtjcibgopebpkiaaW.PrintMore Go.Proofs.Ytjcibgopebpkiaa.B Go.Proofs.Ytjcibgopebpkiaa.SCP
set_option linter.unusedVariables false
set_option linter.unusedSimpArgs false
/-- The place in the rectangle. -/
def idxR (w x y rw : Int) (i : Nat) : Nat := (((i : Int) / w - y) * rw + ((i : Int) % w - x)).toNat
/-- The colours when a rectangle's have been drawn. -/
def blitF (w x y rw rh : Int) (F P : Nat → Int) (i : Nat) : Int := if inR w x y rw rh i then P (idxR w x y rw i) else F i
theorem blitRows_all {w x y rh : Int} {rwn : Nat} {F P : Nat → Int} (hw : 0 < w) (hx : 0 ≤ x) (hy : 0 ≤ y) (hxw : x + rwn ≤ w) (hrh : 0 ≤ rh) (pre : List {k : Nat // (k : Int) < rh}) (hp : pre.map (·.1) = List.range rh.toNat) (i : Nat) : blitRows w x y rwn F P pre i = blitF w x y rwn rh F P i := by
  have key : ∀ n : Nat, (List.range n).foldl (fun (G : Nat → Int) (k : Nat) => fun i => if ((y + k) * w + x).toNat ≤ i ∧ i < ((y + k) * w + x).toNat + rwn then P (k * rwn + (i - ((y + k) * w + x).toNat)) else G i) F i = blitF w x y rwn n F P i := by
    intro n
    induction n with
    | zero => unfold blitF; rw [show ((0 : Nat) : Int) = 0 from rfl, inR_zero]; rfl
    | succ n ih =>
      rw [List.range_succ, List.foldl_append, List.foldl_cons, List.foldl_nil]
      unfold blitF
      rw [inR_succ n i hw hx hxw]
      have h0 : 0 ≤ (y + n) * w := Int.mul_nonneg (by omega) (by omega)
      by_cases hc : (y + n) * w + x ≤ i ∧ (i : Int) < (y + n) * w + x + rwn
      · rw [if_pos (by omega), decide_eq_true hc, Bool.or_true, if_pos rfl]
        congr 1
        have h1 := (@row_iff w x rwn (y + n) i hw hx hxw).1 hc
        have h2 := Int.mul_ediv_add_emod (i : Int) w
        rw [h1.1, Int.mul_comm] at h2
        unfold idxR
        rw [h1.1, show y + (n : Int) - y = n by omega]
        have h3 : 0 ≤ (n : Int) * rwn := Int.mul_nonneg (by omega) (by omega)
        have h4 : ((n * rwn : Nat) : Int) = (n : Int) * rwn := by push_cast; rfl
        omega
      · rw [if_neg (by omega), decide_eq_false hc, Bool.or_false, ih]
        rfl
  have h2 := key rh.toNat
  rw [← hp, List.foldl_map, Int.toNat_of_nonneg hrh] at h2
  exact h2
theorem img_box {W w1 : World} (h3 : Below (W.alloc (.cells #[.int .i64 0, .int .i64 0, .slice none 0 0] 33)).drew.heap.size (W.alloc (.cells #[.int .i64 0, .int .i64 0, .slice none 0 0] 33)).drew w1) :
    w1.heap[W.heap.size]? = some (.cells #[.int .i64 0, .int .i64 0, .slice none 0 0] 33 (0, 0)) ∧ w1.cell? ⟨W.heap.size, 0, none⟩ = some (.int .i64 0) ∧ w1.cell? ⟨W.heap.size, 1, none⟩ = some (.int .i64 0) ∧ w1.cell? ⟨W.heap.size, 2, none⟩ = some (.slice none 0 0) ∧ w1.frozen? ⟨W.heap.size, 0, none⟩ = false ∧ w1.frozen? ⟨W.heap.size, 1, none⟩ = false ∧ w1.frozen? ⟨W.heap.size, 2, none⟩ = false ∧ Below W.heap.size W w1 := by
  have h : w1.heap[W.heap.size]? = some (.cells #[.int .i64 0, .int .i64 0, .slice none 0 0] 33 (0, 0)) := (h3.block W.heap.size (by simp)).trans (heap_alloc_new W _)
  exact ⟨h, by rw [World.cell?, h]; rfl, by rw [World.cell?, h]; rfl, by rw [World.cell?, h]; rfl, blk_frozen h _, blk_frozen h _, blk_frozen h _, (Below.drew (below_alloc (Below.refl _ _) _)).trans (Below.mono h3 (by simp))⟩
set_option maxHeartbeats 1000000 in
set_option maxRecDepth 100000 in
theorem Image_c (B g rb : Nat) (w h : Int) (F : Nat → Int) (W : World) (hs : SIs B g rb w h F W) :
    Calls Try.prog 12 #[.pointer (some ⟨g, 0, none⟩)] W fun e W' => ∃ v, e = .returned (.agg #[.int .i64 w, .int .i64 h, v]) ∧
      W'.ownsRow W.heap.size 3 1 v (w * h).toNat (((List.range (w * h).toNat).map F).map (Value.int .i64)) ∧ Below W.heap.size W W' := by
  obtain ⟨c0, c1, c2⟩ := hs.cells
  have ha := area_le hs.2.2.2.1 hs.2.2.2.2.1 hs.2.2.2.2.2.1 hs.2.2.2.2.2.2
  have hlt := hs.lt
  have HC := Lib.hid (fun (W1 : World) (hb : Below W.heap.size W W1) => Try.slices_Clone_int rb 0 (w * h).toNat (w * h).toNat ((List.range (w * h).toNat).map F) W1 (by simp) (by omega) (fun j hj => by
    have hj2 : j < (w * h).toNat := by simpa using hj
    have := hs.2.2.1.cell j hj2
    rw [Nat.zero_add, hb.cell (p := ⟨rb, j, none⟩) hlt.2, this]
    simp [List.getD_eq_getElem?_getD, hj2]))
  clear hs
  generalize (w * h).toNat = n at *
  go_enter Try.func12, Try.ntmps12
  go_wp2
  go_region_with (go_at_call 40; refine (HC.out _ (by first | exact Below.drew (below_alloc (Below.refl _ _) _) | exact below_alloc (Below.refl _ _) _)).mono ?_; rintro e w1 ⟨v, rfl, h1, _, h3⟩; obtain ⟨A6, c6, rfl⟩ := own_slice h1; obtain ⟨hbx, e0, e1, e2, f0, f1, f2, hbW⟩ := img_box h3; have k0 := pw_cell_below hbW c0; have k1 := pw_cell_below hbW c1; have HBW := Lib.hid hbW; have H1 := Lib.hid h1; have H3 := Lib.hid h3; have HX := Lib.hid hbx; clear h1 h3 hbx hbW)
  all_goals
    have hb2 := blk_set (blk_set (blk_set HX.out 0 (.int .i64 w)) 1 (.int .i64 h)) 2 (.slice A6 n c6)
    have d0 : (((w1.setCell ⟨W.heap.size, 0, none⟩ (.int .i64 w)).setCell ⟨W.heap.size, 1, none⟩ (.int .i64 h)).setCell ⟨W.heap.size, 2, none⟩ (.slice A6 n c6)).cell? ⟨W.heap.size, 0, none⟩ = some (.int .i64 w) := by rw [World.cell?, hb2]; rfl
    have d1 : (((w1.setCell ⟨W.heap.size, 0, none⟩ (.int .i64 w)).setCell ⟨W.heap.size, 1, none⟩ (.int .i64 h)).setCell ⟨W.heap.size, 2, none⟩ (.slice A6 n c6)).cell? ⟨W.heap.size, 1, none⟩ = some (.int .i64 h) := by rw [World.cell?, hb2]; rfl
    have d2 : (((w1.setCell ⟨W.heap.size, 0, none⟩ (.int .i64 w)).setCell ⟨W.heap.size, 1, none⟩ (.int .i64 h)).setCell ⟨W.heap.size, 2, none⟩ (.slice A6 n c6)).cell? ⟨W.heap.size, 2, none⟩ = some (.slice A6 n c6) := by rw [World.cell?, hb2]; rfl
    have HB2 := Lib.hid hb2
    clear hb2 e0 e1 e2 f0 f1 f2 k0 k1
    go_wp2
    refine bodyPost_ret (results_cell_row rfl _ _ W.heap.size 33 #[.int .i64 w, .int .i64 h, .slice A6 n c6] (0, 0) _ rfl HB2.out Try.underlying33 rfl (by kernel_rfl)) rfl ?_
    have h1' := H1.out
    rw [List.take_of_length_le (by simp)] at h1'
    have hne : some (⟨W.heap.size, 0, none⟩ : Addr).block ≠ (Value.slice A6 n c6).ownBlock := fun h => by
      have h8 := own_base h1' _ h.symm
      have h9 : W.heap.size + 1 ≤ W.heap.size := by simpa using h8
      omega
    have ho := own_setCell (own_setCell (own_setCell h1' (p := ⟨W.heap.size, 0, none⟩) hne (.int .i64 w)) (p := ⟨W.heap.size, 1, none⟩) hne (.int .i64 h)) (p := ⟨W.heap.size, 2, none⟩) hne (.slice A6 n c6)
    refine ⟨_, rfl, ?_, ((HBW.out.setCell (p := ⟨W.heap.size, 0, none⟩) (Nat.le_refl _) _).setCell (p := ⟨W.heap.size, 1, none⟩) (Nat.le_refl _) _).setCell (p := ⟨W.heap.size, 2, none⟩) (Nat.le_refl _) _⟩
    refine ⟨ho.1, ho.2.imp id (fun ⟨g', cap, cur, e1, e2, e3⟩ => ⟨g', cap, cur, e1, ?_, e3⟩)⟩
    have h9 : W.heap.size + 1 ≤ g' := by simpa using e2
    omega
end Go.Proofs.Ytjcibgopebpkiaa.SC

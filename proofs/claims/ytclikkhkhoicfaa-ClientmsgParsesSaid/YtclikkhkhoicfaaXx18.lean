/- What each Go function that these laws use answers: as a Lean function, with the proof that the machine's call comes to it. Written by a program of this session (xprint.py). -/
import Derived.Test.YtclikkhkhoicfaaXx0
import Derived.Test.YtclikkhkhoicfaaXx7
import Derived.Test.YtclikkhkhoicfaaXx14
import Derived.Test.YtclikkhkhoicfaaXx15
namespace Go.Proofs.Ytclikkhkhoicfaa.X
open Go.RowKit Go.Proofs.YtclikkhkhoicfaaW.PrintWords Go.Proofs.YtclikkhkhoicfaaW.PrintLast Go.Proofs.YtclikkhkhoicfaaW.PrintMore
attribute [local go_sem] max2_int min2_int max_two min_two max_three min_three max_four min_four   -- for this text's walks alone
set_option linter.unusedVariables false
set_option linter.unusedSimpArgs false

/-! ### clientmsg_reader_encs: function 35 -/
theorem own_kept {W W1 : World} {base : Nat} {e : TypeId} {size n : Nat} {v : Value} {xs : List Value} {S : Nat → Prop} (h : W.ownsRow base e size v n xs) (hk : Kept W W1 S) (hS : ∀ g, base ≤ g → ¬ S g) : W1.ownsRow base e size v n xs :=
  ⟨h.1, h.2.imp id (fun ⟨g, cap, cur, e1, e2, e3, e4⟩ => ⟨g, cap, cur, e1, e2, (hk.2 g (blk_lt e3) (hS g e2)).trans e3, e4⟩)⟩
theorem own_above {W : World} {base base2 : Nat} {e : TypeId} {size n : Nat} {v : Value} {xs : List Value} (h : W.ownsRow base e size v n xs) (hb : base2 ≤ base) : W.ownsRow base2 e size v n xs :=
  ⟨h.1, h.2.imp id (fun ⟨g, cap, cur, e1, e2, e3⟩ => ⟨g, cap, cur, e1, by omega, e3⟩)⟩
theorem own_drew {W : World} {base : Nat} {e : TypeId} {size n : Nat} {v : Value} {xs : List Value} (h : W.ownsRow base e size v n xs) : W.drew.ownsRow base e size v n xs := h
theorem own_drewN {W : World} {base : Nat} {e : TypeId} {size n : Nat} {v : Value} {xs : List Value} (h : W.ownsRow base e size v n xs) (m : Nat) : (W.drewN m).ownsRow base e size v n xs := h
theorem Below.drewN_ {B : Nat} (W : World) (m : Nat) : Below B W (W.drewN m) := ⟨rfl, rfl, rfl, Nat.le_refl _, fun _ _ => rfl⟩
theorem own_ne_ {W : World} {base : Nat} {e : TypeId} {size n : Nat} {v : Value} {xs : List Value} (h : W.ownsRow base e size v n xs) {k : Nat} (hk : k < base) : some k ≠ v.ownBlock := fun e1 => by have := own_base h k e1.symm; omega
theorem Cu.grown {w0 : World} {g : Nat} {q : CS} {W W1 : World} {row : Option Nat} (h : Cu w0 g q W) (hg : W.grownBy W1 row) (h2 : some g ≠ row) (h3 : ∀ k, row = some k → w0.heap.size ≤ k) : Cu w0 g q W1 :=
  ⟨⟨(hg.block g h.lt h2).trans h.1.1, h.1.2⟩, ⟨hg.os.trans h.low.os, hg.tape.trans h.low.tape, hg.output.trans h.low.output, Nat.le_trans h.low.size hg.size, fun k hk => (hg.block k (by have := h.low.size; omega) (fun e => by have := h3 k e.symm; omega)).trans (h.low.block k hk)⟩⟩
theorem KeptC.grown {g : Nat} {W W1 W2 : World} {row : Option Nat} (h : KeptC g W W1) (hg : W1.grownBy W2 row) (h3 : ∀ k, row = some k → W.heap.size ≤ k) : KeptC g W W2 :=
  ⟨Nat.le_trans h.1 hg.size, fun i hi hn => (hg.block i (Nat.lt_of_lt_of_le hi h.1) (fun e => by have := h3 i e.symm; omega)).trans (h.2 i hi hn)⟩
def encsL : Nat → CS → Option (List Int × CS)
  | 0, q => some ([], q)
  | n + 1, q => (signedC q).bind fun p => (encsL n p.2).map fun r => (p.1 :: r.1, r.2)
theorem encsL_len : ∀ (n : Nat) (q : CS) (r : List Int × CS), encsL n q = some r → r.1.length = n
  | 0, q, r, h => by obtain rfl := Option.some.inj h; rfl
  | n + 1, q, r, h => by
    obtain ⟨p, h1, h2⟩ := Option.bind_eq_some_iff.1 h
    obtain ⟨r2, h3, rfl⟩ := Option.map_eq_some_iff.1 h2
    simp [encsL_len n p.2 r2 h3]
def encsC (q : CS) : Option ((List Int × Int) × CS) := (bytesC q 1).bind fun a => (intC a.2 2).bind fun n => if n.1 > 256 then some (([], 4), n.2) else if 0 ≤ n.1 then (encsL n.1.toNat n.2).map fun r => ((r.1, 0), r.2) else none
theorem encs_cut {w0 W X w2 : World} {g k gg cap : Nat} {v : Value} {q : CS} {xs : List Int} {x : Int} (hC : Cu w0 g q X) (hK : KeptC g W X) (hx : X.heap[W.heap.size]? = some (.cells #[.pointer (some ⟨g, 0, none⟩)] 48 (0, 0))) (hy : X.heap[W.heap.size + 1]? = some (.cells #[.int .i64 0, .bool false, .int .i64 0, .int .i64 0, .int .i64 0, .int .i64 0, .int .i64 0, .int .i64 0, .int .i64 0, .bool false, .bool false, .int .i64 0, .int .i64 0, .int .i64 0, .int .i64 0, .int .i64 0, .int .i64 0, .slice none 0 0, .string ⟨#[]⟩] 30 (0, 0))) (hz : X.heap[W.heap.size + 2]? = some (.cells #[.int .i64 1, .bool false, .int .i64 0, .int .i64 0, .int .i64 0, .int .i64 0, .int .i64 0, .int .i64 0, .int .i64 0, .bool false, .bool false, .int .i64 0, .int .i64 0, .int .i64 0, .int .i64 0, .int .i64 0, .int .i64 0, v, .string ⟨#[]⟩] 30 (0, 0)))
    (hO : X.ownsRow (W.heap.size + 3) 3 1 v k (xs.map (Value.int .i64))) (hown : w2.ownsRow (W.heap.size + 3) 3 1 (.slice (some ⟨gg, 0, none⟩) (k + 1) cap) (k + 1) (xs.map (Value.int .i64) ++ [.int .i64 x])) (hgrow : (X.alloc (.cells #[.int .i64 x] 3)).grownBy w2 v.ownBlock) (hg : g < W.heap.size) (hge : w0.heap.size ≤ W.heap.size) :
    ∃ A' c', Hid ((w2.setCell ⟨W.heap.size + 2, 17, none⟩ (.slice (some ⟨gg, 0, none⟩) (k + 1) cap)).heap[W.heap.size]? = some (.cells #[.pointer (some ⟨g, 0, none⟩)] 48 (0, 0))) ∧ Hid ((w2.setCell ⟨W.heap.size + 2, 17, none⟩ (.slice (some ⟨gg, 0, none⟩) (k + 1) cap)).heap[W.heap.size + 1]? = some (.cells #[.int .i64 0, .bool false, .int .i64 0, .int .i64 0, .int .i64 0, .int .i64 0, .int .i64 0, .int .i64 0, .int .i64 0, .bool false, .bool false, .int .i64 0, .int .i64 0, .int .i64 0, .int .i64 0, .int .i64 0, .int .i64 0, .slice none 0 0, .string ⟨#[]⟩] 30 (0, 0))) ∧ Hid ((w2.setCell ⟨W.heap.size + 2, 17, none⟩ (.slice (some ⟨gg, 0, none⟩) (k + 1) cap)).heap[W.heap.size + 2]? = some (.cells #[.int .i64 1, .bool false, .int .i64 0, .int .i64 0, .int .i64 0, .int .i64 0, .int .i64 0, .int .i64 0, .int .i64 0, .bool false, .bool false, .int .i64 0, .int .i64 0, .int .i64 0, .int .i64 0, .int .i64 0, .int .i64 0, .slice A' (k + 1) c', .string ⟨#[]⟩] 30 (0, 0))) ∧ Hid ((w2.setCell ⟨W.heap.size + 2, 17, none⟩ (.slice (some ⟨gg, 0, none⟩) (k + 1) cap)).ownsRow (W.heap.size + 3) 3 1 (.slice A' (k + 1) c') (k + 1) ((xs ++ [x]).map (Value.int .i64))) ∧ Hid (Cu w0 g q (w2.setCell ⟨W.heap.size + 2, 17, none⟩ (.slice (some ⟨gg, 0, none⟩) (k + 1) cap))) ∧ Hid (KeptC g W (w2.setCell ⟨W.heap.size + 2, 17, none⟩ (.slice (some ⟨gg, 0, none⟩) (k + 1) cap))) := by
  have hX : Below X.heap.size X (X.alloc (.cells #[.int .i64 x] 3)) := below_alloc (Below.refl _ _) _
  have hrow : ∀ j, v.ownBlock = some j → W.heap.size + 3 ≤ j := fun j hj => own_base hO j hj
  have n0 := own_ne_ hO (show W.heap.size < W.heap.size + 3 by omega)
  have n1 := own_ne_ hO (show W.heap.size + 1 < W.heap.size + 3 by omega)
  have n2 := own_ne_ hO (show W.heap.size + 2 < W.heap.size + 3 by omega)
  have n3 := own_ne_ hO (show g < W.heap.size + 3 by omega)
  have h0 := (hgrow.block _ (blk_lt (blk_below hx hX)) n0).trans (blk_below hx hX)
  have h1 := (hgrow.block _ (blk_lt (blk_below hy hX)) n1).trans (blk_below hy hX)
  have h2 := (hgrow.block _ (blk_lt (blk_below hz hX)) n2).trans (blk_below hz hX)
  refine ⟨some ⟨gg, 0, none⟩, cap, Lib.hid (blk_far h0 (by show W.heap.size ≠ W.heap.size + 2; omega) _), Lib.hid (blk_far h1 (by show W.heap.size + 1 ≠ W.heap.size + 2; omega) _), Lib.hid (blk_put h2 17 _ rfl), Lib.hid ?_, Lib.hid (((hC.below hX).grown hgrow n3 (fun j hj => by have := hrow j hj; omega)).far (p := ⟨W.heap.size + 2, 17, none⟩) (by show W.heap.size + 2 ≠ g; omega) (by show w0.heap.size ≤ W.heap.size + 2; omega) _), Lib.hid (KeptC.set (p := ⟨W.heap.size + 2, 17, none⟩) ((hK.trans (KeptC.below hX)).grown hgrow (fun j hj => by have := hrow j hj; omega)) (by show W.heap.size ≤ W.heap.size + 2; omega) _)⟩
  rw [List.map_append]
  exact own_kept hown (Kept.setCell (S := fun j => j = W.heap.size + 2) (p := ⟨W.heap.size + 2, 17, none⟩) (Kept.refl w2 _) (.inl rfl) _) (fun j hj e => by omega)
section
attribute [local go_sem ↓] exec_store_msg exec_load_msg
attribute [local go_sem] store_msg load_msg
set_option maxHeartbeats 4000000 in
set_option maxRecDepth 100000 in
theorem encs_k (w0 : World) (g : Nat) (q : CS) (l0 : List Int) (er : Int) (q' : CS) (W : World) (h : Cu w0 g q W) (hf : encsC q = some ((l0, er), q')) :
    Calls Try.prog 35 #[.agg #[.pointer (some ⟨g, 0, none⟩)]] W fun e W' => ∃ A c, e = .returned (.tuple #[.agg #[.int .i64 1, .bool false, .int .i64 0, .int .i64 0, .int .i64 0, .int .i64 0, .int .i64 0, .int .i64 0, .int .i64 0, .bool false, .bool false, .int .i64 0, .int .i64 0, .int .i64 0, .int .i64 0, .int .i64 0, .int .i64 0, .slice A l0.length c, .string ⟨#[]⟩], .int .i64 er]) ∧ W'.ownsRow (W.heap.size + 3) 3 1 (.slice A l0.length c) l0.length (l0.map (Value.int .i64)) ∧ Cu w0 g q' W' ∧ KeptC g W W' := by
  obtain ⟨i0, hi, hz0, hz1, hz2⟩ := info_parts info3
  have HI := Lib.hid hi
  have HI0 := Lib.hid hz0
  have HI1 := Lib.hid hz1
  have HI2 := Lib.hid hz2
  clear hi hz0 hz1 hz2
  unfold encsC at hf
  obtain ⟨⟨b0, q1⟩, e0, hf⟩ := Option.bind_eq_some_iff.1 hf
  obtain ⟨⟨n, q2⟩, e1, hf⟩ := Option.bind_eq_some_iff.1 hf
  have E0 := Lib.hid e0
  have E1 := Lib.hid e1
  have HF := Lib.hid hf
  clear e0 e1 hf
  have hgl := h.lt
  have hgw := h.low.size
  have HGL := Lib.hid hgl
  have HGW := Lib.hid hgw
  obtain ⟨Wa, hWa⟩ : ∃ X, (((W.alloc (.cells #[.pointer (some ⟨g, 0, none⟩)] 48)).alloc (.cells #[.int .i64 0, .bool false, .int .i64 0, .int .i64 0, .int .i64 0, .int .i64 0, .int .i64 0, .int .i64 0, .int .i64 0, .bool false, .bool false, .int .i64 0, .int .i64 0, .int .i64 0, .int .i64 0, .int .i64 0, .int .i64 0, .slice none 0 0, .string ⟨#[]⟩] 30)).alloc (.cells #[.int .i64 0, .bool false, .int .i64 0, .int .i64 0, .int .i64 0, .int .i64 0, .int .i64 0, .int .i64 0, .int .i64 0, .bool false, .bool false, .int .i64 0, .int .i64 0, .int .i64 0, .int .i64 0, .int .i64 0, .int .i64 0, .slice none 0 0, .string ⟨#[]⟩] 30)).setRow (W.heap.size + 1 + 1) #[.int .i64 1, .bool false, .int .i64 0, .int .i64 0, .int .i64 0, .int .i64 0, .int .i64 0, .int .i64 0, .int .i64 0, .bool false, .bool false, .int .i64 0, .int .i64 0, .int .i64 0, .int .i64 0, .int .i64 0, .int .i64 0, .slice none 0 0, .string ⟨#[]⟩] = X := ⟨_, rfl⟩
  have hbz := below_alloc (below_alloc (below_alloc (Below.refl W.heap.size W) (.cells #[.pointer (some ⟨g, 0, none⟩)] 48)) (.cells #[.int .i64 0, .bool false, .int .i64 0, .int .i64 0, .int .i64 0, .int .i64 0, .int .i64 0, .int .i64 0, .int .i64 0, .bool false, .bool false, .int .i64 0, .int .i64 0, .int .i64 0, .int .i64 0, .int .i64 0, .int .i64 0, .slice none 0 0, .string ⟨#[]⟩] 30)) (.cells #[.int .i64 0, .bool false, .int .i64 0, .int .i64 0, .int .i64 0, .int .i64 0, .int .i64 0, .int .i64 0, .int .i64 0, .bool false, .bool false, .int .i64 0, .int .i64 0, .int .i64 0, .int .i64 0, .int .i64 0, .int .i64 0, .slice none 0 0, .string ⟨#[]⟩] 30)
  have hz9 : (((W.alloc (.cells #[.pointer (some ⟨g, 0, none⟩)] 48)).alloc (.cells #[.int .i64 0, .bool false, .int .i64 0, .int .i64 0, .int .i64 0, .int .i64 0, .int .i64 0, .int .i64 0, .int .i64 0, .bool false, .bool false, .int .i64 0, .int .i64 0, .int .i64 0, .int .i64 0, .int .i64 0, .int .i64 0, .slice none 0 0, .string ⟨#[]⟩] 30)).alloc (.cells #[.int .i64 0, .bool false, .int .i64 0, .int .i64 0, .int .i64 0, .int .i64 0, .int .i64 0, .int .i64 0, .int .i64 0, .bool false, .bool false, .int .i64 0, .int .i64 0, .int .i64 0, .int .i64 0, .int .i64 0, .int .i64 0, .slice none 0 0, .string ⟨#[]⟩] 30)).heap[W.heap.size + 1 + 1]? = some (.cells #[.int .i64 0, .bool false, .int .i64 0, .int .i64 0, .int .i64 0, .int .i64 0, .int .i64 0, .int .i64 0, .int .i64 0, .bool false, .bool false, .int .i64 0, .int .i64 0, .int .i64 0, .int .i64 0, .int .i64 0, .int .i64 0, .slice none 0 0, .string ⟨#[]⟩] 30 (0, 0)) := by have h0 := heap_alloc_new ((W.alloc (.cells #[.pointer (some ⟨g, 0, none⟩)] 48)).alloc (.cells #[.int .i64 0, .bool false, .int .i64 0, .int .i64 0, .int .i64 0, .int .i64 0, .int .i64 0, .int .i64 0, .int .i64 0, .bool false, .bool false, .int .i64 0, .int .i64 0, .int .i64 0, .int .i64 0, .int .i64 0, .int .i64 0, .slice none 0 0, .string ⟨#[]⟩] 30)) (.cells #[.int .i64 0, .bool false, .int .i64 0, .int .i64 0, .int .i64 0, .int .i64 0, .int .i64 0, .int .i64 0, .int .i64 0, .bool false, .bool false, .int .i64 0, .int .i64 0, .int .i64 0, .int .i64 0, .int .i64 0, .int .i64 0, .slice none 0 0, .string ⟨#[]⟩] 30); rwa [World.size_alloc, World.size_alloc] at h0
  have hst : rowAt (((W.alloc (.cells #[.pointer (some ⟨g, 0, none⟩)] 48)).alloc (.cells #[.int .i64 0, .bool false, .int .i64 0, .int .i64 0, .int .i64 0, .int .i64 0, .int .i64 0, .int .i64 0, .int .i64 0, .bool false, .bool false, .int .i64 0, .int .i64 0, .int .i64 0, .int .i64 0, .int .i64 0, .int .i64 0, .slice none 0 0, .string ⟨#[]⟩] 30)).alloc (.cells #[.int .i64 0, .bool false, .int .i64 0, .int .i64 0, .int .i64 0, .int .i64 0, .int .i64 0, .int .i64 0, .int .i64 0, .bool false, .bool false, .int .i64 0, .int .i64 0, .int .i64 0, .int .i64 0, .int .i64 0, .int .i64 0, .slice none 0 0, .string ⟨#[]⟩] 30)) (W.heap.size + 1 + 1) 30 19 = true := rowAt_of hz9 rfl
  have HXa := Lib.hid (show Wa.heap[W.heap.size]? = some (.cells #[.pointer (some ⟨g, 0, none⟩)] 48 (0, 0)) from by rw [← hWa]; exact (setRow_other _ _ _ _ (by omega)).trans ((Below.heap_alloc _ _ _ (by simp <;> omega)).trans ((Below.heap_alloc _ _ _ (by simp)).trans (heap_alloc_new W _))))
  have HYa := Lib.hid (show Wa.heap[W.heap.size + 1]? = some (.cells #[.int .i64 0, .bool false, .int .i64 0, .int .i64 0, .int .i64 0, .int .i64 0, .int .i64 0, .int .i64 0, .int .i64 0, .bool false, .bool false, .int .i64 0, .int .i64 0, .int .i64 0, .int .i64 0, .int .i64 0, .int .i64 0, .slice none 0 0, .string ⟨#[]⟩] 30 (0, 0)) from by rw [← hWa]; exact (setRow_other _ _ _ _ (by omega)).trans ((Below.heap_alloc _ _ _ (by simp)).trans (by have h0 := heap_alloc_new (W.alloc (.cells #[.pointer (some ⟨g, 0, none⟩)] 48)) (.cells #[.int .i64 0, .bool false, .int .i64 0, .int .i64 0, .int .i64 0, .int .i64 0, .int .i64 0, .int .i64 0, .int .i64 0, .bool false, .bool false, .int .i64 0, .int .i64 0, .int .i64 0, .int .i64 0, .int .i64 0, .int .i64 0, .slice none 0 0, .string ⟨#[]⟩] 30); rwa [World.size_alloc] at h0)))
  have HZa := Lib.hid (show Wa.heap[W.heap.size + 2]? = some (.cells #[.int .i64 1, .bool false, .int .i64 0, .int .i64 0, .int .i64 0, .int .i64 0, .int .i64 0, .int .i64 0, .int .i64 0, .bool false, .bool false, .int .i64 0, .int .i64 0, .int .i64 0, .int .i64 0, .int .i64 0, .int .i64 0, .slice none 0 0, .string ⟨#[]⟩] 30 (0, 0)) from by rw [← hWa]; exact setRow_heap _ _ _ _ _ _ hz9)
  have HCa := Lib.hid (show Cu w0 g q Wa from by rw [← hWa]; exact (h.below hbz).row (by omega) (by omega) _)
  have HKa := Lib.hid (show KeptC g W Wa from by rw [← hWa]; exact (KeptC.below hbz).row (by omega) _)
  have nb0 : W.heap.size ≠ g := by omega
  have nb1 : W.heap.size + 1 ≠ g := by omega
  have nb2 : W.heap.size + 2 ≠ g := by omega
  have HGE := Lib.hid (show w0.heap.size ≤ W.heap.size + 1 from by omega)
  have y0 : Wa.cell? ⟨W.heap.size, 0, none⟩ = some (.pointer (some ⟨g, 0, none⟩)) := (blk_cell HXa.out 0).trans rfl
  clear h hz9 hbz hgl hgw
  go_enter Try.func35, Try.ntmps35
  go_upto_region 2 with (fail)
  try rw [hWa]
  clear hWa hst
  go_wp2_with fail
  refine (bytes_k w0 g q 1 b0 q1 Wa HCa.out E0.out).mono ?_
  rintro en W1 ⟨rfl, h1, hk⟩
  have HC1 := Lib.hid h1
  have HX1 := Lib.hid (hk.blk HXa.out nb0)
  have HY1 := Lib.hid (hk.blk HYa.out nb1)
  have HZ1 := Lib.hid (hk.blk HZa.out nb2)
  have HK1 := Lib.hid (HKa.out.trans hk)
  clear h1 hk y0
  have y1 : W1.cell? ⟨W.heap.size, 0, none⟩ = some (.pointer (some ⟨g, 0, none⟩)) := (blk_cell HX1.out 0).trans rfl
  go_wp2_with fail
  refine (int_k w0 g q1 2 n q2 W1 HC1.out E1.out).mono ?_
  rintro en W2 ⟨rfl, h1, hk⟩
  have HC2 := Lib.hid h1
  have HX2 := Lib.hid (hk.blk HX1.out nb0)
  have HY2 := Lib.hid (hk.blk HY1.out nb1)
  have HZ2 := Lib.hid (hk.blk HZ1.out nb2)
  have HK2 := Lib.hid (HK1.out.trans hk)
  clear h1 hk y1
  have y2 : W2.cell? ⟨W.heap.size, 0, none⟩ = some (.pointer (some ⟨g, 0, none⟩)) := (blk_cell HX2.out 0).trans rfl
  have hf := HF.out
  try dsimp only at hf
  clear HF
  by_cases hn : n > 256
  · as_aux_lemma =>
    rw [if_pos hn] at hf
    obtain ⟨⟨rfl, rfl⟩, rfl⟩ : (([] : List Int) = l0 ∧ (4 : Int) = er) ∧ q2 = q' := by simpa using hf
    have d1 : decide (n > 256) = true := decide_eq_true hn
    have d2 : decide (256 < n) = true := decide_eq_true hn
    clear hf hn
    have a1 : rowAt W2 (W.heap.size + 2) 30 19 = true := rowAt_of HZ2.out rfl
    have a2 : cellsAt W2 (W.heap.size + 2) = #[.int .i64 1, .bool false, .int .i64 0, .int .i64 0, .int .i64 0, .int .i64 0, .int .i64 0, .int .i64 0, .int .i64 0, .bool false, .bool false, .int .i64 0, .int .i64 0, .int .i64 0, .int .i64 0, .int .i64 0, .int .i64 0, .slice none 0 0, .string ⟨#[]⟩] := cellsAt_of HZ2.out
    have a3 : rowAt W2 (W.heap.size + 1) 30 19 = true := rowAt_of HY2.out rfl
    have HYz := Lib.hid (setRow_heap W2 (W.heap.size + 1) _ #[.int .i64 1, .bool false, .int .i64 0, .int .i64 0, .int .i64 0, .int .i64 0, .int .i64 0, .int .i64 0, .int .i64 0, .bool false, .bool false, .int .i64 0, .int .i64 0, .int .i64 0, .int .i64 0, .int .i64 0, .int .i64 0, .slice none 0 0, .string ⟨#[]⟩] _ _ HY2.out)
    have HCz := Lib.hid (HC2.out.row nb1 HGE.out #[.int .i64 1, .bool false, .int .i64 0, .int .i64 0, .int .i64 0, .int .i64 0, .int .i64 0, .int .i64 0, .int .i64 0, .bool false, .bool false, .int .i64 0, .int .i64 0, .int .i64 0, .int .i64 0, .int .i64 0, .int .i64 0, .slice none 0 0, .string ⟨#[]⟩])
    have HKz := Lib.hid (show KeptC g W _ from HK2.out.row (k := W.heap.size + 1) (by omega) #[.int .i64 1, .bool false, .int .i64 0, .int .i64 0, .int .i64 0, .int .i64 0, .int .i64 0, .int .i64 0, .int .i64 0, .bool false, .bool false, .int .i64 0, .int .i64 0, .int .i64 0, .int .i64 0, .int .i64 0, .int .i64 0, .slice none 0 0, .string ⟨#[]⟩])
    go_wp2_with fail
    refine bodyPost_ret (results_ct rfl _ _ (W.heap.size + 1) 30 #[.int .i64 1, .bool false, .int .i64 0, .int .i64 0, .int .i64 0, .int .i64 0, .int .i64 0, .int .i64 0, .int .i64 0, .bool false, .bool false, .int .i64 0, .int .i64 0, .int .i64 0, .int .i64 0, .int .i64 0, .int .i64 0, .slice none 0 0, .string ⟨#[]⟩] (0, 0) _ rfl (by with_reducible exact HYz.out) Try.underlying30 rfl (by kernel_rfl)) rfl ?_
    exact ⟨none, 0, rfl, World.ownsRow_nil _ _ _ _, HCz.out, HKz.out⟩
  · rw [if_neg hn] at hf
    by_cases hp : 0 ≤ n
    case neg => rw [if_neg hp] at hf; cases hf
    rw [if_pos hp] at hf
    obtain ⟨⟨ys, q3⟩, el, hf⟩ := Option.map_eq_some_iff.1 hf
    obtain ⟨⟨rfl, rfl⟩, rfl⟩ : (ys = l0 ∧ (0 : Int) = er) ∧ q3 = q' := by simpa using hf
    obtain ⟨m, rfl⟩ : ∃ m : Nat, n = (m : Int) := ⟨n.toNat, by omega⟩
    rw [Int.toNat_natCast] at el
    have HLEN := Lib.hid (encsL_len _ _ _ el)
    have EL := Lib.hid el
    have hm : m ≤ 256 := by omega
    have d1 : decide ((m : Int) > 256) = false := decide_eq_false hn
    have d2 : decide ((256 : Int) < (m : Int)) = false := decide_eq_false (by omega)
    have d3 : decide (256 < m) = false := decide_eq_false (by omega)
    clear hf el hn hp
    go_wp2_with fail
    clear y2
    have HO0 := Lib.hid (World.ownsRow_nil W2 (W.heap.size + 3) 3 1)
    go_loopw [17] (fun i wr => ∃ (k : Nat) (A : Option Addr) (c : Nat) (xs zs : List Int) (qi : CS), k ≤ m ∧ i = .int .i64 k ∧ Hid (encsL (m - k) qi = some (zs, q3)) ∧ Hid (xs ++ zs = ys) ∧ Hid (wr.heap[W.heap.size]? = some (.cells #[.pointer (some ⟨g, 0, none⟩)] 48 (0, 0))) ∧ Hid (wr.heap[W.heap.size + 1]? = some (.cells #[.int .i64 0, .bool false, .int .i64 0, .int .i64 0, .int .i64 0, .int .i64 0, .int .i64 0, .int .i64 0, .int .i64 0, .bool false, .bool false, .int .i64 0, .int .i64 0, .int .i64 0, .int .i64 0, .int .i64 0, .int .i64 0, .slice none 0 0, .string ⟨#[]⟩] 30 (0, 0))) ∧ Hid (wr.heap[W.heap.size + 2]? = some (.cells #[.int .i64 1, .bool false, .int .i64 0, .int .i64 0, .int .i64 0, .int .i64 0, .int .i64 0, .int .i64 0, .int .i64 0, .bool false, .bool false, .int .i64 0, .int .i64 0, .int .i64 0, .int .i64 0, .int .i64 0, .int .i64 0, .slice A k c, .string ⟨#[]⟩] 30 (0, 0))) ∧ Hid (wr.ownsRow (W.heap.size + 3) 3 1 (.slice A k c) k (xs.map (Value.int .i64))) ∧ Hid (Cu w0 g qi wr) ∧ Hid (KeptC g W wr)) (fun i _ => m - (intOf i).toNat)
    case atStart => exact ⟨0, none, 0, [], ys, q2, Nat.zero_le _, rfl, EL, Lib.hid rfl, HX2, HY2, HZ2, HO0, HC2, HK2⟩
    case round =>
      obtain ⟨k, A, c, xs, zs, qi, hk, rfl, HL, HZZ, HXr, HYr, HZr, HOr, HCr, HKr⟩ := hrel
      by_cases hlt : k < m
      · have hd := HL.out
        rw [show m - k = (m - (k + 1)) + 1 by omega] at hd
        simp only [encsL] at hd
        obtain ⟨⟨x, q4⟩, ex, hd⟩ := Option.bind_eq_some_iff.1 hd
        obtain ⟨⟨zs2, q5⟩, e2, e3⟩ := Option.map_eq_some_iff.1 hd
        obtain ⟨rfl, rfl⟩ : x :: zs2 = zs ∧ q5 = q3 := by simpa using e3
        have EX := Lib.hid ex
        have HL2 := Lib.hid e2
        clear hd ex e2 e3
        have hlti : (k : Int) < (m : Int) := by omega
        have y0 : wr.cell? ⟨W.heap.size, 0, none⟩ = some (.pointer (some ⟨g, 0, none⟩)) := (blk_cell HXr.out 0).trans rfl
        have x0 : wr.cell? ⟨W.heap.size + 1 + 1, 17, none⟩ = some (.slice A k c) := (blk_cell HZr.out 17).trans rfl
        go_upto_block 1 with (fail)
        go_cut [17] (fun s17 wx => s17 = .int .i64 k ∧ ∃ A' c', Hid (wx.heap[W.heap.size]? = some (.cells #[.pointer (some ⟨g, 0, none⟩)] 48 (0, 0))) ∧ Hid (wx.heap[W.heap.size + 1]? = some (.cells #[.int .i64 0, .bool false, .int .i64 0, .int .i64 0, .int .i64 0, .int .i64 0, .int .i64 0, .int .i64 0, .int .i64 0, .bool false, .bool false, .int .i64 0, .int .i64 0, .int .i64 0, .int .i64 0, .int .i64 0, .int .i64 0, .slice none 0 0, .string ⟨#[]⟩] 30 (0, 0))) ∧ Hid (wx.heap[W.heap.size + 2]? = some (.cells #[.int .i64 1, .bool false, .int .i64 0, .int .i64 0, .int .i64 0, .int .i64 0, .int .i64 0, .int .i64 0, .int .i64 0, .bool false, .bool false, .int .i64 0, .int .i64 0, .int .i64 0, .int .i64 0, .int .i64 0, .int .i64 0, .slice A' (k + 1) c', .string ⟨#[]⟩] 30 (0, 0))) ∧ Hid (wx.ownsRow (W.heap.size + 3) 3 1 (.slice A' (k + 1) c') (k + 1) ((xs ++ [x]).map (Value.int .i64))) ∧ Hid (Cu w0 g q4 wx) ∧ Hid (KeptC g W wx))
        case first =>
          go_upto_region 8 with (fail)
          go_region_law (first | (refine step_append_lies _ rfl (.tmp 20) (.tmp 24) 28 rfl (W.heap.size + 3) 3 i0 (.int .i64 0) 1 8 Try.underlying28 HI.out HI0.out HI1.out HI2.out rfl (by decide) (.slice A k c) k (xs.map (Value.int .i64)) (by simp [Act.eval, Act.put]) (HO3.out.alloc _) ⟨W3.heap.size, 0, none⟩ 1 1 [.int .i64 x] (by simp [Act.eval, Act.put]) rfl (World.news_of_block (heap_alloc_new W3 _)) (by simp [Value.oneCell']) (by decide) (by unfold maxLen; omega) (by omega) (by have := HK3.out.1; have h9 := blk_lt HZ3.out; simp; omega) _ rfl ?_; intro gg cap w2 hown hgrow hat hlt2; have hb2 := (hgrow.block _ (blk_lt (blk_below HZ3.out (below_alloc (Below.refl _ _) _))) (own_ne_ HO3.out (show W.heap.size + 2 < W.heap.size + 3 by omega))).trans (blk_below HZ3.out (below_alloc (Below.refl _ _) _)); have hc2 : w2.cell? ⟨W.heap.size + 1 + 1, 17, none⟩ = some (.slice A k c) := (blk_cell hb2 17).trans rfl; have hf2 := blk_frozen hb2 17; have HOWN := Lib.hid hown; have HGROW := Lib.hid hgrow; clear hown hgrow hat hlt2 hb2) | (go_simp; go_at_call 58; refine (signed_k w0 g qi x q4 _ (by first | exact HCr.out | exact HCr.out.drew) EX.out).mono ?_; rintro en W3 ⟨rfl, h1, hk⟩; have HC3 := Lib.hid h1; have HX3 := Lib.hid (show W3.heap[W.heap.size]? = some (.cells #[.pointer (some ⟨g, 0, none⟩)] 48 (0, 0)) from hk.blk HXr.out nb0); have HY3 := Lib.hid (show W3.heap[W.heap.size + 1]? = some (.cells #[.int .i64 0, .bool false, .int .i64 0, .int .i64 0, .int .i64 0, .int .i64 0, .int .i64 0, .int .i64 0, .int .i64 0, .bool false, .bool false, .int .i64 0, .int .i64 0, .int .i64 0, .int .i64 0, .int .i64 0, .int .i64 0, .slice none 0 0, .string ⟨#[]⟩] 30 (0, 0)) from hk.blk HYr.out nb1); have HZ3 := Lib.hid (show W3.heap[W.heap.size + 2]? = some (.cells #[.int .i64 1, .bool false, .int .i64 0, .int .i64 0, .int .i64 0, .int .i64 0, .int .i64 0, .int .i64 0, .int .i64 0, .bool false, .bool false, .int .i64 0, .int .i64 0, .int .i64 0, .int .i64 0, .int .i64 0, .int .i64 0, .slice A k c, .string ⟨#[]⟩] 30 (0, 0)) from hk.blk HZr.out nb2); have y3 : W3.cell? ⟨W.heap.size, 0, none⟩ = some (.pointer (some ⟨g, 0, none⟩)) := (blk_cell HX3.out 0).trans rfl; have x3 : W3.cell? ⟨W.heap.size + 1 + 1, 17, none⟩ = some (.slice A k c) := (blk_cell HZ3.out 17).trans rfl; have l3 : W.heap.size + 1 + 1 < W3.heap.size := blk_lt HZ3.out; have HO3 := Lib.hid (show W3.ownsRow (W.heap.size + 3) 3 1 (.slice A k c) k (xs.map (Value.int .i64)) from own_kept (own_drew HOr.out) hk (fun j hj e => by have := HGL.out; omega)); have HK3 := Lib.hid (show KeptC g W W3 from KeptC.trans (W1 := World.drew _) HKr.out hk); clear h1 hk))
          all_goals
            go_wp2_with fail
            go_meet
            exact ⟨rfl, encs_cut HC3.out HK3.out HX3.out HY3.out HZ3.out HO3.out HOWN.out HGROW.out HGL.out HGW.out⟩
        case rest =>
          obtain ⟨rfl, A', c', HX4, HY4, HZ4, HO4, HC4, HK4⟩ := hcut
          go_wp2_with fail
          go_roundw
          case rel => exact ⟨k + 1, A', c', xs ++ [x], zs2, q4, by omega, by go_num, HL2, Lib.hid (by rw [List.append_assoc]; exact HZZ.out), HX4, HY4, HZ4, HO4, HC4, HK4⟩
          case measure => simp [intOf]; omega
      · have hd := HL.out
        obtain rfl : k = m := by omega
        rw [Nat.sub_self] at hd
        obtain ⟨rfl, rfl⟩ : [] = zs ∧ qi = q3 := by simpa [encsL] using hd
        have hz := HZZ.out
        rw [List.append_nil] at hz
        subst hz
        clear hd
        have a1 : rowAt wr (W.heap.size + 2) 30 19 = true := rowAt_of HZr.out rfl
        have a2 : cellsAt wr (W.heap.size + 2) = #[.int .i64 1, .bool false, .int .i64 0, .int .i64 0, .int .i64 0, .int .i64 0, .int .i64 0, .int .i64 0, .int .i64 0, .bool false, .bool false, .int .i64 0, .int .i64 0, .int .i64 0, .int .i64 0, .int .i64 0, .int .i64 0, .slice A k c, .string ⟨#[]⟩] := cellsAt_of HZr.out
        have a3 : rowAt wr (W.heap.size + 1) 30 19 = true := rowAt_of HYr.out rfl
        have HYz := Lib.hid (setRow_heap wr (W.heap.size + 1) _ #[.int .i64 1, .bool false, .int .i64 0, .int .i64 0, .int .i64 0, .int .i64 0, .int .i64 0, .int .i64 0, .int .i64 0, .bool false, .bool false, .int .i64 0, .int .i64 0, .int .i64 0, .int .i64 0, .int .i64 0, .int .i64 0, .slice A k c, .string ⟨#[]⟩] _ _ HYr.out)
        have HCz := Lib.hid (HCr.out.row nb1 HGE.out #[.int .i64 1, .bool false, .int .i64 0, .int .i64 0, .int .i64 0, .int .i64 0, .int .i64 0, .int .i64 0, .int .i64 0, .bool false, .bool false, .int .i64 0, .int .i64 0, .int .i64 0, .int .i64 0, .int .i64 0, .int .i64 0, .slice A k c, .string ⟨#[]⟩])
        have HKz := Lib.hid (show KeptC g W _ from HKr.out.row (k := W.heap.size + 1) (by omega) #[.int .i64 1, .bool false, .int .i64 0, .int .i64 0, .int .i64 0, .int .i64 0, .int .i64 0, .int .i64 0, .int .i64 0, .bool false, .bool false, .int .i64 0, .int .i64 0, .int .i64 0, .int .i64 0, .int .i64 0, .int .i64 0, .slice A k c, .string ⟨#[]⟩])
        have HOz := Lib.hid (own_kept HOr.out (show Kept wr (wr.setRow (W.heap.size + 1) #[.int .i64 1, .bool false, .int .i64 0, .int .i64 0, .int .i64 0, .int .i64 0, .int .i64 0, .int .i64 0, .int .i64 0, .bool false, .bool false, .int .i64 0, .int .i64 0, .int .i64 0, .int .i64 0, .int .i64 0, .int .i64 0, .slice A k c, .string ⟨#[]⟩]) (fun j => j = W.heap.size + 1) from ⟨by simp [World.setRow], fun i hi hn => setRow_other wr _ i _ hn⟩) (fun j hj e => by omega))
        go_wp2_with fail
        refine bodyPost_ret (results_ct rfl _ _ (W.heap.size + 1) 30 #[.int .i64 1, .bool false, .int .i64 0, .int .i64 0, .int .i64 0, .int .i64 0, .int .i64 0, .int .i64 0, .int .i64 0, .bool false, .bool false, .int .i64 0, .int .i64 0, .int .i64 0, .int .i64 0, .int .i64 0, .int .i64 0, .slice A k c, .string ⟨#[]⟩] (0, 0) _ rfl (by with_reducible exact HYz.out) Try.underlying30 rfl (by kernel_rfl)) rfl ?_
        exact ⟨A, c, by rw [HLEN.out]; rfl, by rw [HLEN.out]; exact HOz.out, HCz.out, HKz.out⟩
end

end Go.Proofs.Ytclikkhkhoicfaa.X

/- What each Go function that these laws use answers: as a Lean function, with the proof that the machine's call comes to it. Written by a program of this session (xprint.py). -/
import Derived.Test.YtpackckoblpbfaaXx0
import Derived.Test.YtpackckoblpbfaaXx16
import Derived.Test.YtpackckoblpbfaaXx17
import Derived.Test.YtpackckoblpbfaaXx18
namespace Go.Proofs.Ytpackckoblpbfaa.X
open Go.RowKit Go.Proofs.YtpackckoblpbfaaW.PrintWords Go.Proofs.YtpackckoblpbfaaW.PrintLast Go.Proofs.YtpackckoblpbfaaW.PrintMore
attribute [local go_sem] max2_int min2_int max_two min_two max_three min_three max_four min_four   -- for this text's walks alone
set_option linter.unusedVariables false
set_option linter.unusedSimpArgs false

/-! ### servermsg_KindsOf: function 20 -/
section
def kindsL : Nat → RS → Option (List Int × RS)
 | 0, q => some ([], q)
 | n + 1, q => (intS q 1).bind fun p => (kindsL n p.2).map fun r => (p.1 :: r.1, r.2)
theorem kindsL_len : ∀ (n : Nat) (q : RS) (r : List Int × RS), kindsL n q = some r → r.1.length = n
 | 0, q, r, h => by obtain rfl := Option.some.inj h; rfl
 | n + 1, q, r, h => by
  obtain ⟨p, h1, h2⟩ := Option.bind_eq_some_iff.1 h
  obtain ⟨r2, h3, rfl⟩ := Option.map_eq_some_iff.1 h2
  simp [kindsL_len n p.2 r2 h3]
def kindsS (q : RS) : Option ((List Int × ByteArray) × RS) := (intS q 1).bind fun p => if 0 ≤ p.1 ∧ p.1 ≤ 255 then (if p.2.ce = 0 ∧ p.1 = 0 then textS p.2 else some (⟨#[]⟩, p.2)).bind fun t => (kindsL p.1.toNat t.2).bind fun r => some ((r.1, t.1), r.2) else none
theorem own_kept {W W1 : World} {base : Nat} {e : TypeId} {size n : Nat} {v : Value} {xs : List Value} {S : Nat → Prop} (h : W.ownsRow base e size v n xs) (hk : Kept W W1 S) (hS : ∀ g, base ≤ g → ¬ S g) : W1.ownsRow base e size v n xs :=
 ⟨h.1, h.2.imp id (fun ⟨g, cap, cur, e1, e2, e3, e4⟩ => ⟨g, cap, cur, e1, e2, (hk.2 g (blk_lt e3) (hS g e2)).trans e3, e4⟩)⟩
theorem own_above {W : World} {base base2 : Nat} {e : TypeId} {size n : Nat} {v : Value} {xs : List Value} (h : W.ownsRow base e size v n xs) (hb : base2 ≤ base) : W.ownsRow base2 e size v n xs :=
 ⟨h.1, h.2.imp id (fun ⟨g, cap, cur, e1, e2, e3⟩ => ⟨g, cap, cur, e1, by omega, e3⟩)⟩
theorem own_drew {W : World} {base : Nat} {e : TypeId} {size n : Nat} {v : Value} {xs : List Value} (h : W.ownsRow base e size v n xs) : W.drew.ownsRow base e size v n xs := h
theorem own_drewN {W : World} {base : Nat} {e : TypeId} {size n : Nat} {v : Value} {xs : List Value} (h : W.ownsRow base e size v n xs) (m : Nat) : (W.drewN m).ownsRow base e size v n xs := h
theorem Below.drewN_ {B : Nat} (W : World) (m : Nat) : Below B W (W.drewN m) := ⟨rfl, rfl, rfl, Nat.le_refl _, fun _ _ => rfl⟩
theorem own_ne_ {W : World} {base : Nat} {e : TypeId} {size n : Nat} {v : Value} {xs : List Value} (h : W.ownsRow base e size v n xs) {k : Nat} (hk : k < base) : some k ≠ v.ownBlock := fun e1 => by have := own_base h k e1.symm; omega
theorem Rd.grown {w0 : World} {rb cb : Nat} {q : RS} {W W1 : World} {row : Option Nat} (h : Rd w0 rb cb q W) (hg : W.grownBy W1 row) (h1 : some rb ≠ row) (h2 : some cb ≠ row) (h3 : ∀ k, row = some k → w0.heap.size ≤ k) : Rd w0 rb cb q W1 :=
 ⟨(hg.block rb h.rlt h1).trans h.1, h.2.1, h.2.2.1, ⟨(hg.block cb h.clt h2).trans h.2.2.2.1.1, h.2.2.2.1.2⟩, ⟨hg.os.trans h.low.os, hg.tape.trans h.low.tape, hg.output.trans h.low.output, Nat.le_trans h.low.size hg.size, fun k hk => (hg.block k (by have := h.low.size; omega) (fun e => by have := h3 k e.symm; omega)).trans (h.low.block k hk)⟩⟩
theorem KeptR.grown {rb cb : Nat} {W W1 W2 : World} {row : Option Nat} (h : KeptR rb cb W W1) (hg : W1.grownBy W2 row) (h3 : ∀ k, row = some k → W.heap.size ≤ k) : KeptR rb cb W W2 :=
 ⟨Nat.le_trans h.1 hg.size, fun i hi hn => (hg.block i (Nat.lt_of_lt_of_le hi h.1) (fun e => by have := h3 i e.symm; omega)).trans (h.2 i hi hn)⟩
/-- The box after an append and its store. -/
theorem kinds_cut {w0 W X w2 : World} {rb cb kb kr k g cap : Nat} {v : Value} {q : RS} {t : ByteArray} {xs : List Int} {x : Int} (hR : Rd w0 rb cb q X) (hK : KeptR rb cb W X) (hx : X.heap[kb]? = some (.cells #[v, .string t] 104 (0, 0))) (hy : X.heap[kr]? = some (.cells #[.slice none 0 0, .string ⟨#[]⟩] 104 (0, 0)))
  (hO : X.ownsRow (W.heap.size + 2) 3 1 v k (xs.map (Value.int .i64))) (hown : w2.ownsRow (W.heap.size + 2) 3 1 (.slice (some ⟨g, 0, none⟩) (k + 1) cap) (k + 1) (xs.map (Value.int .i64) ++ [.int .i64 x])) (hgrow : (X.alloc (.cells #[.int .i64 x] 3)).grownBy w2 v.ownBlock)
  (hkb : kb = W.heap.size + 1) (hkr : kr = W.heap.size) (hrb : rb < W.heap.size) (hcb : cb < W.heap.size) (hg : w0.heap.size ≤ W.heap.size) :
  ∃ A' c', Hid ((w2.setCell ⟨kb, 0, none⟩ (.slice (some ⟨g, 0, none⟩) (k + 1) cap)).heap[kb]? = some (.cells #[.slice A' (k + 1) c', .string t] 104 (0, 0))) ∧ Hid ((w2.setCell ⟨kb, 0, none⟩ (.slice (some ⟨g, 0, none⟩) (k + 1) cap)).heap[kr]? = some (.cells #[.slice none 0 0, .string ⟨#[]⟩] 104 (0, 0))) ∧ Hid ((w2.setCell ⟨kb, 0, none⟩ (.slice (some ⟨g, 0, none⟩) (k + 1) cap)).ownsRow (W.heap.size + 2) 3 1 (.slice A' (k + 1) c') (k + 1) ((xs ++ [x]).map (Value.int .i64))) ∧ Hid (Rd w0 rb cb q (w2.setCell ⟨kb, 0, none⟩ (.slice (some ⟨g, 0, none⟩) (k + 1) cap))) ∧ Hid (KeptR rb cb W (w2.setCell ⟨kb, 0, none⟩ (.slice (some ⟨g, 0, none⟩) (k + 1) cap))) := by
 subst hkb hkr
 have hX : Below X.heap.size X (X.alloc (.cells #[.int .i64 x] 3)) := below_alloc (Below.refl _ _) _
 have hrow : ∀ j, v.ownBlock = some j → W.heap.size + 2 ≤ j := fun j hj => own_base hO j hj
 have n1 := own_ne_ hO (show W.heap.size + 1 < W.heap.size + 2 by omega)
 have n2 := own_ne_ hO (show W.heap.size < W.heap.size + 2 by omega)
 have n3 := own_ne_ hO (show rb < W.heap.size + 2 by omega)
 have n4 := own_ne_ hO (show cb < W.heap.size + 2 by omega)
 have h1 := (hgrow.block _ (blk_lt (blk_below hx hX)) n1).trans (blk_below hx hX)
 have h2 := (hgrow.block _ (blk_lt (blk_below hy hX)) n2).trans (blk_below hy hX)
 refine ⟨some ⟨g, 0, none⟩, cap, Lib.hid (blk_put h1 0 _ rfl), Lib.hid (blk_far h2 (by show W.heap.size ≠ W.heap.size + 1; omega) _), Lib.hid ?_, Lib.hid (((hR.below hX).grown hgrow n3 n4 (fun j hj => by have := hrow j hj; omega)).far (p := ⟨W.heap.size + 1, 0, none⟩) (by show W.heap.size + 1 ≠ rb; omega) (by show W.heap.size + 1 ≠ cb; omega) (by show w0.heap.size ≤ W.heap.size + 1; omega) _), Lib.hid (Kept.setCell (p := ⟨W.heap.size + 1, 0, none⟩) ((hK.trans (KeptR.below hX)).grown hgrow (fun j hj => by have := hrow j hj; omega)) (.inr (Nat.le_succ _)) _)⟩
 rw [List.map_append]
 exact own_kept hown (Kept.setCell (S := fun j => j = W.heap.size + 1) (p := ⟨W.heap.size + 1, 0, none⟩) (Kept.refl w2 _) (.inl rfl) _) (fun j hj e => by omega)
set_option maxHeartbeats 4000000 in
set_option maxRecDepth 100000 in
theorem kinds_r (w0 : World) (rb cb : Nat) (q : RS) (l0 : List Int) (t0 : ByteArray) (q' : RS) (W : World) (h : Rd w0 rb cb q W) (hf : kindsS q = some ((l0, t0), q')) :
  Calls Try.prog 56 #[.pointer (some ⟨rb, 0, none⟩)] W fun en W' => ∃ A c, en = .returned (.agg #[.slice A l0.length c, .string t0]) ∧ W'.ownsRow (W.heap.size + 2) 3 1 (.slice A l0.length c) l0.length (l0.map (Value.int .i64)) ∧ Rd w0 rb cb q' W' ∧ KeptR rb cb W W' := by
 obtain ⟨i0, hi, hz0, hz1, hz2⟩ := info_parts info3
 have HI := Lib.hid hi
 have HZ0 := Lib.hid hz0
 have HZ1 := Lib.hid hz1
 have HZ2 := Lib.hid hz2
 clear hi hz0 hz1 hz2
 unfold kindsS at hf
 obtain ⟨⟨n, q0⟩, e0, hf⟩ := Option.bind_eq_some_iff.1 hf
 have hf : (if 0 ≤ n ∧ n ≤ 255 then _ else _) = _ := hf
 by_cases hn : 0 ≤ n ∧ n ≤ 255
 case neg => rw [if_neg hn] at hf; cases hf
 rw [if_pos hn] at hf
 obtain ⟨⟨t, q1⟩, et, hf⟩ := Option.bind_eq_some_iff.1 hf
 obtain ⟨⟨ys, q2⟩, el, hf⟩ := Option.bind_eq_some_iff.1 hf
 obtain ⟨⟨rfl, rfl⟩, rfl⟩ : (ys = l0 ∧ t = t0) ∧ q2 = q' := by simpa using hf
 obtain ⟨m, rfl⟩ : ∃ m : Nat, n = (m : Int) := ⟨n.toNat, by omega⟩
 have hm : m ≤ 255 := by omega
 have hlen : ys.length = m := by have := kindsL_len _ _ _ el; simpa using this
 simp only [Int.toNat_natCast] at el
 have et : (if q0.ce = 0 ∧ (m : Int) = 0 then textS q0 else some (⟨#[]⟩, q0)) = some (t, q1) := et
 have E0 := Lib.hid e0
 have ET := Lib.hid et
 have EL := Lib.hid el
 have HLEN := Lib.hid hlen
 have HR := Lib.hid h
 clear hf e0 et el hlen hn h
 obtain ⟨Wa, hWa⟩ : ∃ X, (W.alloc (.cells #[.slice none 0 0, .string ⟨#[]⟩] 104)).alloc (.cells #[.slice none 0 0, .string ⟨#[]⟩] 104) = X := ⟨_, rfl⟩
 have HXa := Lib.hid (show Wa.heap[W.heap.size + 1]? = some (.cells #[.slice none 0 0, .string ⟨#[]⟩] 104 (0, 0)) from by rw [← hWa]; have h0 := heap_alloc_new (W.alloc (.cells #[.slice none 0 0, .string ⟨#[]⟩] 104)) (.cells #[.slice none 0 0, .string ⟨#[]⟩] 104); rw [World.size_alloc] at h0; exact h0)
 have HYa := Lib.hid (show Wa.heap[W.heap.size]? = some (.cells #[.slice none 0 0, .string ⟨#[]⟩] 104 (0, 0)) from by rw [← hWa]; exact blk_below (heap_alloc_new W (.cells #[.slice none 0 0, .string ⟨#[]⟩] 104)) (below_alloc (Below.refl _ _) _))
 have HBa := Lib.hid (show Below W.heap.size W Wa from by rw [← hWa]; exact below_alloc (below_alloc (Below.refl _ _) _) _)
 have HKa := Lib.hid (KeptR.below (rb := rb) (cb := cb) HBa.out)
 have HRa := Lib.hid (HR.out.below HBa.out)
 have y0 := HRa.out.c0
 have hcb : cb < W.heap.size := HR.out.clt
 have hrb : rb < W.heap.size := HR.out.rlt
 have ncb1 : W.heap.size + 1 ≠ cb := by omega
 have nrb1 : W.heap.size + 1 ≠ rb := by omega
 have ncb0 : W.heap.size ≠ cb := by omega
 have nrb0 : W.heap.size ≠ rb := by omega
 have HG0 := Lib.hid HR.out.low.size
 go_enter Try.func56, Try.ntmps56
 go_wp2_with fail
 try rw [hWa]
 clear hWa
 refine (int_r w0 rb cb q 1 m q0 Wa HRa.out E0.out).mono ?_
 rintro en W1 ⟨rfl, h1, hk⟩
 have HR1 := Lib.hid h1
 have HX1 := Lib.hid (hk.blk HXa.out nrb1 ncb1)
 have HY1 := Lib.hid (hk.blk HYa.out nrb0 ncb0)
 have HK1 := Lib.hid (HKa.out.trans hk)
 clear h1 hk y0
 have y0 := HR1.out.c0
 go_wp2_with fail
 refine (err_q w0 rb cb q0 W1 HR1.out).mono ?_
 rintro en W2 ⟨rfl, hw⟩
 rw [hw]
 clear hw W2
 by_cases hc : q0.ce = 0
 ·have hcb2 : (q0.ce == 0) = true := by simpa using hc
  by_cases hm0 : m = 0
  ·as_aux_lemma =>
   subst hm0
   obtain ⟨rfl, rfl⟩ : [] = ys ∧ q1 = q2 := by have h9 := EL.out; simpa [kindsL] using h9
   have et2 : textS q0 = some (t, q1) := by have h9 := ET.out; rw [if_pos ⟨hc, rfl⟩] at h9; exact h9
   have ET2 := Lib.hid et2
   clear et2 hc
   try simp only [Int.natCast_zero, Int.ofNat_zero, Nat.cast_ofNat, Nat.cast_zero]
   go_wp2_with fail
   refine (text_r w0 rb cb q0 t q1 W1 HR1.out ET2.out).mono ?_
   rintro en W3 ⟨rfl, h1, hk⟩
   have HR3 := Lib.hid h1
   have HX3 := Lib.hid (hk.blk HX1.out nrb1 ncb1)
   have HY3 := Lib.hid (hk.blk HY1.out nrb0 ncb0)
   have HK3 := Lib.hid (HK1.out.trans hk)
   clear h1 hk
   have x1 : W3.cell? ⟨W.heap.size + 1, 1, none⟩ = some (.string ⟨#[]⟩) := (blk_cell HX3.out 1).trans rfl
   have f1 := blk_frozen HX3.out 1
   obtain ⟨V, hV⟩ : ∃ X, W3.setCell ⟨W.heap.size + 1, 1, none⟩ (.string t) = X := ⟨_, rfl⟩
   have HXv := Lib.hid (show V.heap[W.heap.size + 1]? = some (.cells #[.slice none 0 0, .string t] 104 (0, 0)) from by rw [← hV]; exact blk_put HX3.out 1 _ rfl)
   have HYv := Lib.hid (show V.heap[W.heap.size]? = some (.cells #[.slice none 0 0, .string ⟨#[]⟩] 104 (0, 0)) from by rw [← hV]; exact blk_far HY3.out (by show W.heap.size ≠ W.heap.size + 1; omega) _)
   have HRv := Lib.hid (show Rd w0 rb cb q1 V from by rw [← hV]; exact HR3.out.far (p := ⟨W.heap.size + 1, 1, none⟩) nrb1 ncb1 (by have := HG0.out; show w0.heap.size ≤ W.heap.size + 1; omega) _)
   have HKv := Lib.hid (show KeptR rb cb W V from by rw [← hV]; exact Kept.setCell (p := ⟨W.heap.size + 1, 1, none⟩) HK3.out (.inr (Nat.le_succ _)) _)
   have HOv := Lib.hid (World.ownsRow_nil V (W.heap.size + 2) 3 1)
   go_wp2_with fail
   try rw [hV]
   clear hV x1 f1
   refine wp_loop_rounds 1 ?_
   rw [rounds_succ]
   have hx0 : V.cell? ⟨W.heap.size + 1, 0, none⟩ = some (.slice none 0 0) := (blk_cell HXv.out 0).trans rfl
   have hx1 : V.cell? ⟨W.heap.size + 1, 1, none⟩ = some (.string t) := (blk_cell HXv.out 1).trans rfl
   have hy0 : V.cell? ⟨W.heap.size, 0, none⟩ = some (.slice none 0 0) := (blk_cell HYv.out 0).trans rfl
   have hy1 : V.cell? ⟨W.heap.size, 1, none⟩ = some (.string ⟨#[]⟩) := (blk_cell HYv.out 1).trans rfl
   have hf0 := blk_frozen HYv.out 0
   have hf1 := blk_frozen HYv.out 1
   have HE := Lib.hid (blk_put (cs' := #[.slice none 0 0, .string t]) (blk_put (cs' := #[.slice none 0 0, .string ⟨#[]⟩]) HYv.out 0 (.slice none 0 0) rfl) 1 (.string t) rfl)
   have HRz := Lib.hid (Rd.far (Rd.far HRv.out (p := ⟨W.heap.size, 0, none⟩) nrb0 ncb0 HG0.out (.slice none 0 0)) (p := ⟨W.heap.size, 1, none⟩) nrb0 ncb0 HG0.out (.string t))
   have HKz := Lib.hid (show KeptR rb cb W _ from Kept.setCell (p := ⟨W.heap.size, 1, none⟩) (Kept.setCell (p := ⟨W.heap.size, 0, none⟩) HKv.out (.inr (Nat.le_refl _)) (.slice none 0 0)) (.inr (Nat.le_refl _)) (.string t))
   have HOz := Lib.hid (own_kept HOv.out (Kept.setCell (S := fun j => j = W.heap.size) (p := ⟨W.heap.size, 1, none⟩) (Kept.setCell (S := fun j => j = W.heap.size) (p := ⟨W.heap.size, 0, none⟩) (Kept.refl V _) (.inl rfl) (.slice none 0 0)) (.inl rfl) (.string t)) (fun j hj e => by omega))
   go_wp2_with fail
   refine bodyPost_ret (results_cell_row rfl _ _ W.heap.size 104 #[.slice none 0 0, .string t] (0, 0) _ rfl (by with_reducible exact HE.out) Try.underlying104 rfl (by kernel_rfl)) rfl ?_
   exact ⟨none, 0, rfl, HOz.out, by with_reducible exact HRz.out, by with_reducible exact HKz.out⟩
  ·have hmb : ((m : Int) == 0) = false := by simpa using hm0
   obtain ⟨rfl, rfl⟩ : (⟨#[]⟩ : ByteArray) = t ∧ q0 = q1 := by have h9 := ET.out; rw [if_neg (fun h => hm0 (by omega))] at h9; simpa using h9
   clear hc
   go_wp2_with fail
   have HO0 := Lib.hid (World.ownsRow_nil W1 (W.heap.size + 2) 3 1)
   go_loopw [24] (fun i wr => ∃ (k : Nat) (A : Option Addr) (c : Nat) (xs zs : List Int) (qi : RS), k ≤ m ∧ i = .int .i64 k ∧ Hid (kindsL (m - k) qi = some (zs, q2)) ∧ Hid (xs ++ zs = ys) ∧ Hid (wr.heap[W.heap.size + 1]? = some (.cells #[.slice A k c, .string ⟨#[]⟩] 104 (0, 0))) ∧ Hid (wr.heap[W.heap.size]? = some (.cells #[.slice none 0 0, .string ⟨#[]⟩] 104 (0, 0))) ∧ Hid (wr.ownsRow (W.heap.size + 2) 3 1 (.slice A k c) k (xs.map (Value.int .i64))) ∧ Hid (Rd w0 rb cb qi wr) ∧ Hid (KeptR rb cb W wr)) (fun i _ => m - (intOf i).toNat)
   case atStart => exact ⟨0, none, 0, [], ys, q0, Nat.zero_le _, rfl, EL, Lib.hid rfl, HX1, HY1, HO0, HR1, HK1⟩
   case round =>
    obtain ⟨k, A, c, xs, zs, qi, hk, rfl, HL, HZ, HXr, HYr, HOr, HRr, HKr⟩ := hrel
    by_cases hlt : k < m
    ·have hd := HL.out
     rw [show m - k = (m - (k + 1)) + 1 by omega] at hd
     simp only [kindsL] at hd
     obtain ⟨⟨x, q3⟩, ex, hd⟩ := Option.bind_eq_some_iff.1 hd
     obtain ⟨⟨zs2, q4⟩, e2, e3⟩ := Option.map_eq_some_iff.1 hd
     obtain ⟨rfl, rfl⟩ : x :: zs2 = zs ∧ q4 = q2 := by simpa using e3
     have EX := Lib.hid ex
     have HL2 := Lib.hid e2
     clear hd ex e2 e3
     have hlti : (k : Int) < (m : Int) := by omega
     try clear y0
     have y0 := HRr.out.c0
     have x0 : wr.cell? ⟨W.heap.size + 1, 0, none⟩ = some (.slice A k c) := (blk_cell HXr.out 0).trans rfl
     go_upto_block 1 with (fail)
     go_cut [24] (fun s24 wx => s24 = .int .i64 k ∧ ∃ A' c', Hid (wx.heap[W.heap.size + 1]? = some (.cells #[.slice A' (k + 1) c', .string ⟨#[]⟩] 104 (0, 0))) ∧ Hid (wx.heap[W.heap.size]? = some (.cells #[.slice none 0 0, .string ⟨#[]⟩] 104 (0, 0))) ∧ Hid (wx.ownsRow (W.heap.size + 2) 3 1 (.slice A' (k + 1) c') (k + 1) ((xs ++ [x]).map (Value.int .i64))) ∧ Hid (Rd w0 rb cb q3 wx) ∧ Hid (KeptR rb cb W wx))
     case first =>
      go_upto_region 7 with (fail)
      go_region_law (first | (refine step_append_lies _ rfl (.tmp 27) (.tmp 33) 22 rfl (W.heap.size + 2) 3 i0 (.int .i64 0) 1 8 Try.underlying22 HI.out HZ0.out HZ1.out HZ2.out rfl (by decide) (.slice A k c) k (xs.map (Value.int .i64)) (by simp [Act.eval, Act.put]) (HO3.out.alloc _) ⟨W3.heap.size, 0, none⟩ 1 1 [.int .i64 x] (by simp [Act.eval, Act.put]) rfl (World.news_of_block (heap_alloc_new W3 _)) (by simp [Value.oneCell']) (by decide) (by unfold maxLen; omega) (by omega) (by have := HK3.out.1; have h9 := blk_lt HX3.out; simp; omega) _ rfl ?_; intro g cap w2 hown hgrow hat hlt2; have hb2 := (hgrow.block _ (blk_lt (blk_below HX3.out (below_alloc (Below.refl _ _) _))) (own_ne_ HO3.out (show W.heap.size + 1 < W.heap.size + 2 by omega))).trans (blk_below HX3.out (below_alloc (Below.refl _ _) _)); have hc2 : w2.cell? ⟨W.heap.size + 1, 0, none⟩ = some (.slice A k c) := (blk_cell hb2 0).trans rfl; have hf2 := blk_frozen hb2 0; have HOWN := Lib.hid hown; have HGROW := Lib.hid hgrow; clear hown hgrow hat hlt2 hb2) | (go_simp; go_at_call 51; refine (int_r w0 rb cb qi 1 x q3 _ (by first | exact HRr.out | exact HRr.out.drew) EX.out).mono ?_; rintro en W3 ⟨rfl, h1, hk⟩; have y3 := h1.c0; have HR3 := Lib.hid h1; have HX3 := Lib.hid (show W3.heap[W.heap.size + 1]? = some (.cells #[.slice A k c, .string ⟨#[]⟩] 104 (0, 0)) from hk.blk HXr.out nrb1 ncb1); have HY3 := Lib.hid (show W3.heap[W.heap.size]? = some (.cells #[.slice none 0 0, .string ⟨#[]⟩] 104 (0, 0)) from hk.blk HYr.out nrb0 ncb0); have HK3 := Lib.hid (show KeptR rb cb W W3 from HKr.out.trans hk); have HO3 := Lib.hid (own_kept (W := wr) HOr.out (show Kept wr W3 _ from hk) (fun g hg e => by rcases e with e | e <;> omega)); have x3 : W3.cell? ⟨W.heap.size + 1, 0, none⟩ = some (.slice A k c) := (blk_cell HX3.out 0).trans rfl; have hl3 : W.heap.size + 1 < W3.heap.size := blk_lt HX3.out; clear h1 hk))
      all_goals
       go_wp2_with fail
       go_meet
       exact ⟨rfl, kinds_cut HR3.out HK3.out HX3.out HY3.out HO3.out HOWN.out HGROW.out rfl rfl hrb hcb HG0.out⟩
     case rest =>
      obtain ⟨rfl, A', c', HX4, HY4, HO4, HR4, HK4⟩ := hcut
      go_wp2_with fail
      go_roundw
      case rel => exact ⟨k + 1, A', c', xs ++ [x], zs2, q3, by omega, by go_num, HL2, Lib.hid (by rw [List.append_assoc]; exact HZ.out), HX4, HY4, HO4, HR4, HK4⟩
      case measure => simp [intOf]; omega
    ·have hd := HL.out
     obtain rfl : k = m := by omega
     rw [Nat.sub_self] at hd
     obtain ⟨rfl, rfl⟩ : [] = zs ∧ qi = q2 := by simpa [kindsL] using hd
     have hz := HZ.out
     rw [List.append_nil] at hz
     subst hz
     clear hd
     have hx0 : wr.cell? ⟨W.heap.size + 1, 0, none⟩ = some (.slice A k c) := (blk_cell HXr.out 0).trans rfl
     have hx1 : wr.cell? ⟨W.heap.size + 1, 1, none⟩ = some (.string ⟨#[]⟩) := (blk_cell HXr.out 1).trans rfl
     have hy0 : wr.cell? ⟨W.heap.size, 0, none⟩ = some (.slice none 0 0) := (blk_cell HYr.out 0).trans rfl
     have hy1 : wr.cell? ⟨W.heap.size, 1, none⟩ = some (.string ⟨#[]⟩) := (blk_cell HYr.out 1).trans rfl
     have hf0 := blk_frozen HYr.out 0
     have hf1 := blk_frozen HYr.out 1
     have HE := Lib.hid (blk_put (cs' := #[.slice A k c, .string ⟨#[]⟩]) (blk_put (cs' := #[.slice A k c, .string ⟨#[]⟩]) HYr.out 0 (.slice A k c) rfl) 1 (.string ⟨#[]⟩) rfl)
     have HRz := Lib.hid (Rd.far (Rd.far HRr.out (p := ⟨W.heap.size, 0, none⟩) nrb0 ncb0 HG0.out (.slice A k c)) (p := ⟨W.heap.size, 1, none⟩) nrb0 ncb0 HG0.out (.string ⟨#[]⟩))
     have HKz := Lib.hid (show KeptR rb cb W _ from Kept.setCell (p := ⟨W.heap.size, 1, none⟩) (Kept.setCell (p := ⟨W.heap.size, 0, none⟩) HKr.out (.inr (Nat.le_refl _)) (.slice A k c)) (.inr (Nat.le_refl _)) (.string ⟨#[]⟩))
     have HOz := Lib.hid (own_kept HOr.out (Kept.setCell (S := fun j => j = W.heap.size) (p := ⟨W.heap.size, 1, none⟩) (Kept.setCell (S := fun j => j = W.heap.size) (p := ⟨W.heap.size, 0, none⟩) (Kept.refl wr _) (.inl rfl) (.slice A k c)) (.inl rfl) (.string ⟨#[]⟩)) (fun j hj e => by omega))
     go_wp2_with fail
     refine bodyPost_ret (results_cell_row rfl _ _ W.heap.size 104 #[.slice A k c, .string ⟨#[]⟩] (0, 0) _ rfl (by with_reducible exact HE.out) Try.underlying104 rfl (by kernel_rfl)) rfl ?_
     exact ⟨A, c, by rw [HLEN.out], by rw [HLEN.out]; exact HOz.out, by with_reducible exact HRz.out, by with_reducible exact HKz.out⟩
 ·as_aux_lemma =>
  have hcb2 : (q0.ce == 0) = false := by simpa using hc
  obtain ⟨rfl, rfl⟩ : (⟨#[]⟩ : ByteArray) = t ∧ q0 = q1 := by have h9 := ET.out; rw [if_neg (fun h => hc h.1)] at h9; simpa using h9
  clear hc
  go_wp2_with fail
  have HO0 := Lib.hid (World.ownsRow_nil W1 (W.heap.size + 2) 3 1)
  go_loopw [24] (fun i wr => ∃ (k : Nat) (A : Option Addr) (c : Nat) (xs zs : List Int) (qi : RS), k ≤ m ∧ i = .int .i64 k ∧ Hid (kindsL (m - k) qi = some (zs, q2)) ∧ Hid (xs ++ zs = ys) ∧ Hid (wr.heap[W.heap.size + 1]? = some (.cells #[.slice A k c, .string ⟨#[]⟩] 104 (0, 0))) ∧ Hid (wr.heap[W.heap.size]? = some (.cells #[.slice none 0 0, .string ⟨#[]⟩] 104 (0, 0))) ∧ Hid (wr.ownsRow (W.heap.size + 2) 3 1 (.slice A k c) k (xs.map (Value.int .i64))) ∧ Hid (Rd w0 rb cb qi wr) ∧ Hid (KeptR rb cb W wr)) (fun i _ => m - (intOf i).toNat)
  case atStart => exact ⟨0, none, 0, [], ys, q0, Nat.zero_le _, rfl, EL, Lib.hid rfl, HX1, HY1, HO0, HR1, HK1⟩
  case round =>
   obtain ⟨k, A, c, xs, zs, qi, hk, rfl, HL, HZ, HXr, HYr, HOr, HRr, HKr⟩ := hrel
   by_cases hlt : k < m
   ·have hd := HL.out
    rw [show m - k = (m - (k + 1)) + 1 by omega] at hd
    simp only [kindsL] at hd
    obtain ⟨⟨x, q3⟩, ex, hd⟩ := Option.bind_eq_some_iff.1 hd
    obtain ⟨⟨zs2, q4⟩, e2, e3⟩ := Option.map_eq_some_iff.1 hd
    obtain ⟨rfl, rfl⟩ : x :: zs2 = zs ∧ q4 = q2 := by simpa using e3
    have EX := Lib.hid ex
    have HL2 := Lib.hid e2
    clear hd ex e2 e3
    have hlti : (k : Int) < (m : Int) := by omega
    try clear y0
    have y0 := HRr.out.c0
    have x0 : wr.cell? ⟨W.heap.size + 1, 0, none⟩ = some (.slice A k c) := (blk_cell HXr.out 0).trans rfl
    go_upto_block 1 with (fail)
    go_cut [24] (fun s24 wx => s24 = .int .i64 k ∧ ∃ A' c', Hid (wx.heap[W.heap.size + 1]? = some (.cells #[.slice A' (k + 1) c', .string ⟨#[]⟩] 104 (0, 0))) ∧ Hid (wx.heap[W.heap.size]? = some (.cells #[.slice none 0 0, .string ⟨#[]⟩] 104 (0, 0))) ∧ Hid (wx.ownsRow (W.heap.size + 2) 3 1 (.slice A' (k + 1) c') (k + 1) ((xs ++ [x]).map (Value.int .i64))) ∧ Hid (Rd w0 rb cb q3 wx) ∧ Hid (KeptR rb cb W wx))
    case first =>
     go_upto_region 7 with (fail)
     go_region_law (first | (refine step_append_lies _ rfl (.tmp 27) (.tmp 33) 22 rfl (W.heap.size + 2) 3 i0 (.int .i64 0) 1 8 Try.underlying22 HI.out HZ0.out HZ1.out HZ2.out rfl (by decide) (.slice A k c) k (xs.map (Value.int .i64)) (by simp [Act.eval, Act.put]) (HO3.out.alloc _) ⟨W3.heap.size, 0, none⟩ 1 1 [.int .i64 x] (by simp [Act.eval, Act.put]) rfl (World.news_of_block (heap_alloc_new W3 _)) (by simp [Value.oneCell']) (by decide) (by unfold maxLen; omega) (by omega) (by have := HK3.out.1; have h9 := blk_lt HX3.out; simp; omega) _ rfl ?_; intro g cap w2 hown hgrow hat hlt2; have hb2 := (hgrow.block _ (blk_lt (blk_below HX3.out (below_alloc (Below.refl _ _) _))) (own_ne_ HO3.out (show W.heap.size + 1 < W.heap.size + 2 by omega))).trans (blk_below HX3.out (below_alloc (Below.refl _ _) _)); have hc2 : w2.cell? ⟨W.heap.size + 1, 0, none⟩ = some (.slice A k c) := (blk_cell hb2 0).trans rfl; have hf2 := blk_frozen hb2 0; have HOWN := Lib.hid hown; have HGROW := Lib.hid hgrow; clear hown hgrow hat hlt2 hb2) | (go_simp; go_at_call 51; refine (int_r w0 rb cb qi 1 x q3 _ (by first | exact HRr.out | exact HRr.out.drew) EX.out).mono ?_; rintro en W3 ⟨rfl, h1, hk⟩; have y3 := h1.c0; have HR3 := Lib.hid h1; have HX3 := Lib.hid (show W3.heap[W.heap.size + 1]? = some (.cells #[.slice A k c, .string ⟨#[]⟩] 104 (0, 0)) from hk.blk HXr.out nrb1 ncb1); have HY3 := Lib.hid (show W3.heap[W.heap.size]? = some (.cells #[.slice none 0 0, .string ⟨#[]⟩] 104 (0, 0)) from hk.blk HYr.out nrb0 ncb0); have HK3 := Lib.hid (show KeptR rb cb W W3 from HKr.out.trans hk); have HO3 := Lib.hid (own_kept (W := wr) HOr.out (show Kept wr W3 _ from hk) (fun g hg e => by rcases e with e | e <;> omega)); have x3 : W3.cell? ⟨W.heap.size + 1, 0, none⟩ = some (.slice A k c) := (blk_cell HX3.out 0).trans rfl; have hl3 : W.heap.size + 1 < W3.heap.size := blk_lt HX3.out; clear h1 hk))
     all_goals
      go_wp2_with fail
      go_meet
      exact ⟨rfl, kinds_cut HR3.out HK3.out HX3.out HY3.out HO3.out HOWN.out HGROW.out rfl rfl hrb hcb HG0.out⟩
    case rest =>
     obtain ⟨rfl, A', c', HX4, HY4, HO4, HR4, HK4⟩ := hcut
     go_wp2_with fail
     go_roundw
     case rel => exact ⟨k + 1, A', c', xs ++ [x], zs2, q3, by omega, by go_num, HL2, Lib.hid (by rw [List.append_assoc]; exact HZ.out), HX4, HY4, HO4, HR4, HK4⟩
     case measure => simp [intOf]; omega
   ·have hd := HL.out
    obtain rfl : k = m := by omega
    rw [Nat.sub_self] at hd
    obtain ⟨rfl, rfl⟩ : [] = zs ∧ qi = q2 := by simpa [kindsL] using hd
    have hz := HZ.out
    rw [List.append_nil] at hz
    subst hz
    clear hd
    have hx0 : wr.cell? ⟨W.heap.size + 1, 0, none⟩ = some (.slice A k c) := (blk_cell HXr.out 0).trans rfl
    have hx1 : wr.cell? ⟨W.heap.size + 1, 1, none⟩ = some (.string ⟨#[]⟩) := (blk_cell HXr.out 1).trans rfl
    have hy0 : wr.cell? ⟨W.heap.size, 0, none⟩ = some (.slice none 0 0) := (blk_cell HYr.out 0).trans rfl
    have hy1 : wr.cell? ⟨W.heap.size, 1, none⟩ = some (.string ⟨#[]⟩) := (blk_cell HYr.out 1).trans rfl
    have hf0 := blk_frozen HYr.out 0
    have hf1 := blk_frozen HYr.out 1
    have HE := Lib.hid (blk_put (cs' := #[.slice A k c, .string ⟨#[]⟩]) (blk_put (cs' := #[.slice A k c, .string ⟨#[]⟩]) HYr.out 0 (.slice A k c) rfl) 1 (.string ⟨#[]⟩) rfl)
    have HRz := Lib.hid (Rd.far (Rd.far HRr.out (p := ⟨W.heap.size, 0, none⟩) nrb0 ncb0 HG0.out (.slice A k c)) (p := ⟨W.heap.size, 1, none⟩) nrb0 ncb0 HG0.out (.string ⟨#[]⟩))
    have HKz := Lib.hid (show KeptR rb cb W _ from Kept.setCell (p := ⟨W.heap.size, 1, none⟩) (Kept.setCell (p := ⟨W.heap.size, 0, none⟩) HKr.out (.inr (Nat.le_refl _)) (.slice A k c)) (.inr (Nat.le_refl _)) (.string ⟨#[]⟩))
    have HOz := Lib.hid (own_kept HOr.out (Kept.setCell (S := fun j => j = W.heap.size) (p := ⟨W.heap.size, 1, none⟩) (Kept.setCell (S := fun j => j = W.heap.size) (p := ⟨W.heap.size, 0, none⟩) (Kept.refl wr _) (.inl rfl) (.slice A k c)) (.inl rfl) (.string ⟨#[]⟩)) (fun j hj e => by omega))
    go_wp2_with fail
    refine bodyPost_ret (results_cell_row rfl _ _ W.heap.size 104 #[.slice A k c, .string ⟨#[]⟩] (0, 0) _ rfl (by with_reducible exact HE.out) Try.underlying104 rfl (by kernel_rfl)) rfl ?_
    exact ⟨A, c, by rw [HLEN.out], by rw [HLEN.out]; exact HOz.out, by with_reducible exact HRz.out, by with_reducible exact HKz.out⟩
set_option maxHeartbeats 4000000 in
set_option maxRecDepth 100000 in
theorem servermsg_KindsOf_read (s : ByteArray) (l0 : List Int) (t0 : ByteArray) (q : RS) (l1 : List Int) (t1 : ByteArray) (n1 n2 : Int) (w : World) (hf : kindsS ⟨s, 0, 0, 0⟩ = some ((l0, t0), q)) (hv : (if q.re = 0 ∧ q.ce = 0 then some ((l0, t0), q.at_, (0 : Int)) else some (([], ⟨#[]⟩), 0, if q.re = 0 then q.ce else q.re)) = some ((l1, t1), n1, n2)) :
  Calls Try.prog 55 #[.string s, .func (.func 56) #[] #[]] w fun e w' => ∃ A c, e = .returned (.tuple #[.agg #[.slice A l1.length c, .string t1], .int .i64 n1, .int .i64 n2]) ∧ w'.ownsRow w.heap.size 3 1 (.slice A l1.length c) l1.length (l1.map (Value.int .i64)) ∧ Below w.heap.size w w' := by
 have HF := Lib.hid hf
 have HV := Lib.hid hv
 clear hf hv
 obtain ⟨Wa, hWa⟩ : ∃ X, w.alloc (.cells #[.slice none 0 0, .string ⟨#[]⟩] 104) = X := ⟨_, rfl⟩
 have HYa := Lib.hid (show Wa.heap[w.heap.size]? = some (.cells #[.slice none 0 0, .string ⟨#[]⟩] 104 (0, 0)) from by rw [← hWa]; exact heap_alloc_new w (.cells #[.slice none 0 0, .string ⟨#[]⟩] 104))
 have HBa := Lib.hid (show Below w.heap.size w Wa from by rw [← hWa]; exact below_alloc (Below.refl _ _) _)
 go_enter Try.func55, Try.ntmps55
 go_wp2_with fail
 try rw [hWa]
 clear hWa
 refine (octets_New.calls s s 0 0 w Wa HBa.out rfl).mono ?_
 rintro en w1 ⟨g, rfl, hi, hb, hb2⟩
 have HY1 := Lib.hid (blk_below HYa.out hb2)
 have hg1 : w.heap.size ≠ g := fun e => by have h1 := HY1.out; rw [e, hi.1] at h1; simp at h1
 have hrb : w.heap.size < w1.heap.size := blk_lt HY1.out
 obtain ⟨W1, hW1⟩ : ∃ X, w1.alloc (.cells #[.pointer (some ⟨g, 0, none⟩), .int .i64 0] 101) = X := ⟨_, rfl⟩
 have HR := Lib.hid (show Rd w w1.heap.size g ⟨s, 0, 0, 0⟩ W1 from by rw [← hW1]; exact rd_new hi hb)
 have HY2 := Lib.hid (show W1.heap[w.heap.size]? = some (.cells #[.slice none 0 0, .string ⟨#[]⟩] 104 (0, 0)) from by rw [← hW1]; exact blk_below HY1.out (below_alloc (Below.refl _ _) _))
 clear hi hb hb2
 go_wp2_with fail
 try rw [hW1]
 clear hW1
 obtain ⟨rb, hrbe⟩ : ∃ x, w1.heap.size = x := ⟨_, rfl⟩
 rw [hrbe] at HR hrb ⊢
 clear hrbe
 refine (kinds_r w rb g ⟨s, 0, 0, 0⟩ l0 t0 q W1 HR.out HF.out).mono ?_
 rintro en W2 ⟨A, c, rfl, ho, h1, hk⟩
 have HO2 := Lib.hid ho
 have hws : w.heap.size < W1.heap.size := blk_lt HY2.out
 have HR2 := Lib.hid h1
 have HY3 := Lib.hid (hk.blk HY2.out (by omega) hg1)
 have hv := HV.out
 clear ho h1 hk
 have hl1 := HR2.out.rlt
 have hl2 := HR2.out.clt
 have hl3 := blk_lt HY3.out
 have hne1 : rb ≠ W2.heap.size := by omega
 have hne2 : w.heap.size ≠ W2.heap.size := by omega
 obtain ⟨Wb, hWb⟩ : ∃ X, W2.alloc (.cells #[.slice A l0.length c, .string t0] 104) = X := ⟨_, rfl⟩
 have HRb := Lib.hid (show Rd w rb g q Wb from by rw [← hWb]; exact HR2.out.below (below_alloc (Below.refl _ _) _))
 have HXb := Lib.hid (show Wb.heap[W2.heap.size]? = some (.cells #[.slice A l0.length c, .string t0] 104 (0, 0)) from by rw [← hWb]; exact heap_alloc_new W2 _)
 have HYb := Lib.hid (show Wb.heap[w.heap.size]? = some (.cells #[.slice none 0 0, .string ⟨#[]⟩] 104 (0, 0)) from by rw [← hWb]; exact blk_below HY3.out (below_alloc (Below.refl _ _) _))
 have HOb := Lib.hid (show Wb.ownsRow (W1.heap.size + 2) 3 1 (.slice A l0.length c) l0.length (l0.map (Value.int .i64)) from by rw [← hWb]; exact HO2.out.alloc _)
 have y0 := HRb.out.c0
 have y1 := HRb.out.c1
 have HG0 := Lib.hid (Nat.le_refl w.heap.size)
 have nrb0 : w.heap.size ≠ rb := by omega
 have ncb0 : w.heap.size ≠ g := hg1
 by_cases hr : q.re = 0
 ·have hrb1 : (q.re == 0) = true := by simpa using hr
  by_cases hc : q.ce = 0
  ·rw [if_pos ⟨hr, hc⟩] at hv
   obtain ⟨⟨rfl, rfl⟩, rfl, rfl⟩ : (l0 = l1 ∧ t0 = t1) ∧ q.at_ = n1 ∧ (0 : Int) = n2 := by simpa using hv
   have hcb : (q.ce != 0) = false := by simpa using hc
   clear hr hc hv HV
   go_wp2_with fail
   try rw [hWb]
   clear hWb
   refine (err_q w rb g q Wb HRb.out).mono ?_
   rintro en W3 ⟨rfl, hw⟩
   rw [hw]
   clear hw W3
   have hx0 : Wb.cell? ⟨W2.heap.size, 0, none⟩ = some (.slice A l0.length c) := (blk_cell HXb.out 0).trans rfl
   have hx1 : Wb.cell? ⟨W2.heap.size, 1, none⟩ = some (.string t0) := (blk_cell HXb.out 1).trans rfl
   have hy0 : Wb.cell? ⟨w.heap.size, 0, none⟩ = some (.slice none 0 0) := (blk_cell HYb.out 0).trans rfl
   have hy1 : Wb.cell? ⟨w.heap.size, 1, none⟩ = some (.string ⟨#[]⟩) := (blk_cell HYb.out 1).trans rfl
   have hf0 := blk_frozen HYb.out 0
   have hf1 := blk_frozen HYb.out 1
   have HE := Lib.hid (blk_put (cs' := #[.slice A l0.length c, .string t0]) (blk_put (cs' := #[.slice A l0.length c, .string ⟨#[]⟩]) HYb.out 0 (.slice A l0.length c) rfl) 1 (.string t0) rfl)
   have HRz := Lib.hid (Rd.far (Rd.far HRb.out (p := ⟨w.heap.size, 0, none⟩) nrb0 ncb0 HG0.out (.slice A l0.length c)) (p := ⟨w.heap.size, 1, none⟩) nrb0 ncb0 HG0.out (.string t0))
   have HOz := Lib.hid (own_above (own_kept (W := Wb) HOb.out (Kept.setCell (S := fun j => j = w.heap.size) (p := ⟨w.heap.size, 1, none⟩) (Kept.setCell (S := fun j => j = w.heap.size) (p := ⟨w.heap.size, 0, none⟩) (Kept.refl Wb _) (.inl rfl) (.slice A l0.length c)) (.inl rfl) (.string t0)) (fun j hj e => by omega)) (show w.heap.size ≤ W1.heap.size + 2 by omega))
   go_wp2_with fail
   go_still_tail 6, (by kernel_rfl)
   still_call (at_q w rb g q _ HRb.out.drew)
   try refine wpStill_nil ?_
   change wpList _ _ _ _ _ Wb.drew
   go_wp2_with fail
   refine bodyPost_ret (results_ctt rfl _ _ w.heap.size 104 #[.slice A l0.length c, .string t0] (0, 0) _ rfl (by with_reducible exact blk_drew HE.out) Try.underlying104 rfl (by kernel_rfl)) rfl ?_
   exact ⟨A, c, rfl, by with_reducible exact own_drew HOz.out, by with_reducible exact Below.drew HRz.out.low⟩
  ·rw [if_neg (fun h => hc h.2), if_pos hr] at hv
   obtain ⟨⟨rfl, rfl⟩, rfl, rfl⟩ : (([] : List Int) = l1 ∧ (⟨#[]⟩ : ByteArray) = t1) ∧ (0 : Int) = n1 ∧ q.ce = n2 := by simpa using hv
   have hcb : (q.ce != 0) = true := by simpa using hc
   clear hr hc hv HV
   go_wp2_with fail
   try rw [hWb]
   clear hWb
   refine (err_q w rb g q Wb HRb.out).mono ?_
   rintro en W3 ⟨rfl, hw⟩
   rw [hw]
   clear hw W3
   obtain ⟨Wc, hWc⟩ : ∃ X, Wb.alloc (.cells #[.slice none 0 0, .string ⟨#[]⟩] 104) = X := ⟨_, rfl⟩
   have HYc := Lib.hid (show Wc.heap[w.heap.size]? = some (.cells #[.slice none 0 0, .string ⟨#[]⟩] 104 (0, 0)) from by rw [← hWc]; exact blk_below HYb.out (below_alloc (Below.refl _ _) _))
   have HXc := Lib.hid (show Wc.heap[Wb.heap.size]? = some (.cells #[.slice none 0 0, .string ⟨#[]⟩] 104 (0, 0)) from by rw [← hWc]; exact heap_alloc_new Wb _)
   have HRc := Lib.hid (show Rd w rb g q Wc from by rw [← hWc]; exact HRb.out.below (below_alloc (Below.refl _ _) _))
   have hx0 : Wc.cell? ⟨Wb.heap.size, 0, none⟩ = some (.slice none 0 0) := (blk_cell HXc.out 0).trans rfl
   have hx1 : Wc.cell? ⟨Wb.heap.size, 1, none⟩ = some (.string ⟨#[]⟩) := (blk_cell HXc.out 1).trans rfl
   have hy0 : Wc.cell? ⟨w.heap.size, 0, none⟩ = some (.slice none 0 0) := (blk_cell HYc.out 0).trans rfl
   have hy1 : Wc.cell? ⟨w.heap.size, 1, none⟩ = some (.string ⟨#[]⟩) := (blk_cell HYc.out 1).trans rfl
   have hf0 := blk_frozen HYc.out 0
   have hf1 := blk_frozen HYc.out 1
   have HE := Lib.hid (blk_put (cs' := #[.slice none 0 0, .string ⟨#[]⟩]) (blk_put (cs' := #[.slice none 0 0, .string ⟨#[]⟩]) HYc.out 0 (.slice none 0 0) rfl) 1 (.string ⟨#[]⟩) rfl)
   have HRz := Lib.hid (Rd.far (Rd.far HRc.out (p := ⟨w.heap.size, 0, none⟩) nrb0 ncb0 HG0.out (.slice none 0 0)) (p := ⟨w.heap.size, 1, none⟩) nrb0 ncb0 HG0.out (.string ⟨#[]⟩))
   go_wp2_with fail
   refine bodyPost_ret (results_ctt rfl _ _ w.heap.size 104 #[.slice none 0 0, .string ⟨#[]⟩] (0, 0) _ rfl (by first | with_reducible exact HE.out | with_reducible exact blk_drew HE.out) Try.underlying104 rfl (by kernel_rfl)) rfl ?_
   exact ⟨none, 0, rfl, World.ownsRow_nil _ _ _ _, by first | with_reducible exact HRz.out.low | with_reducible exact Below.drew HRz.out.low⟩
 ·rw [if_neg (fun h => hr h.1), if_neg hr] at hv
  obtain ⟨⟨rfl, rfl⟩, rfl, rfl⟩ : (([] : List Int) = l1 ∧ (⟨#[]⟩ : ByteArray) = t1) ∧ (0 : Int) = n1 ∧ q.re = n2 := by simpa using hv
  have hrb1 : (q.re == 0) = false := by simpa using hr
  have hrb2 : (q.re != 0) = true := by simpa using hr
  clear hr hv HV
  obtain ⟨Wc, hWc⟩ : ∃ X, Wb.alloc (.cells #[.slice none 0 0, .string ⟨#[]⟩] 104) = X := ⟨_, rfl⟩
  have HYc := Lib.hid (show Wc.heap[w.heap.size]? = some (.cells #[.slice none 0 0, .string ⟨#[]⟩] 104 (0, 0)) from by rw [← hWc]; exact blk_below HYb.out (below_alloc (Below.refl _ _) _))
  have HXc := Lib.hid (show Wc.heap[Wb.heap.size]? = some (.cells #[.slice none 0 0, .string ⟨#[]⟩] 104 (0, 0)) from by rw [← hWc]; exact heap_alloc_new Wb _)
  have HRc := Lib.hid (show Rd w rb g q Wc from by rw [← hWc]; exact HRb.out.below (below_alloc (Below.refl _ _) _))
  have hx0 : Wc.cell? ⟨Wb.heap.size, 0, none⟩ = some (.slice none 0 0) := (blk_cell HXc.out 0).trans rfl
  have hx1 : Wc.cell? ⟨Wb.heap.size, 1, none⟩ = some (.string ⟨#[]⟩) := (blk_cell HXc.out 1).trans rfl
  have hy0 : Wc.cell? ⟨w.heap.size, 0, none⟩ = some (.slice none 0 0) := (blk_cell HYc.out 0).trans rfl
  have hy1 : Wc.cell? ⟨w.heap.size, 1, none⟩ = some (.string ⟨#[]⟩) := (blk_cell HYc.out 1).trans rfl
  have hf0 := blk_frozen HYc.out 0
  have hf1 := blk_frozen HYc.out 1
  have HE := Lib.hid (blk_put (cs' := #[.slice none 0 0, .string ⟨#[]⟩]) (blk_put (cs' := #[.slice none 0 0, .string ⟨#[]⟩]) HYc.out 0 (.slice none 0 0) rfl) 1 (.string ⟨#[]⟩) rfl)
  have HRz := Lib.hid (Rd.far (Rd.far HRc.out (p := ⟨w.heap.size, 0, none⟩) nrb0 ncb0 HG0.out (.slice none 0 0)) (p := ⟨w.heap.size, 1, none⟩) nrb0 ncb0 HG0.out (.string ⟨#[]⟩))
  go_wp2_with fail
  refine bodyPost_ret (results_ctt rfl _ _ w.heap.size 104 #[.slice none 0 0, .string ⟨#[]⟩] (0, 0) _ rfl (by first | with_reducible exact HE.out | with_reducible exact blk_drew HE.out) Try.underlying104 rfl (by kernel_rfl)) rfl ?_
  exact ⟨none, 0, rfl, World.ownsRow_nil _ _ _ _, by first | with_reducible exact HRz.out.low | with_reducible exact Below.drew HRz.out.low⟩
def servermsg_KindsOf.f (a0 : ByteArray) : Option (List Int × ByteArray × Int × Int) := (kindsS ⟨a0, 0, 0, 0⟩).bind fun p => if p.2.re = 0 ∧ p.2.ce = 0 then some (p.1.1, p.1.2, p.2.at_, 0) else some ([], ⟨#[]⟩, 0, if p.2.re = 0 then p.2.ce else p.2.re)
set_option maxHeartbeats 4000000 in
set_option maxRecDepth 100000 in
theorem servermsg_KindsOf.calls (a0 : ByteArray) (r1 : List Int) (r2 : ByteArray) (r3 : Int) (r4 : Int) (w : World) (h : servermsg_KindsOf.f a0 = some (r1, r2, r3, r4)) :
  Calls Try.prog 20 #[.string a0] w fun e w' => ∃ v0_ : Value, e = .returned (.tuple #[v0_, .string r2, .int .i64 r3, .int .i64 r4]) ∧ Kd.R (Kd.int .i64) 3 w' w.heap.size (fun _ => True) v0_ r1 ∧ Below w.heap.size w w' := by
 unfold servermsg_KindsOf.f at h
 obtain ⟨⟨⟨l0, t0⟩, q⟩, e1, h⟩ := Option.bind_eq_some_iff.1 h
 have H := Lib.hid e1
 have HV : (if q.re = 0 ∧ q.ce = 0 then some ((l0, t0), q.at_, (0 : Int)) else some (([], ⟨#[]⟩), 0, if q.re = 0 then q.ce else q.re)) = some ((r1, r2), r3, r4) := by
  have h : (if q.re = 0 ∧ q.ce = 0 then some (l0, t0, q.at_, (0 : Int)) else some ([], ⟨#[]⟩, 0, if q.re = 0 then q.ce else q.re)) = some (r1, r2, r3, r4) := h
  by_cases hc : q.re = 0 ∧ q.ce = 0
  ·rw [if_pos hc] at h ⊢; simpa [and_assoc] using h
  ·rw [if_neg hc] at h ⊢; simpa [and_assoc] using h
 have HV2 := Lib.hid HV
 clear h e1 HV
 go_enter Try.func20, Try.ntmps20
 go_wp2_with fail
 refine (servermsg_KindsOf_read a0 l0 t0 q r1 r2 r3 r4 w H.out HV2.out).mono ?_
 rintro en W1 ⟨A, c, rfl, ho, hb⟩
 have HO := Lib.hid ho
 have HB := Lib.hid hb
 clear ho hb
 go_wp2_with fail
 have hx0 : (W1.alloc (.cells #[.slice A r1.length c, .string r2] 104)).cell? ⟨W1.heap.size, 0, none⟩ = some (.slice A r1.length c) := (blk_cell (heap_alloc_new W1 _) 0).trans rfl
 have hx1 : (W1.alloc (.cells #[.slice A r1.length c, .string r2] 104)).cell? ⟨W1.heap.size, 1, none⟩ = some (.string r2) := (blk_cell (heap_alloc_new W1 _) 1).trans rfl
 go_quiet (fail)
 go_wp2_with fail
 refine bodyPost_ret (results_list (rs := [.tmp 2, .tmp 3, .tmp 4, .tmp 5]) rfl (by simp) (.tmp (.tmp (.tmp (.tmp .nil))))) rfl ?_
 refine ⟨_, rfl, Kd.R_of_own (enc := Value.int .i64) ?_ (fun _ _ => trivial), ?_⟩
 ·exact own_above (own_drewN (HO.out.alloc _) _) (Nat.le_refl _)
 ·exact (HB.out.trans ((below_alloc (Below.refl W1.heap.size W1) _).mono HB.out.size)).trans (Below.drewN_ _ _)
end

end Go.Proofs.Ytpackckoblpbfaa.X

/- A screen by its places: what each method does, whatever is asked. No condition. -/
import Derived.Test.YtjcibgopebpkiaaSCZ
import Derived.Test.YtjcibgopebpkiaaSCU
namespace Go.Proofs.Ytjcibgopebpkiaa.SC
open Go.RowKit Go.Proofs.YtjcibgopebpkiaaW.PrintWords Go.Proofs.YtjcibgopebpkiaaW.PrintLast Go.Proofs.YtjcibgopebpkiaaW.PrintMore Go.Proofs.Ytjcibgopebpkiaa.B Go.Proofs.Ytjcibgopebpkiaa.SCP
set_option linter.unusedVariables false
set_option linter.unusedSimpArgs false
def isCF (n : Nat) (F : Nat → Int) : Prop := ∀ i, i < n → isC (F i) = true
/-- A screen whose colours are colours. -/
def Scr (B g rb : Nat) (w h : Int) (F : Nat → Int) (W : World) : Prop := SIs B g rb w h F W ∧ isCF (w * h).toNat F
theorem Scr.keep {B g rb : Nat} {w h : Int} {F : Nat → Int} {W W1 : World} {X : Nat → Prop} (hs : Scr B g rb w h F W) (hk : Kept W W1 X) (h1 : ¬ X g) (h2 : ¬ X rb) : Scr B g rb w h F W1 := ⟨hs.1.keep hk h1 h2, hs.2⟩
theorem Scr.below {B g rb : Nat} {w h : Int} {F : Nat → Int} {W W1 : World} (hs : Scr B g rb w h F W) (hb : Below W.heap.size W W1) : Scr B g rb w h F W1 := hs.keep (Kept.of_below hb (fun _ => False)) (fun h => h) (fun h => h)
theorem Scr.ext {B g rb : Nat} {w h : Int} {F G : Nat → Int} {W : World} (hs : Scr B g rb w h F W) (he : ∀ i, i < (w * h).toNat → F i = G i) : Scr B g rb w h G W := ⟨hs.1.ext he, fun i hi => by rw [← he i hi]; exact hs.2 i hi⟩
theorem isC_zero : isC 0 = true := by decide
theorem New_s (B : Nat) (w h : Int) (W : World) (hBW : B ≤ W.heap.size) (hb : 1 ≤ w ∧ w ≤ 4096 ∧ 1 ≤ h ∧ h ≤ 4096) :
    Calls Try.prog 9 #[.int .i64 w, .int .i64 h] W fun e W' => ∃ g rb, e = .returned (.tuple #[.pointer (some ⟨g, 0, none⟩), .int .i64 0]) ∧ Scr B g rb w h (fun _ => 0) W' ∧ W.heap.size ≤ g ∧ W.heap.size ≤ rb ∧ Below W.heap.size W W' := by
  refine (New_c B w h W hBW hb).mono ?_
  rintro e W' ⟨g, rb, rfl, h1, h2⟩
  exact ⟨g, rb, rfl, ⟨h1, fun i _ => isC_zero⟩, h2⟩
def fillE (w h x y rw rh c : Int) : Int := if inside x y rw rh w h then (if isC c = true then 0 else 1) else 140
def fillG (w h x y rw rh c : Int) (F : Nat → Int) : Nat → Int := if inside x y rw rh w h ∧ isC c = true then (fun i => if inR w x y rw rh i then c else F i) else F
theorem Fill_s (B g rb : Nat) (w h : Int) (F : Nat → Int) (x y rw rh c : Int) (W : World) (hs : Scr B g rb w h F W) :
    Calls Try.prog 18 #[.pointer (some ⟨g, 0, none⟩), .agg #[.int .i64 x, .int .i64 y, .int .i64 rw, .int .i64 rh], .int .i64 c] W fun e W' => e = .returned (.int .i64 (fillE w h x y rw rh c)) ∧ Scr B g rb w h (fillG w h x y rw rh c F) W' ∧ KP rb W W' := by
  unfold fillE fillG
  by_cases hin : inside x y rw rh w h
  · by_cases hc : isC c = true
    · rw [if_pos hin, if_pos hc, if_pos ⟨hin, hc⟩]
      refine (Fill_c B g rb w h F x y rw rh c W hs.1 hin (by unfold isC at hc; simpa using hc)).mono ?_
      rintro e W' ⟨rfl, h1, h2⟩
      exact ⟨rfl, ⟨h1, fun i hi => by show isC (if inR w x y rw rh i = true then c else F i) = true; split; exact hc; exact hs.2 i hi⟩, h2⟩
    · rw [if_pos hin, if_neg hc, if_neg (fun h => hc h.2)]
      refine (Fill_odd B g rb w h F x y rw rh c W hs.1 hin (by unfold isC at hc; simpa using hc)).mono ?_
      rintro e W' ⟨rfl, h1⟩
      exact ⟨rfl, hs.below h1, KP.of_below h1⟩
  · rw [if_neg hin, if_neg (fun h => hin h.1)]
    refine (Fill_out B g rb w h F x y rw rh c W hs.1 hin).mono ?_
    rintro e W' ⟨rfl, h1⟩
    exact ⟨rfl, hs.below h1, KP.of_below h1⟩
/-- A row of numbers that is read. -/
abbrev CI (W : World) (A : Option Addr) (xs : List Int) : Prop := (Kd.int .i64).C W A xs.length xs
def pF (xs : List Int) (i : Nat) : Int := xs.getD i 0
theorem lst_pF (xs : List Int) : lst xs.length (pF xs) = xs := by
  apply List.ext_getElem?
  intro i
  by_cases hi : i < xs.length
  · simp [lst, pF, hi]
  · rw [List.getElem?_eq_none (by rw [lst_length]; omega), List.getElem?_eq_none (by omega)]
theorem all_pF (xs : List Int) : (List.range xs.length).all (fun i => isC (pF xs i)) = xs.all isC := by
  have h : xs.all isC = (lst xs.length (pF xs)).all isC := by rw [lst_pF]
  rw [h, lst, List.all_map]; rfl
theorem CI.pix {W : World} {A : Option Addr} {xs : List Int} (h : CI W A xs) : PixF A xs.length (pF xs) W := fun i hi => by
  obtain ⟨ad, ha, hc⟩ := (Kd.reads_of_C (d := 0) h).at_ (i : Int) (by omega) (by omega)
  exact ⟨ad, ha, by rw [Int.toNat_natCast] at hc; simpa [rdOf, pF, List.getD] using hc⟩
theorem CI.lt {W : World} {A : Option Addr} {xs : List Int} (h : CI W A xs) (ad : Addr) (ha : A = some ad) (h0 : 0 < xs.length) : ad.block < W.heap.size := by
  obtain ⟨ad', ha', hc⟩ := h.pix 0 h0
  rw [ha] at ha'
  obtain rfl := Option.some.inj ha'
  rcases Nat.lt_or_ge (ad.add 0).block W.heap.size with h1 | h1
  · rwa [add_block] at h1
  · rw [World.cell?, Array.getElem?_eq_none h1] at hc; cases hc
def blitE (w h x y rw rh : Int) (xs : List Int) : Int := if inside x y rw rh w h then (if (xs.length : Int) = rw * rh ∧ xs.all isC = true then 0 else 1) else 140
def blitG (w h x y rw rh : Int) (xs : List Int) (F : Nat → Int) : Nat → Int := if inside x y rw rh w h ∧ (xs.length : Int) = rw * rh ∧ xs.all isC = true then blitF w x y rw rh F (pF xs) else F
theorem blitF_isC {w h x y rw rh : Int} {F P : Nat → Int} (h1 : 1 ≤ w ∧ w ≤ 4096 ∧ 1 ≤ h ∧ h ≤ 4096) (hin : inside x y rw rh w h) (hF : isCF (w * h).toNat F) (hP : ∀ i : Nat, (i : Int) < rw * rh → isC (P i) = true) : isCF (w * h).toNat (blitF w x y rw rh F P) := fun i hi => by
  have hr := rect_le h1 hin
  unfold blitF
  split
  · rename_i hR
    have := @idxR_lt w x y rw rh i (by omega) hin.2.2.1 hR (by omega)
    exact hP _ (by unfold idxR; omega)
  · exact hF i hi
theorem Blit_s (B g rb : Nat) (w h : Int) (F : Nat → Int) (x y rw rh : Int) (A : Option Addr) (xs : List Int) (c : Nat) (W : World) (hs : Scr B g rb w h F W) (hP : CI W A xs) (hn : xs.length ≤ 1000000000000000) (hnc : xs.length ≤ c) (hc63 : c ≤ 9223372036854775807) (hal : ∀ ad, A = some ad → 0 < xs.length → ad.block ≠ rb) :
    Calls Try.prog 10 #[.pointer (some ⟨g, 0, none⟩), .agg #[.int .i64 x, .int .i64 y, .int .i64 rw, .int .i64 rh], .slice A xs.length c] W fun e W' => e = .returned (.int .i64 (blitE w h x y rw rh xs)) ∧ Scr B g rb w h (blitG w h x y rw rh xs F) W' ∧ KP rb W W' := by
  unfold blitE blitG
  have hrow := hP.pix
  by_cases hin : inside x y rw rh w h
  · by_cases hc : (xs.length : Int) = rw * rh ∧ xs.all isC = true
    · rw [if_pos hin, if_pos hc, if_pos ⟨hin, hc⟩]
      refine (Blit_v B g rb w h F x y rw rh A xs.length c (pF xs) W hs.1 hin hn hnc hc63 hrow hal hc.1 (by rw [all_pF]; exact hc.2)).mono ?_
      rintro e W' ⟨rfl, h1, h2⟩
      refine ⟨rfl, ⟨h1, blitF_isC hs.1.2.2.2 hin hs.2 (fun i hi => ?_)⟩, h2⟩
      have h3 := hc.2
      rw [← all_pF, List.all_eq_true] at h3
      exact h3 i (List.mem_range.2 (by omega))
    · rw [if_pos hin, if_neg hc, if_neg (fun h => hc h.2)]
      refine (Blit_odd B g rb w h F x y rw rh A xs.length c (pF xs) W hs.1 hin hn hrow (by
        rw [all_pF]
        by_cases hl : (xs.length : Int) = rw * rh
        · right; simpa using fun h => hc ⟨hl, h⟩
        · exact .inl hl)).mono ?_
      rintro e W' ⟨rfl, h1⟩
      exact ⟨rfl, hs.below h1, KP.of_below h1⟩
  · rw [if_neg hin, if_neg (fun h => hin h.1)]
    refine (Blit_out B g rb w h F x y rw rh A xs.length c W hs.1 hin).mono ?_
    rintro e W' ⟨rfl, h1⟩
    exact ⟨rfl, hs.below h1, KP.of_below h1⟩
abbrev RI (W : World) (B : Nat) (ok : Nat → Prop) (v : Value) (xs : List Int) : Prop := (Kd.int .i64).R 3 W B ok v xs
def partXs (w h x y rw rh : Int) (F : Nat → Int) : List Int := if inside x y rw rh w h then lst (rh * rw).toNat (partF w x y F rw.toNat) else []
def partE (w h x y rw rh : Int) : Int := if inside x y rw rh w h then 0 else 140
theorem RI_of {W : World} {B : Nat} {v : Value} {n : Nat} {F : Nat → Int} (h : W.ownsRow B 3 1 v n (((List.range n).map F).map (Value.int .i64))) : RI W B (fun _ => True) v (lst n F) :=
  Kd.R_of_own (by rw [lst_length]; exact h) (fun _ _ => trivial)
theorem Part_s (B g rb : Nat) (w h : Int) (F : Nat → Int) (x y rw rh : Int) (W : World) (hs : Scr B g rb w h F W) :
    Calls Try.prog 13 #[.pointer (some ⟨g, 0, none⟩), .agg #[.int .i64 x, .int .i64 y, .int .i64 rw, .int .i64 rh]] W fun e W' => ∃ v, e = .returned (.tuple #[v, .int .i64 (partE w h x y rw rh)]) ∧ RI W' W.heap.size (fun _ => True) v (partXs w h x y rw rh F) ∧ Below W.heap.size W W' := by
  unfold partXs partE
  by_cases hin : inside x y rw rh w h
  · rw [if_pos hin, if_pos hin]
    have hr := rect_le hs.1.2.2.2 hin
    refine (Part_c B g rb w h F x y rw rh W hs.1 hin).mono ?_
    rintro e W' ⟨v, rfl, ho, hb⟩
    obtain ⟨i1, i2, i3, i4, i5, i6⟩ := hin
    obtain ⟨rwn, rfl⟩ : ∃ rwn : Nat, rw = rwn := ⟨rw.toNat, by omega⟩
    obtain ⟨rhn, rfl⟩ : ∃ rhn : Nat, rh = rhn := ⟨rh.toNat, by omega⟩
    rw [Int.toNat_natCast, Int.toNat_natCast, partL_length, partL_map] at ho
    refine ⟨v, rfl, ?_, hb⟩
    rw [show ((rhn : Int) * (rwn : Int)).toNat = rhn * rwn from by rw [← Int.natCast_mul, Int.toNat_natCast], Int.toNat_natCast]
    exact RI_of ho
  · rw [if_neg hin, if_neg hin]
    refine (Part_out B g rb w h F x y rw rh W hs.1 hin).mono ?_
    rintro e W' ⟨rfl, h1⟩
    exact ⟨_, rfl, Kd.R_nil _ _ _ _ _, h1⟩
theorem Image_s (B g rb : Nat) (w h : Int) (F : Nat → Int) (W : World) (hs : Scr B g rb w h F W) :
    Calls Try.prog 12 #[.pointer (some ⟨g, 0, none⟩)] W fun e W' => ∃ v, e = .returned (.agg #[.int .i64 w, .int .i64 h, v]) ∧ RI W' W.heap.size (fun _ => True) v (lst (w * h).toNat F) ∧ Below W.heap.size W W' := by
  refine (Image_c B g rb w h F W hs.1).mono ?_
  rintro e W' ⟨v, rfl, ho, hb⟩
  exact ⟨v, rfl, RI_of ho, hb⟩
def moveE (w h x y rw rh tx ty tw th : Int) : Int := if inside x y rw rh w h then (if inside tx ty tw th w h then (if rw = tw ∧ rh = th then 0 else 1) else 140) else 140
def moveG (w h x y rw rh tx ty tw th : Int) (F : Nat → Int) : Nat → Int := if inside x y rw rh w h ∧ inside tx ty tw th w h ∧ rw = tw ∧ rh = th then blitF w tx ty rw rh F (partF w x y F rw.toNat) else F
theorem Move_s (B g rb : Nat) (w h : Int) (F : Nat → Int) (x y rw rh tx ty tw th : Int) (W : World) (hs : Scr B g rb w h F W) :
    Calls Try.prog 20 #[.pointer (some ⟨g, 0, none⟩), .agg #[.int .i64 x, .int .i64 y, .int .i64 rw, .int .i64 rh], .agg #[.int .i64 tx, .int .i64 ty, .int .i64 tw, .int .i64 th]] W fun e W' => e = .returned (.int .i64 (moveE w h x y rw rh tx ty tw th)) ∧ Scr B g rb w h (moveG w h x y rw rh tx ty tw th F) W' ∧ KP rb W W' := by
  unfold moveE moveG
  by_cases hin : inside x y rw rh w h
  · by_cases hin2 : inside tx ty tw th w h
    · by_cases hd : rw = tw ∧ rh = th
      · rw [if_pos hin, if_pos hin2, if_pos hd, if_pos ⟨hin, hin2, hd⟩]
        obtain ⟨rfl, rfl⟩ := hd
        refine (Move_c B g rb w h F x y rw rh tx ty W hs.1 hin hin2 hs.2).mono ?_
        rintro e W' ⟨rfl, h1, h2⟩
        exact ⟨rfl, ⟨h1, blitF_isC hs.1.2.2.2 hin2 hs.2 (fun i hi => partF_isC hs.1.2.2.2 hin hs.2 i (by rw [Int.mul_comm]; exact hi))⟩, h2⟩
      · rw [if_pos hin, if_pos hin2, if_neg hd, if_neg (fun h => hd h.2.2)]
        refine (Move_odd1 B g rb w h F x y rw rh tx ty tw th W hs.1 hin hin2 (by omega)).mono ?_
        rintro e W' ⟨rfl, h1⟩
        exact ⟨rfl, hs.below h1, KP.of_below h1⟩
    · rw [if_pos hin, if_neg hin2, if_neg (fun h => hin2 h.2.1)]
      refine (Move_odd2 B g rb w h F x y rw rh tx ty tw th W hs.1 hin hin2).mono ?_
      rintro e W' ⟨rfl, h1⟩
      exact ⟨rfl, hs.below h1, KP.of_below h1⟩
  · rw [if_neg hin, if_neg (fun h => hin h.1)]
    refine (Move_out B g rb w h F x y rw rh tx ty tw th W hs.1 hin).mono ?_
    rintro e W' ⟨rfl, h1⟩
    exact ⟨rfl, hs.below h1, KP.of_below h1⟩
theorem Resize_s (B g rb : Nat) (w h : Int) (F : Nat → Int) (w2 h2 : Int) (W : World) (hs : Scr B g rb w h F W) (hBW : B ≤ W.heap.size) (hb : 1 ≤ w2 ∧ w2 ≤ 4096 ∧ 1 ≤ h2 ∧ h2 ≤ 4096) :
    Calls Try.prog 26 #[.pointer (some ⟨g, 0, none⟩), .int .i64 w2, .int .i64 h2] W fun e W' => e = .returned (.int .i64 0) ∧ ∃ rb2, W.heap.size ≤ rb2 ∧ Scr B g rb2 w2 h2 (resF w h F w2) W' ∧ KP g W W' := by
  refine (Resize_c B g rb w h F w2 h2 W hs.1 hBW hb hs.2).mono ?_
  rintro e W' ⟨rfl, rb2, h0, h1, h2⟩
  refine ⟨rfl, rb2, h0, ⟨h1.ext (fun i hi => res_same hs.1.2.2.2 hb i hi), fun i hi => ?_⟩, h2⟩
  unfold resF atF
  split
  · exact isC_zero
  · rename_i hn
    have := place_le (w := w) (h := h) (x := (i : Int) % w2) (y := (i : Int) / w2) (by omega) (by omega) (by omega) (by omega)
    exact hs.2 _ (by omega)
end Go.Proofs.Ytjcibgopebpkiaa.SC

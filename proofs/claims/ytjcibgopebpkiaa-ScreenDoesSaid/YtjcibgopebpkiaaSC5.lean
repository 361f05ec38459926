/- A screen by its places: Part. No condition. -/
import Derived.Test.YtjcibgopebpkiaaSC4
import Derived.RangeFuncBox
namespace Go.Proofs.Ytjcibgopebpkiaa.SC
open Go.RowKit Go.Shelf Go.Proofs.YtjcibgopebpkiaaW.PrintWords Go.Proofs.YtjcibgopebpkiaaW.PrintLast Go.Proofs.YtjcibgopebpkiaaW.PrintMore Go.Proofs.Ytjcibgopebpkiaa.B Go.Proofs.Ytjcibgopebpkiaa.SCP
set_option linter.unusedVariables false
set_option linter.unusedSimpArgs false
attribute [local go_sem] Oper.semAt_some
/-- n colours from a place on. -/
def rowL (F : Nat → Int) (fr n : Nat) : List Int := (List.range n).map fun j => F (fr + j)
/-- The colours of the rows pre. -/
def partRows (w x y : Int) (F : Nat → Int) (rwn : Nat) {rh : Int} (pre : List {k : Nat // (k : Int) < rh}) : List Int := pre.flatMap fun k => rowL F ((y + k.1) * w + x).toNat rwn
theorem partRows_length {w x y : Int} {F : Nat → Int} {rwn : Nat} {rh : Int} (pre : List {k : Nat // (k : Int) < rh}) : (partRows w x y F rwn pre).length = pre.length * rwn := by
  induction pre with
  | nil => simp [partRows]
  | cons k l ih => unfold partRows at ih ⊢; rw [List.flatMap_cons, List.length_append, ih]; simp [rowL, Nat.succ_mul]; omega
/-- The colours of a rectangle, row by row. -/
def partL (w x y : Int) (F : Nat → Int) (rwn rhn : Nat) : List Int := (List.range rhn).flatMap fun (k : Nat) => rowL F ((y + (k : Int)) * w + x).toNat rwn
theorem partRows_all {w x y : Int} {F : Nat → Int} {rwn : Nat} {rh : Int} (pre : List {k : Nat // (k : Int) < rh}) (hp : pre.map (·.1) = List.range rh.toNat) : partRows w x y F rwn pre = partL w x y F rwn rh.toNat := by
  unfold partL partRows
  rw [← hp, List.flatMap_map]
/-- A boxed row that has been appended to and laid back. -/
theorem boxed_appended {W w1 : World} {n₀ B : Nat} {t e : TypeId} {size : Nat} {v v' : Value} {k m : Nat} {xs ys : List Value} (hv : Boxed W B t v) (hte : t ≠ e) (hrow : W.ownsRow n₀ e size v k xs) (hown' : w1.ownsRow n₀ e size v' m ys) (hgrow : W.grownBy w1 v.ownBlock) :
    Boxed w1 B t v ∧ Boxed (w1.setCell ⟨B, 0, none⟩ v') B t v' ∧ (w1.setCell ⟨B, 0, none⟩ v').ownsRow n₀ e size v' m ys ∧ KeepsOthers W (w1.setCell ⟨B, 0, none⟩ v') ∧ (∀ W0, KP B W0 W → W0.heap.size ≤ n₀ → KP B W0 (w1.setCell ⟨B, 0, none⟩ v')) := by
  have hv1 : Boxed w1 B t v := hv.kept hgrow (hv.not_row hte hrow)
  refine ⟨hv1, hv1.set v', hown'.kept (grownBy_setCell' w1 B v') (.inr (hv1.not_row hte hown').symm), ?_, ?_⟩
  · refine (KeepsOthers.of_grownBy hgrow fun j o ej hj => ?_).trans (KeepsOthers.setCell _ _ _)
    rcases hrow.2 with ⟨rfl, _⟩ | ⟨g, cap, cur, rfl, _, hgb, _⟩
    · simp [Value.ownBlock] at ej
    · obtain rfl : g = j := by simpa [Value.ownBlock] using ej
      rw [hgb] at hj; cases hj; rfl
  · intro W0 h0 hn
    refine KP.setCell ⟨hgrow.os.trans h0.os, hgrow.tape.trans h0.tape, hgrow.output.trans h0.output, Nat.le_trans h0.size hgrow.size, fun q hq hne => ?_⟩ 0 v'
    exact (hgrow.block q (by have := h0.size; omega) (fun h => by have := own_base hrow q h.symm; omega)).trans (h0.block q hq hne)
set_option maxHeartbeats 4000000 in
set_option maxRecDepth 100000 in
theorem Part_c (B g rb : Nat) (w h : Int) (F : Nat → Int) (x y rw rh : Int) (W : World) (hs : SIs B g rb w h F W) (hin : inside x y rw rh w h) :
    Calls Try.prog 13 #[.pointer (some ⟨g, 0, none⟩), .agg #[.int .i64 x, .int .i64 y, .int .i64 rw, .int .i64 rh]] W fun e W' => ∃ v, e = .returned (.tuple #[v, .int .i64 0]) ∧
      W'.ownsRow W.heap.size 3 1 v (partL w x y F rw.toNat rh.toNat).length ((partL w x y F rw.toNat rh.toNat).map (Value.int .i64)) ∧ Below W.heap.size W W' := by
  obtain ⟨c0, c1, c2⟩ := hs.cells
  obtain ⟨i0, hi, hz0, hz1, hz2⟩ := info_parts info_int
  have HS := Lib.hid hs
  have hf := inside_f x y rw rh w h hs.2.2.2
  rw [decide_eq_true hin] at hf
  have HF := Lib.hid hf
  have hlt := hs.lt
  clear hf hs
  refine (callsIn_wide (n := 4)).1 ?_
  refine callsIn_of_wp_marks Try.func13 rfl trivial ?_ rfl
  simp only [Try.ntmps13, List.size_toArray, List.length_cons, List.length_nil, Nat.reduceAdd, Nat.reduceSub, Array.replicate_succ, Array.replicate_zero, List.push_toArray, List.append_toArray, List.nil_append, List.cons_append]
  gi_wp2
  refine wpIn_split (fun w1 => Below (W.heap.size + 1) (W.alloc (.cells #[.int .i64 x, .int .i64 y, .int .i64 rw, .int .i64 rh] 30)) w1) ?_
  apply Exists.intro
  refine ⟨?h1, ?h2⟩
  case h1 =>
    gi_region_with (refine ⟨trivial, ?_⟩; gi_at_call 31; refine (callsIn_wide.2 (X.screen_Inside.calls x y rw rh w h true _ HF.out)).mono ?_; rintro e w1 ⟨rfl, hb1⟩)
    all_goals
      simp only [onlyN]
      refine ⟨rfl, ?_⟩
      refine Below.trans ?_ (Below.mono hb1 (by simp))
      exact Below.drew (Below.refl _ _)
  rintro w1 hb1
  have hr1 : w1.heap[W.heap.size]? = some (.cells #[.int .i64 x, .int .i64 y, .int .i64 rw, .int .i64 rh] 30 (0, 0)) := (hb1.block _ (by omega)).trans (heap_alloc_new W _)
  have q0 : w1.cell? ⟨W.heap.size, 0, none⟩ = some (.int .i64 x) := by rw [World.cell?, hr1]; rfl
  have q1 : w1.cell? ⟨W.heap.size, 1, none⟩ = some (.int .i64 y) := by rw [World.cell?, hr1]; rfl
  have q2 : w1.cell? ⟨W.heap.size, 2, none⟩ = some (.int .i64 rw) := by rw [World.cell?, hr1]; rfl
  have q3 : w1.cell? ⟨W.heap.size, 3, none⟩ = some (.int .i64 rh) := by rw [World.cell?, hr1]; rfl
  have hr1l := blk_lt hr1
  have hbW : Below W.heap.size W w1 := (below_alloc (Below.refl _ _) _).trans (Below.mono hb1 (by omega))
  have HBW := Lib.hid hbW
  clear hb1 hbW c0 c1 c2
  gi_wp2_with (refine ⟨trivial, ?_⟩; gi_at_call 39; refine (callsIn_wide.2 (rows_c g x y rw rh _)).mono ?_; rintro e _ ⟨rfl, rfl⟩)
  obtain ⟨Wl, hWl⟩ : ∃ Wl, ((w1.alloc (.cells #[.slice none 0 0] 22)).alloc (.cells #[.pointer (some ⟨g, 0, none⟩)] 24)).alloc (.cells #[.int .i64 x, .int .i64 y, .int .i64 rw, .int .i64 rh] 30) = Wl := ⟨_, rfl⟩
  have hb2 : Below w1.heap.size w1 Wl := by rw [← hWl]; exact below_alloc (below_alloc (below_alloc (Below.refl _ _) _) _) _
  have hsl : Wl.heap.size = w1.heap.size + 3 := by rw [← hWl]; simp
  have hBo : Wl.heap[w1.heap.size]? = some (.cells #[.slice none 0 0] 22 (0, 0)) := by
    rw [← hWl]; exact (Below.heap_alloc _ _ _ (by simp; omega)).trans ((Below.heap_alloc _ _ _ (by simp)).trans (heap_alloc_new w1 _))
  have hBs : Wl.heap[w1.heap.size + 1]? = some (.cells #[.pointer (some ⟨g, 0, none⟩)] 24 (0, 0)) := by
    have h0 := heap_alloc_new (w1.alloc (.cells #[.slice none 0 0] 22)) (.cells #[.pointer (some ⟨g, 0, none⟩)] 24)
    rw [World.size_alloc] at h0
    rw [← hWl]; exact (Below.heap_alloc _ _ _ (by simp)).trans h0
  have hBr : Wl.heap[w1.heap.size + 2]? = some (.cells #[.int .i64 x, .int .i64 y, .int .i64 rw, .int .i64 rh] 30 (0, 0)) := by
    have h0 := heap_alloc_new ((w1.alloc (.cells #[.slice none 0 0] 22)).alloc (.cells #[.pointer (some ⟨g, 0, none⟩)] 24)) (.cells #[.int .i64 x, .int .i64 y, .int .i64 rw, .int .i64 rh] 30)
    rw [World.size_alloc, World.size_alloc, hWl] at h0; exact h0
  have hwl : Below W.heap.size W Wl := HBW.out.trans (Below.mono hb2 HBW.out.size)
  have hsz1 := HBW.out.size
  have hgl : Wl.heap[g]? = some (.cells #[.int .i64 w, .int .i64 h, .slice (some ⟨rb, 0, none⟩) (w * h).toNat (w * h).toNat] 66 (0, 0)) := (hwl.block g hlt.1).trans HS.out.2.1
  have hrl : RowF rb (w * h).toNat F Wl := HS.out.2.2.1.move (hwl.block rb hlt.2)
  have hdim := HS.out.2.2.2
  have harea := area_le hdim.1 hdim.2.1 hdim.2.2.1 hdim.2.2.2
  obtain ⟨i1, i2, i3, i4, i5, i6⟩ := hin
  rw [hWl]
  refine rf_all (α := {k : Nat // (k : Int) < rh}) (by decide) rfl (enters_of Try.func45 (by kernel_rfl) rfl)
    (rows_stops 3 (by decide) (w1.heap.size + 2) (w1.heap.size + 1) g rb Wl.heap.size w1.heap.size x y rw rh w h (w * h).toNat i1 i2 i3 i4 i5 i6 (by omega) (by omega) (by omega) (by omega) ⟨by omega, by omega, by omega, by omega, by omega, by omega⟩ Wl (Nat.le_refl _) hBr hBs hgl)
    keepRow_t (keepRow_b (Nat.le_refl _)) (fun _ => rfl)
    (fun pre Wx => (∃ v, Boxed Wx w1.heap.size 22 v ∧ Wx.ownsRow Wl.heap.size 3 1 v (partRows w x y F rw.toNat pre).length ((partRows w x y F rw.toNat pre).map (Value.int .i64)) ∧ True) ∧ KP w1.heap.size Wl Wx)
    (OwnFrom.and (Own.from (holdsRow_own Wl.heap.size w1.heap.size 22 3 1 (fun pre => (partRows w x y F rw.toNat pre).length) (fun pre => (partRows w x y F rw.toNat pre).map (Value.int .i64)) (fun _ _ => True)) _) (ownFrom_kp (Nat.le_refl _)))
    ⟨⟨.slice none 0 0, hBo, World.ownsRow_nil _ _ _ _, trivial⟩, KP.refl _ _⟩ ?_
  apply Exists.intro
  refine ⟨?assign, ?body, ?done⟩
  case assign =>
    intro l x W K hK
    gi_wp2
    exact hK
  case body =>
    rintro l pre k Wx ⟨⟨v, hv, hown, _⟩, hK⟩ hlen
    have hfit := row_fits (k := k.1) (show 0 < w by omega) i1 i2 i3 i5 i6 k.2
    obtain ⟨fr, hfr⟩ : ∃ fr : Nat, (y + k.1) * w + x = fr := ⟨((y + k.1) * w + x).toNat, by omega⟩
    obtain ⟨rwn, rfl⟩ : ∃ rwn : Nat, rw = rwn := ⟨rw.toNat, by omega⟩
    rw [hfr] at hfit
    have hrx : RowF rb (w * h).toNat F Wx := hrl.move (hK.block rb (by omega) (by omega))
    obtain ⟨tot, htot⟩ : ∃ tot : Nat, (w * h).toNat = tot := ⟨_, rfl⟩
    rw [htot] at hrx
    have hft : fr + rwn ≤ tot := by omega
    have htl : tot ≤ 16777216 := by omega
    obtain ⟨A, hA⟩ : ∃ A : Addr, (if tot = fr then (⟨rb, 0, none⟩ : Addr) else ⟨rb, fr, none⟩) = A := ⟨_, rfl⟩
    have hA2 : 0 < rwn → A = ⟨rb, fr, none⟩ := fun h => by rw [← hA, if_neg (by omega)]
    have hrv : rowV rb (w * h).toNat ((y + k.1) * w + x).toNat (rwn : Int).toNat = .slice (some A) rwn (tot - fr) := by
      rw [hfr, Int.toNat_natCast, Int.toNat_natCast, htot]; unfold rowV; rw [hA]
    have hL := @partRows_length w x y F rwn rh pre
    have hLb : (partRows w x y F rwn pre).length + rwn ≤ 16777216 := by
      rw [hL]
      have h1 : (pre.length + 1) * rwn ≤ 4096 * 4096 := Nat.mul_le_mul (by omega) (by omega)
      rw [Nat.succ_mul] at h1
      omega
    have hnew : partRows w x y F rwn (pre ++ [k]) = partRows w x y F rwn pre ++ rowL F fr rwn := by
      unfold partRows; rw [List.flatMap_append]; simp [hfr]
    rw [Int.toNat_natCast] at hown
    have hcv := hv.cell
    have hfv := hv.frozen
    have HV := Lib.hid hv
    have HOWN := Lib.hid hown
    have HK := Lib.hid hK
    have HN := Lib.hid hnew
    have HRX := Lib.hid hrx
    have HA2 := Lib.hid hA2
    have HL := Lib.hid hL
    have HSL := Lib.hid hsl
    clear hL hsl
    clear hA hA2 hv hown hK hWl hfr hgl hBr hBs hb2 hwl hrl htot hrx hnew hBo
    simp only [hrv]
    gi_wp2_with (gi_at_builtin; refine wpListIn_append_own _ rfl _ _ 22 rfl Wl.heap.size 3 i0 (.int .i64 0) 1 8 Try.underlying22 hi hz0 hz1 hz2 rfl (by decide) _ _ _ rfl HOWN.out A rwn (tot - fr) ((rowL F fr rwn).map (Value.int .i64)) rfl ?c1 ?c2 ?c3 ?c4 ?c5 ?c6 ?_)
    case c1 => simp [rowL]
    case c2 =>
      intro j u hu
      have hjl : j < rwn := by
        have := (List.getElem?_eq_some_iff.1 hu).1
        simpa [rowL] using this
      rw [List.getElem?_map, show (rowL F fr rwn)[j]? = some (F (fr + j)) by simp [rowL, hjl]] at hu
      injection hu with hu
      rw [HA2.out (by omega), show (⟨rb, fr, none⟩ : Addr).add j = ⟨rb, fr + j, none⟩ from by unfold Addr.add; split <;> simp_all, HRX.out.cell (fr + j) (by omega), ← hu]
    case c3 => intro u hu; obtain ⟨a, _, rfl⟩ := List.mem_map.1 hu; rfl
    case c4 => unfold maxLen; omega
    case c5 => omega
    case c6 => exact HK.out.size
    intro v' w2 hown' hgrow _
    obtain ⟨hv1, hv2, hr2, hk2, hkp⟩ := boxed_appended HV.out (by decide) HOWN.out hown' hgrow
    have hkp2 := hkp Wl HK.out (Nat.le_refl _)
    have hc1 := hv1.cell
    have hf1 := hv1.frozen
    obtain ⟨A', c', rfl⟩ := own_slice hown'
    have HV2 := Lib.hid hv2
    have HR2 := Lib.hid hr2
    have HK2 := Lib.hid hk2
    have HKP2 := Lib.hid hkp2
    have hszz : Wx.heap.size ≤ (w2.setCell ⟨w1.heap.size, 0, none⟩ (.slice A' ((partRows w x y F rwn pre).length + rwn) c')).heap.size := by simpa [World.setCell] using hgrow.size
    clear hv1 hv2 hr2 hk2 hkp hkp2 hown' hgrow
    gi_wp2
    refine ⟨HK2.out, ⟨hszz, fun q hq hn => (HKP2.out.block q hq hn).trans (HK.out.block q hq hn).symm⟩, ⟨_, HV2.out, ?_, trivial⟩, HKP2.out⟩
    rw [Int.toNat_natCast, HN.out, List.length_append, List.map_append, show (rowL F fr rwn).length = rwn by simp [rowL]]
    exact HR2.out
  case done =>
    rintro D xs Wx hD hS ⟨⟨v, hv, hown, _⟩, hK⟩ hDD
    have hcv := hv.cell
    rw [partRows_all xs hS] at hown
    obtain ⟨A', c', rfl⟩ := own_slice hown
    have HOWN := Lib.hid hown
    have HK := Lib.hid hK
    have HDD := Lib.hid hDD
    have HWL := Lib.hid hwl
    have HSL := Lib.hid hsl
    clear hown hK hDD hwl hsl hWl hBo hBs hBr hgl hrl hb2
    gi_wp2
    refine ⟨by first | (simp; done) | rfl | trivial | omega, .inl ⟨_, _, rfl, run_takeDeferred HDD.out, ?_⟩⟩
    have hbx := belowK_b (w := Wl) (Nat.le_refl _) Wx D (.deferred (some [])) (.deferred none) hD HDD.out rfl rfl
    have hDD := HDD.out
    have hne : some D ≠ (Value.slice A' (partL w x y F rw.toNat rh.toNat).length c').ownBlock := by
      intro h
      rcases HOWN.out.2 with ⟨he, _⟩ | ⟨g', cap, cur, he, _, hg', _⟩
      · rw [he] at h; cases h
      · rw [he] at h
        obtain rfl : D = g' := by simpa [Value.ownBlock] using h
        rw [hDD] at hg'; cases hg'
    refine ⟨_, results_tmp2 rfl _ _ _, _, rfl, ?_, ?_⟩
    · have h1 := HOWN.out.kept (grownBy_putObj' Wx D (.deferred none)) (.inr hne.symm)
      exact ⟨h1.1, h1.2.imp id (fun ⟨g', cap, cur, e1, e2, e3⟩ => ⟨g', cap, cur, e1, by have := HSL.out; omega, e3⟩)⟩
    · have hs := HSL.out
      exact ⟨hbx.os.trans (HK.out.os.trans HWL.out.os), hbx.tape.trans (HK.out.tape.trans HWL.out.tape), hbx.output.trans (HK.out.output.trans HWL.out.output), Nat.le_trans HWL.out.size (Nat.le_trans HK.out.size hbx.size), fun q hq => (hbx.block q (by omega)).trans ((HK.out.block q (by omega) (by omega)).trans (HWL.out.block q hq))⟩
end Go.Proofs.Ytjcibgopebpkiaa.SC

/- PipeQueues: a queue tells things in the order in which they were put in; what is told is not shared; two queues know nothing of one another. No condition. -/
-- OPEN 1 Go.Proofs.Ytogmfibilopppaa.PI.open_bools a len cap z : w y
import Derived.Test.YtogmfibilopppaaPQ
namespace Go.Proofs.Ytogmfibilopppaa.H
open Go.RowKit Go.Proofs.YtogmfibilopppaaW.PrintWords Go.Proofs.YtogmfibilopppaaW.PrintLast Go.Proofs.YtogmfibilopppaaW.PrintMore Go.Proofs.Ytogmfibilopppaa.Q Go.Proofs.Ytogmfibilopppaa.BL Go.Proofs.Ytogmfibilopppaa.B Go.Proofs.Ytogmfibilopppaa.PI
set_option linter.unusedVariables false
set_option linter.unusedSimpArgs false
/-- The queue's foot. -/
def Ft (g : Nat) (r : Option Nat) (k : Nat) : Prop := k = g ∨ r = some k
theorem apart_new {F F' G : Nat → Prop} {N : Nat} (h : ∀ k, F k → ¬ G k) (hn : ∀ k, F' k → F k ∨ N ≤ k) (hg : ∀ k, G k → k < N) : ∀ k, F' k → ¬ G k := by
  intro k hk hG
  rcases hn k hk with h1 | h1
  · exact h k h1 hG
  · have := hg k hG; omega
theorem QAt.apart {T e B b o : Nat} {cs : List Value} {row : Option Nat} {xs : List Value} {w w1 : World} {S : Nat → Prop} (h : QAt T e B b o cs row xs w) (hk : Kept w w1 S) (ha : ∀ k, S k → ¬ Ft b row k) : QAt T e B b o cs row xs w1 :=
  h.keep hk (fun h => ha _ h (.inl rfl)) (fun k hr h => ha _ h (.inr hr))
theorem QAt.foot_lt {T e B b o : Nat} {cs : List Value} {row : Option Nat} {xs : List Value} {w : World} (h : QAt T e B b o cs row xs w) : ∀ k, Ft b row k → k < w.heap.size := by
  rintro k (rfl | hk)
  · exact h.lt
  · exact (h.row_lt k hk).1
theorem foot_new {b N : Nat} {row row' : Option Nat} (h : row' = row ∨ ∃ k, row' = some k ∧ N ≤ k) : ∀ k, Ft b row' k → Ft b row k ∨ N ≤ k := by
  rintro k (rfl | hk)
  · exact .inl (.inl rfl)
  · rcases h with h | ⟨q, h, hq⟩
    · exact .inl (.inr (h ▸ hk))
    · rw [hk] at h; injection h with h; exact .inr (by omega)
theorem own_new {v v' : Value} {N : Nat} (h : v'.ownBlock = v.ownBlock ∨ ∃ b, v'.ownBlock = some b ∧ N ≤ b) : ∀ k, v'.ownBlock = some k → v.ownBlock = some k ∨ N ≤ k := by
  intro k hk
  rcases h with h | ⟨q, h, hq⟩
  · exact .inl (h ▸ hk)
  · rw [hk] at h; injection h with h; exact .inr (by omega)
set_option maxHeartbeats 4000000 in
set_option maxRecDepth 100000 in
theorem PipeQueues_walk (a0 : Option Addr) (len0 cap0 : Nat) (z0 : List Int) (a1 : Option Addr) (len1 cap1 : Nat) (z1 : List Bool) (w : World) (hl0 : IsRowI w a0 len0 cap0 z0) (hy0 : len0 * 8 ≤ 140737488351232) (hy1 : len1 ≤ maxLen) (hl1 : IsBools w a1 len1 z1) :
    Calls Try.prog 6 #[.slice a0 len0 cap0, .slice a1 len1 cap1] w fun e w' => e = .returned (.bool true) ∧ Below w.heap.size w w' := by
  have HL := Lib.hid hl0
  have HT := Lib.hid hl1
  clear hl0 hl1
  have h20 : len0 ≤ 9223372036854775807 := by omega
  have h21 : len1 ≤ 9223372036854775807 := by unfold maxLen at hy1; omega
  obtain ⟨i0, hi, hz0, hz1, hz2⟩ := info_parts info_i
  go_enter Try.func6, Try.ntmps6
  go_wp2_with fail
  refine (works_c _).mono ?_
  rintro e w1 ⟨rfl, hb⟩
  have HB := Lib.hid hb
  clear hb
  go_wp2_with fail
  all_goals first
    | (go_ret; exact ⟨rfl, HB.out⟩)
    | skip
  have hg : (len0 : Int) ≤ 60 ∧ (len1 : Int) ≤ 60 := by assumption
  have hs1 : (w1.alloc (.cells #[.slice none 0 0] 40)).heap.size = w1.heap.size + 1 := by simp
  have hbs := HB.out.size
  have HQ0 := Lib.hid ((QAt.new 40 3 w.heap.size w1 hbs).keep ((Kept.refl _ (fun _ => False)).alloc (.cells #[.slice none 0 0] 40)) (fun h => h) (fun _ _ h => h))
  have HO0 := Lib.hid (show QAt 40 3 w.heap.size (w1.heap.size + 1) 0 [.slice none 0 0] none [] ((w1.alloc (.cells #[.slice none 0 0] 40)).alloc (.cells #[.slice none 0 0] 40)) from by
    have := QAt.new 40 3 w.heap.size (w1.alloc (.cells #[.slice none 0 0] 40)) (by rw [hs1]; omega)
    rw [hs1] at this; exact this)
  have HB1 := Lib.hid (below_alloc (below_alloc HB.out (.cells #[.slice none 0 0] 40)) (.cells #[.slice none 0 0] 40))
  refine (Put_i 40 w.heap.size (w1.heap.size + 1) 0 _ none [] 1 _ HO0.out (by decide) HB1.out.size).mono ?_
  rintro e w2 ⟨rfl, vo, ro, ho, hro, hb, hk⟩
  have HO := Lib.hid ho
  have HQ := Lib.hid (HQ0.out.keep hk (by rintro (h | h); omega; cases h) (fun q hq => by cases hq))
  have HB2 := Lib.hid (HB1.out.trans hb)
  have HD0 : Hid (∀ k, Ft w1.heap.size none k → ¬ Ft (w1.heap.size + 1) ro k) := Lib.hid (by
    rintro k (rfl | h) (h2 | h2)
    · omega
    · rcases hro with h | ⟨q, h, hq⟩
      · rw [h2] at h; cases h
      · rw [h2] at h; injection h with h; simp at hq; omega
    · cases h
    · cases h)
  clear ho hro hb hk
  clear hs1
  go_wp2_with fail
  generalize w1.heap.size + 1 = go at *
  generalize w1.heap.size = gq at *
  go_loopw [8, 9] (fun p8 p9 wr => ∃ (k : Nat) (xs : List Int) (rq : Option Nat) (cq : List Value), k ≤ len0 ∧ p9 = .int .i64 k ∧ xs.length ≤ k ∧ Hid (QAt 40 3 w.heap.size gq 0 cq rq (xs.map (Value.int .i64)) wr) ∧ Hid (QAt 40 3 w.heap.size go 0 ([Value.slice none 0 0].set 0 vo) ro [.int .i64 1] wr) ∧
      Hid (QRow wr w.heap.size 3 1 p8 xs.length (xs.map (Value.int .i64))) ∧ Hid (∀ k, Ft gq rq k → ¬ Ft go ro k) ∧ Hid (∀ k, p8.ownBlock = some k → ¬ Ft gq rq k) ∧ Hid (∀ k, p8.ownBlock = some k → ¬ Ft go ro k) ∧ Hid (Below w.heap.size w wr)) (fun _ i _ => len0 - (intOf i).toNat)
  case atStart => exact ⟨0, [], none, _, Nat.zero_le _, rfl, Nat.le_refl _, HQ, HO, Lib.hid ⟨rfl, .inl ⟨rfl, none, rfl, fun _ h => by cases h⟩⟩, HD0, Lib.hid (fun k h => by cases h), Lib.hid (fun k h => by cases h), HB2⟩
  case round =>
    obtain ⟨k, xs, rq, cq, hk, rfl, hxk, HQ, HO, HV, HD, HDQ, HDO, HW⟩ := hrel
    by_cases hlt : k < len0
    · obtain ⟨ad, n, rfl, n0, n1, hc⟩ := ints_at HL.out k hlt
      have HC := Lib.hid hc
      have hc0 := hc _ HW.out
      clear hc
      go_wp2_with fail
      refine (Put_i 40 w.heap.size gq 0 cq rq (xs.map (Value.int .i64)) n _ HQ.out (by rw [List.length_map]; omega) HW.out.size).mono ?_
      rintro e w3 ⟨rfl, v3, r3, hq3, hr3, hb3, hk3⟩
      have HB3 := Lib.hid (HW.out.trans hb3)
      have HQ3 : Hid (QAt 40 3 w.heap.size gq 0 (cq.set 0 v3) r3 ((xs ++ [n]).map (Value.int .i64)) w3) := Lib.hid (by rw [List.map_append]; exact hq3)
      have HO3 := Lib.hid (QAt.apart HO.out hk3 HD.out)
      have HV3 := Lib.hid (q_move HV.out (fun q hq => hk3.2 q (q_lt HV.out q hq) (fun hS => HDQ.out q hq hS)))
      have HD3 := Lib.hid (apart_new HD.out (foot_new (b := gq) hr3) (QAt.foot_lt HO.out))
      have HDQ3 : Hid (∀ q, u8.ownBlock = some q → ¬ Ft gq r3 q) := Lib.hid (fun q hq hf => apart_new (fun q h1 h2 => HDQ.out q h2 h1) (foot_new (b := gq) hr3) (fun q hq => q_lt HV.out q hq) q hf hq)
      clear hq3 hr3 hb3 hk3 hc0
      have hc3 := HC.out _ HB3.out
      go_wp2_with (at_builtin; refine wpList_append_q _ rfl _ _ 36 rfl w.heap.size 3 i0 (.int .i64 0) 1 8 Try.underlying36 hi hz0 hz1 hz2 rfl (by decide) _ xs.length (xs.map (Value.int .i64)) rfl (q_move HV3.out (fun q hq => Below.heap_alloc _ _ _ (q_lt HV3.out q hq))) ⟨w3.heap.size, 0, none⟩ 1 1 [.int .i64 n] rfl rfl ?c1 ?c2 (by decide) ?c3 ?c4 ?c5 ?_)
      case c1 =>
        intro j u hj
        match j, hj with
        | 0, hj => simp at hj; subst hj; simp [Addr.add]
      case c2 => intro u hu; simp at hu; subst hu; rfl
      case c3 => unfold maxLen; omega
      case c4 => omega
      case c5 => have := HB3.out.size; (try simp); omega
      intro v8 w4 hv4 hg4 hat4
      have hk4 : Kept w3 w4 (fun q => u8.ownBlock = some q) := Kept.of_grown hg4 ((Kept.refl w3 _).alloc _) (fun q hq => .inl hq)
      have HB4 := Lib.hid ((below_alloc HB3.out _).grown hg4 (by have := HB3.out.size; simp; omega) (fun q hq => (q_typed HV3.out q hq).1))
      have HQ4 := Lib.hid (QAt.apart HQ3.out hk4 HDQ3.out)
      have HO4 := Lib.hid (QAt.apart HO3.out hk4 HDO.out)
      have hat4' : v8.ownBlock = u8.ownBlock ∨ ∃ b, v8.ownBlock = some b ∧ w3.heap.size ≤ b := by
        rcases hat4 with h | ⟨b, h, hb⟩
        · exact .inl h
        · exact .inr ⟨b, h, by (try simp at hb); omega⟩
      have HDQ4 := Lib.hid (apart_new HDQ3.out (own_new hat4') (QAt.foot_lt HQ3.out))
      have HDO4 := Lib.hid (apart_new HDO.out (own_new hat4') (QAt.foot_lt HO3.out))
      have HV4 : Hid (QRow w4 w.heap.size 3 1 v8 (xs ++ [n]).length ((xs ++ [n]).map (Value.int .i64))) := Lib.hid (by rw [List.length_append, List.map_append]; exact hv4)
      clear hv4 hg4 hat4 hat4' hk4 hc3 HV HV3 HQ HQ3 HO HO3 HDQ HDQ3 HD HB3 HDO
      obtain ⟨ys, hys⟩ : ∃ ys, xs ++ [n] = ys := ⟨_, rfl⟩
      rw [hys] at HQ4 HV4
      have hyl : 0 < ys.length ∧ ys.length ≤ k + 1 := by rw [← hys, List.length_append]; simp; omega
      clear hys
      have hpath : (∃ ad1, a1 = some ad1 ∧ k < len1 ∧ w4.cell? (ad1.add k) = some (.bool true)) ∨ (∃ ad1, a1 = some ad1 ∧ k < len1 ∧ w4.cell? (ad1.add k) = some (.bool false)) ∨ len1 ≤ k := by
        by_cases hk1 : k < len1
        · obtain ⟨ad1, b, ha, hb⟩ := bools_at HT.out k hk1
          cases b
          · exact .inr (.inl ⟨ad1, ha, hk1, hb _ HB4.out⟩)
          · exact .inl ⟨ad1, ha, hk1, hb _ HB4.out⟩
        · exact .inr (.inr (by omega))
      rcases hpath with ⟨ad1, rfl, hk1, hb1⟩ | ⟨ad1, rfl, hk1, hb1⟩ | hk1
      case' inl =>
        have hd1 : decide ((k : Int) < len1) = true := decide_eq_true (by omega)
        obtain ⟨x, zs, rfl⟩ : ∃ x zs, ys = x :: zs := by
          cases ys with
          | nil => exact absurd hyl.1 (by simp)
          | cons x zs => exact ⟨x, zs, rfl⟩
        go_wp2_with fail
        clear hb1
        refine (Take_i 40 w.heap.size gq 0 _ r3 x zs _ (by decide) HQ4.out).mono ?_
        rintro e w5 ⟨rfl, v5, hq5, hb5, hk5⟩
        have HQ5 := Lib.hid hq5
        have HB5 := Lib.hid (HB4.out.trans hb5)
        have HO5 := Lib.hid (QAt.apart HO4.out hk5 HD3.out)
        have hv5 := q_move HV4.out (fun q hq => hk5.2 q (q_lt HV4.out q hq) (fun hS => HDQ4.out q hq hS))
        obtain ⟨A8, c8, rfl, hc8⟩ := q_slice hv5
        have hdrop := q_drop (k := 1) hv5 (by simp)
        obtain ⟨ad8, rfl, hcell⟩ := q_cells hv5 (by simp)
        have hx0 := hcell 0 (.int .i64 x) rfl
        have hx1 : w5.cell? ad8 = some (.int .i64 x) := hx0
        have HDR := Lib.hid hdrop
        clear hq5 hb5 hk5 hv5 hdrop hcell hd1
        rcases Decidable.em (c8 = 1) with h81 | h81
        case' inl =>
          have HV5 : Hid (QRow w5 w.heap.size 3 1 (Value.slice (some ad8) zs.length 0) zs.length (zs.map (Value.int .i64))) := Lib.hid (by have := HDR.out; rw [if_pos h81, h81] at this; simpa using this)
          have HDQ5 : Hid (∀ q, (Value.slice (some ad8) zs.length 0).ownBlock = some q → ¬ Ft gq r3 q) := Lib.hid (fun q hq => HDQ4.out q (by simpa [Value.ownBlock] using hq))
          have HDO5 : Hid (∀ q, (Value.slice (some ad8) zs.length 0).ownBlock = some q → ¬ Ft go ro q) := Lib.hid (fun q hq => HDO4.out q (by simpa [Value.ownBlock] using hq))
          have hzl : zs.length ≤ k + 1 := by have := hyl.2; simp at this; omega
          clear HDR HDQ4 HDO4 HV4 HQ4 hyl
          go_wp2_with fail
          clear hx0 hx1
          clear h81
          generalize (Value.slice (some ad8) zs.length 0) = v9 at *
          obtain ⟨A9, c9, rfl, hc9⟩ := q_slice HV5.out
        case' inr =>
          have HV5 : Hid (QRow w5 w.heap.size 3 1 (Value.slice (some ⟨ad8.block, ad8.off + 1, none⟩) zs.length (c8 - 1)) zs.length (zs.map (Value.int .i64))) := Lib.hid (by have := HDR.out; rw [if_neg h81] at this; simpa [Addr.add] using this)
          have HDQ5 : Hid (∀ q, (Value.slice (some ⟨ad8.block, ad8.off + 1, none⟩) zs.length (c8 - 1)).ownBlock = some q → ¬ Ft gq r3 q) := Lib.hid (fun q hq => HDQ4.out q (by simpa [Value.ownBlock, add_block] using hq))
          have HDO5 : Hid (∀ q, (Value.slice (some ⟨ad8.block, ad8.off + 1, none⟩) zs.length (c8 - 1)).ownBlock = some q → ¬ Ft go ro q) := Lib.hid (fun q hq => HDO4.out q (by simpa [Value.ownBlock, add_block] using hq))
          have hzl : zs.length ≤ k + 1 := by have := hyl.2; simp at this; omega
          clear HDR HDQ4 HDO4 HV4 HQ4 hyl
          go_wp2_with fail
          clear hx0 hx1
          clear h81
          generalize (Value.slice (some ⟨ad8.block, ad8.off + 1, none⟩) zs.length (c8 - 1)) = v9 at *
          obtain ⟨A9, c9, rfl, hc9⟩ := q_slice HV5.out
      case' inr.inl =>
        have hd1 : decide ((k : Int) < len1) = true := decide_eq_true (by omega)
        go_wp2_with fail
        clear hb1 hd1
        have HV5 := HV4
        have HDQ5 := HDQ4
        have HDO5 := HDO4
        have HQ5 := HQ4
        have HO5 := HO4
        have HB5 := HB4
        have hzl := hyl.2
        obtain ⟨A9, c9, rfl, hc9⟩ := q_slice HV5.out
        clear HV4 HDQ4 HDO4 HQ4 HO4 HB4
        generalize ys = zs at *
        generalize w4 = w5 at *
      case' inr.inr =>
        have hd1 : decide ((k : Int) < len1) = false := decide_eq_false (by omega)
        go_wp2_with fail
        clear hd1
        have HV5 := HV4
        have HDQ5 := HDQ4
        have HDO5 := HDO4
        have HQ5 := HQ4
        have HO5 := HO4
        have HB5 := HB4
        have hzl := hyl.2
        obtain ⟨A9, c9, rfl, hc9⟩ := q_slice HV5.out
        clear HV4 HDQ4 HDO4 HQ4 HO4 HB4
        generalize ys = zs at *
        generalize w4 = w5 at *
      all_goals
        refine (All_i 40 w.heap.size gq _ r3 zs _ HQ5.out (by omega)).mono ?_
        rintro e w6 ⟨v6, rfl, ho6, hb6⟩
        obtain ⟨A6, c6, rfl⟩ := own_slice ho6
        have HR6 := Lib.hid ho6
        have HB6 := Lib.hid hb6
        have HV6 := Lib.hid (q_move HV5.out (fun q hq => hb6.block q (q_lt HV5.out q hq)))
        have HQ6 := Lib.hid (HQ5.out.keep (Kept.of_below hb6 (fun _ => False)) (fun h => h) (fun _ _ h => h))
        clear ho6 hb6
        go_wp2_with fail
        refine (Row_c A6 A9 zs.length c6 c9 zs _ (by omega) (q_ints (q_of_own HR6.out)) (q_ints HV6.out)).mono ?_
        rintro e _ ⟨rfl, m6, rfl⟩
        go_wp2_with fail
        refine (Len_i 40 w.heap.size gq 0 _ r3 _ _ (QAt.drewN HQ6.out m6)).mono ?_
        rintro e _ ⟨rfl, rfl⟩
        go_wp2_with fail
        have hls : (zs.map (Value.int .i64)).length = zs.length := List.length_map _
        go_loopw [14] (fun p14 wr2 => ∃ (j : Nat) (us : List Int), j ≤ zs.length ∧ p14 = .int .i64 j ∧ Hid (wr2.ownsRow w5.heap.size 3 1 (.slice A6 zs.length c6) zs.length (us.map (Value.int .i64))) ∧ Hid (Below w5.heap.size w5 wr2)) (fun i _ => zs.length - (intOf i).toNat)
        case atStart => exact ⟨0, zs, Nat.zero_le _, rfl, HR6, Lib.hid (pw_below_drewN HB6.out m6)⟩
        case round =>
          obtain ⟨j, us, hj, rfl, HU, HW2⟩ := hrel
          by_cases hjl : j < zs.length
          · obtain ⟨ad6, g6, rfl, hadg, hg6, hc6, hf6, hput⟩ := own_ints HU.out j hjl
            have HADG := Lib.hid hadg
            have HPUT := Lib.hid hput
            clear hadg hput
            go_wp2
            go_roundw
            case rel => exact ⟨j + 1, us.set j _, by omega, by simp, Lib.hid (HPUT.out _), Lib.hid (HW2.out.setCell (by rw [HADG.out, add_block]; exact hg6) _)⟩
            case measure => simp [intOf]; omega
          · have hdj : decide ((j : Int) < zs.length) = false := decide_eq_false (by omega)
            go_wp2
            go_roundw
            case rel => exact ⟨k + 1, zs, r3, _, by omega, by simp, hzl, Lib.hid (HQ5.out.keep (Kept.of_below HW2.out (fun _ => False)) (fun h => h) (fun _ _ h => h)), Lib.hid (HO5.out.keep (Kept.of_below HW2.out (fun _ => False)) (fun h => h) (fun _ _ h => h)), Lib.hid (q_move HV5.out (fun q hq => HW2.out.block q (q_lt HV5.out q hq))), HD3, HDQ5, HDO5, Lib.hid (HB5.out.trans (Below.mono HW2.out HB5.out.size))⟩
            case measure => simp [intOf]; omega
    · have hd : decide ((k : Int) < len0) = false := decide_eq_false (by omega)
      obtain ⟨A8, c8, rfl, hc8⟩ := q_slice HV.out
      have hx64 : xs.length ≤ 60 := by omega
      go_wp2_with fail
      generalize wr = wq at *
      go_loopw [15] (fun p15 wr2 => ∃ (j : Nat) (cq2 : List Value), j ≤ xs.length ∧ p15 = .int .i64 j ∧ Hid (QAt 40 3 w.heap.size gq 0 cq2 rq ((xs.drop j).map (Value.int .i64)) wr2) ∧ Hid (Kept wq wr2 (Ft gq rq)) ∧ Hid (Below w.heap.size w wr2)) (fun i _ => xs.length - (intOf i).toNat)
      case atStart => exact ⟨0, cq, Nat.zero_le _, rfl, HQ, Lib.hid (Kept.refl _ _), HW⟩
      case round =>
        obtain ⟨j, cq2, hj, rfl, HQ2, HK2, HW2⟩ := hrel
        by_cases hjl : j < xs.length
        · have hdr : xs.drop j = xs.getD j 0 :: xs.drop (j + 1) := by rw [List.getD_eq_getElem?_getD, List.getElem?_eq_getElem hjl, List.drop_eq_getElem_cons hjl]; rfl
          have hq2 := HQ2.out
          rw [hdr] at hq2
          have HQ3 := Lib.hid hq2
          clear hdr hq2
          go_wp2_with fail
          refine (Take_i 40 w.heap.size gq 0 _ rq (xs.getD j 0) _ _ (by decide) HQ3.out).mono ?_
          rintro e w5 ⟨rfl, v5, hq5, hb5, hk5⟩
          have HQ5 := Lib.hid hq5
          have HB5 := Lib.hid (HW2.out.trans hb5)
          have HK5 : Hid (Kept wq w5 (Ft gq rq)) := Lib.hid (Kept.then_ HK2.out hk5 (fun _ h => .inl h))
          have hv5 := q_move HV.out (fun q hq => HK5.out.2 q (q_lt HV.out q hq) (fun hS => HDQ.out q hq hS))
          obtain ⟨ad8, rfl, hc5⟩ := q_ints hv5 j hjl
          clear hq5 hb5 hk5 hv5
          go_wp2
          go_roundw
          case rel => exact ⟨j + 1, _, by omega, by simp, HQ5, HK5, HB5⟩
          case measure => simp [intOf]; omega
        · have hdj : decide ((j : Int) < xs.length) = false := decide_eq_false (by omega)
          have hq2 := HQ2.out
          rw [List.drop_eq_nil_of_le (by omega)] at hq2
          have HQ3 := Lib.hid hq2
          have HO2 := Lib.hid (QAt.apart HO.out HK2.out HD.out)
          clear hq2
          go_wp2_with fail
          refine (Take_none_i 40 w.heap.size gq 0 _ rq _ HQ3.out).mono ?_
          rintro e _ ⟨rfl, rfl⟩
          go_wp2_with fail
          refine (Len_i 40 w.heap.size gq 0 _ rq _ _ HQ3.out).mono ?_
          rintro e _ ⟨rfl, rfl⟩
          go_wp2_with fail
          refine (Len_i 40 w.heap.size go 0 _ ro _ _ HO2.out).mono ?_
          rintro e _ ⟨rfl, rfl⟩
          go_wp2
          go_ret
          exact ⟨rfl, HW2.out⟩
end Go.Proofs.Ytogmfibilopppaa.H

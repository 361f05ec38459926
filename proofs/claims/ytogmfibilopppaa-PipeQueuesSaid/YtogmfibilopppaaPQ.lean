/- Rows of the queue's law: what All tells, the document's Row, an append to a row that was cut at its front. No condition. -/
import Derived.Test.YtogmfibilopppaaAC
namespace Go.Proofs.Ytogmfibilopppaa.PI
open Go.RowKit Go.Proofs.YtogmfibilopppaaW.PrintWords Go.Proofs.YtogmfibilopppaaW.PrintLast Go.Proofs.YtogmfibilopppaaW.PrintMore Go.Proofs.Ytogmfibilopppaa.Q Go.Proofs.Ytogmfibilopppaa.BL Go.Proofs.Ytogmfibilopppaa.B Go.Proofs.Ytogmfibilopppaa.FL
set_option linter.unusedVariables false
set_option linter.unusedSimpArgs false
def IsRowI (w : World) (a : Option Addr) (len cap : Nat) (zs : List Int) : Prop :=
  (a = none ∧ len = 0 ∧ cap = 0 ∧ zs = []) ∨
  ∃ x, a = some x ∧ len ≤ cap ∧ cap ≤ maxLen ∧ zs.length = cap ∧ (∀ i, i < zs.length → w.cell? (x.add i) = some (.int .i64 (zs.getD i 0))) ∧ ∀ n ∈ zs, (Lit.int .i64 n).wf = true
theorem ints_at {W : World} {a : Option Addr} {len cap : Nat} {zs : List Int} (h : IsRowI W a len cap zs) (i : Nat) (hi : i < len) : ∃ ad n, a = some ad ∧ -9223372036854775808 ≤ n ∧ n ≤ 9223372036854775807 ∧ (∀ w, Below W.heap.size W w → w.cell? (ad.add i) = some (.int .i64 n)) := by
  rcases h with ⟨_, h0, _⟩ | ⟨x, ha, h1, h2, h3, h4, h5⟩
  · omega
  · have hz : i < zs.length := by omega
    have hm : zs.getD i 0 ∈ zs := by rw [List.getD_eq_getElem?_getD, List.getElem?_eq_getElem hz]; exact List.getElem_mem hz
    exact ⟨x, zs.getD i 0, ha, (wf64 (h5 _ hm)).1, (wf64 (h5 _ hm)).2, fun w hw => pw_cell_below hw (h4 i hz)⟩
theorem bools_at {W : World} {a : Option Addr} {len : Nat} {zs : List Bool} (h : IsBools W a len zs) (i : Nat) (hi : i < len) : ∃ ad b, a = some ad ∧ (∀ w, Below W.heap.size W w → w.cell? (ad.add i) = some (.bool b)) := by
  obtain ⟨ad, ha, h1⟩ := h.2.2 i hi
  exact ⟨ad, _, ha, fun w hw => pw_cell_below hw h1⟩
theorem wpList_append_q {P : Program} (w : World) {ops : Array Oper} {rest : List Oper} {o : Oper} {a : Act} {Q : Exit → Act → World → Prop} (hgd : o.guard = none) (s x : Operand) (t : TypeId)
    (ho : o.op = .call { callee := .builtin .append, args := #[s, x], argTypes := #[t, t] }) (base : Nat) (e : TypeId) (i : TypeInfo) (z : Value) (size bytes : Nat) (ht : P.underlying t = some (.slice e)) (hi : P.info? e = some i) (hz : i.zero = some z)
    (hsize : i.size = size) (hby : i.bytes = bytes) (hzs : z.cells.size = size) (hsz : 0 < size)
    (v : Value) (n : Nat) (xs : List Value) (hs : a.eval s = v) (hown : QRow w base e size v n xs)
    (ad : Addr) (m c : Nat) (news : List Value) (hx : a.eval x = .slice (some ad) m c) (hl : news.length = m * size) (hnews : ∀ j u, news[j]? = some u → w.cell? (ad.add j) = some u) (h1 : ∀ u ∈ news, u.oneCell' = true) (hm : 0 < m)
    (h63 : n + m ≤ maxLen) (hbytes : (n + m) * bytes ≤ 140737488355328) (hbase : base ≤ w.heap.size)
    (hK : ∀ v' w', QRow w' base e size v' (n + m) (xs ++ news) → w.grownBy w' v.ownBlock → (v'.ownBlock = v.ownBlock ∨ ∃ b, v'.ownBlock = some b ∧ w.heap.size ≤ b) → wpList P ops Q rest (a.put o.dst v') w') : wpList P ops Q (o :: rest) a w := by
  refine wpList_plain hgd fun K hK' => ?_
  obtain ⟨v', w', hrun, h2, h3, h4⟩ := q_append (P := P) w base t o.type e i z size bytes ht hi hz hsize hby hzs hsz v n xs hown ad m c news hl hnews h1 hm h63 hbytes hbase
  unfold Oper.wp
  simp [execOp, ho, resolve, invoke, builtin, hs, hx, hrun, Result.andThen]
  exact hK' _ _ (hK v' w' h2 h3 h4)
set_option maxHeartbeats 1000000 in
set_option maxRecDepth 100000 in
theorem All_i (T B b : Nat) (cs : List Value) (row : Option Nat) (xs : List Int) (w : World) (h : QAt T 3 B b 0 cs row (xs.map (Value.int .i64)) w) (hl : xs.length ≤ 1000000) :
    Calls Try.prog 18 #[.pointer (some ⟨b, 0, none⟩)] w fun e w' => ∃ v', e = .returned v' ∧ w'.ownsRow w.heap.size 3 1 v' xs.length (xs.map (Value.int .i64)) ∧ Below w.heap.size w w' := by
  obtain ⟨hB, hbk, v, hv, hown, hrow, hne⟩ := h
  have c1 : w.cell? ⟨b, 0, none⟩ = some v := by rw [blk_cell hbk]; simpa using hv
  rw [List.length_map] at hown
  rcases hown.2 with ⟨rfl, h0⟩ | ⟨g, cap, cur, rfl, hbg, hg, hnc, hcm, hcs, htake⟩
  · obtain rfl := List.eq_nil_of_length_eq_zero h0
    have HC := Lib.hid (Try.slices_Clone_int_nil 0 0 w)
    clear hB hbk hv hown hrow hne
    go_enter Try.func18, Try.ntmps18
    go_wp2_with fail
    refine HC.out.mono ?_
    rintro e w' ⟨rfl, rfl⟩
    go_wp2
    go_ret
    exact ⟨_, rfl, World.ownsRow_nil _ _ _ _, Below.refl _ _⟩
  · have HC := Lib.hid (Try.slices_Clone_int g 0 xs.length cap xs w (Nat.le_refl _) (by omega) (by
      intro j hj
      have := hown.cells (g := g) rfl j (.int .i64 (xs.getD j 0)) (by rw [List.getElem?_map, List.getD_eq_getElem?_getD, List.getElem?_eq_getElem hj]; rfl)
      rw [show (⟨g, 0, none⟩ : Addr).add j = ⟨g, 0 + j, none⟩ from by unfold Addr.add; split <;> simp_all] at this
      exact this))
    clear hB hbk hv hown hrow hne hg hcs htake hbg hnc hcm
    go_enter Try.func18, Try.ntmps18
    go_wp2_with fail
    refine HC.out.mono ?_
    rintro e w' ⟨v', rfl, h1, _, h3⟩
    go_wp2
    go_ret
    exact ⟨v', rfl, by rw [List.take_length] at h1; exact h1, h3⟩
set_option maxHeartbeats 1000000 in
set_option maxRecDepth 100000 in
theorem Row_c (A1 A2 : Option Addr) (n c1 c2 : Nat) (xs : List Int) (w : World) (hn : n ≤ 1000000) (h1 : ∀ i, i < n → ∃ ad, A1 = some ad ∧ w.cell? (ad.add i) = some (.int .i64 (xs.getD i 0))) (h2 : ∀ i, i < n → ∃ ad, A2 = some ad ∧ w.cell? (ad.add i) = some (.int .i64 (xs.getD i 0))) :
    Calls Try.prog 19 #[.slice A1 n c1, .slice A2 n c2] w fun e w' => e = .returned (.bool true) ∧ ∃ m, w' = w.drewN m := by
  have H1 := Lib.hid h1
  have H2 := Lib.hid h2
  clear h1 h2
  go_enter Try.func19, Try.ntmps19
  go_wp2
  go_loopw [5] (fun i wr => ∃ (k m : Nat), k ≤ n ∧ i = .int .i64 k ∧ wr = w.drewN m) (fun i _ => n - (intOf i).toNat)
  case atStart => exact ⟨0, 0, Nat.zero_le _, rfl, rfl⟩
  case round =>
    obtain ⟨k, m, hk, rfl, rfl⟩ := hrel
    by_cases hlt : k < n
    · obtain ⟨ad1, rfl, e1⟩ := H1.out k hlt
      obtain ⟨ad2, rfl, e2⟩ := H2.out k hlt
      go_wp2
      go_quiet (fail)
      clear e1 e2
      go_wp2
      go_roundw
      case rel => exact ⟨k + 1, _, by omega, by simp, rfl⟩
      case measure => simp [intOf]; omega
    · go_wp2
      go_ret
      exact ⟨rfl, m, rfl⟩
theorem q_ints {w : World} {B e : Nat} {A : Option Addr} {c n : Nat} {xs : List Int} (h : QRow w B e 1 (.slice A n c) n (xs.map (Value.int .i64))) : ∀ i, i < n → ∃ ad, A = some ad ∧ w.cell? (ad.add i) = some (.int .i64 (xs.getD i 0)) := by
  intro i hi
  obtain ⟨ad, ha, hc⟩ := q_cells h (by omega)
  have hl := h.1
  rw [List.length_map, Nat.mul_one] at hl
  exact ⟨ad, ha, hc i _ (by rw [List.getElem?_map, List.getD_eq_getElem?_getD, List.getElem?_eq_getElem (show i < xs.length by omega)]; rfl)⟩
theorem own_ints {w : World} {B e : Nat} {A : Option Addr} {c n : Nat} {xs : List Int} (h : w.ownsRow B e 1 (.slice A n c) n (xs.map (Value.int .i64))) (i : Nat) (hi : i < n) : ∃ ad g, A = some ad ∧ ad = ⟨g, 0, none⟩ ∧ B ≤ g ∧ w.cell? (ad.add i) = some (.int .i64 (xs.getD i 0)) ∧ w.frozen? (ad.add i) = false ∧
    ∀ u, (w.setCell (ad.add i) (.int .i64 u)).ownsRow B e 1 (.slice A n c) n ((xs.set i u).map (Value.int .i64)) := by
  rcases h.2 with ⟨h1, h0⟩ | ⟨g, cap, cur, h1, hb, hrest⟩
  · omega
  · injection h1 with h1 h2 h3
    subst h1; subst h3
    have hl : xs.length = n := by have := h.1; rw [List.length_map, Nat.mul_one] at this; exact this
    subst hl
    obtain ⟨h5, h6⟩ := own_at (k := .i64) (xs := xs) h i (by omega) (by omega)
    have hput := fun u => own_put (k := .i64) (xs := xs) h i u
    rw [Int.toNat_natCast] at h5 h6
    refine ⟨_, g, rfl, rfl, hb, ?_, ?_, fun u => ?_⟩
    · rw [add_plain, h5]; simp [rd]
    · rw [add_plain]; exact h6
    · have := hput u
      rw [Int.toNat_natCast, List.length_set] at this
      rw [add_plain]; exact this
end Go.Proofs.Ytogmfibilopppaa.PI

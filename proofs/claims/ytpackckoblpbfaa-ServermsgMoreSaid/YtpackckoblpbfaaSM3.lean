import Derived.Test.YtpackckoblpbfaaSM2
import Derived.Test.YtpackckoblpbfaaXx18
/-! The reader's steps keep what SM1 asks. -/
namespace Go.Proofs.Ytpackckoblpbfaa.H
set_option linter.unusedVariables false
open Go.RowKit Go.Proofs.Ytpackckoblpbfaa.X Go.Proofs.Ytpackckoblpbfaa.B Go.Proofs.Ytpackckoblpbfaa.O Go.Proofs.YtpackckoblpbfaaW.PrintWords Go.Proofs.YtpackckoblpbfaaW.PrintLast Go.Proofs.YtpackckoblpbfaaW.PrintMore
theorem asked_e {n : Int} (hn : n = 1 ∨ n = 2 ∨ n = 4) (e : Int) : asked e n = e := by unfold asked; rw [if_neg (fun h => h.2 hn)]
theorem intS_eq (q : RS) (n : Int) (hn : n = 1 ∨ n = 2 ∨ n = 4) (h : Ok q) : intS q n = some (beN (bytesOf (rdB q.s q.at_ q.ce n).1), afterR q (rdB q.s q.at_ q.ce n)) := by
  obtain ⟨k1, k2, k3, _⟩ := h
  unfold intS
  rw [Int_f q.s q.at_ q.ce n k1 k2 k3, asked_e hn]
  rfl
theorem bytesS_eq (q : RS) (n : Int) (h : Ok q) : bytesS q n = some ((rdB q.s q.at_ q.ce n).1, afterR q (rdB q.s q.at_ q.ce n)) := by
  obtain ⟨k1, k2, k3, _⟩ := h
  unfold bytesS
  rw [Bytes_f q.s q.at_ q.ce n k1 k2 k3]
  rfl
theorem signedS_eq (q : RS) (h : Ok q) : signedS q = some (wrap64 (wrap32 (beN (bytesOf (rdB q.s q.at_ q.ce 4).1))), afterR q (rdB q.s q.at_ q.ce 4)) := by
  obtain ⟨k1, k2, k3, _⟩ := h
  unfold signedS octets_Cursor_Signed.f
  rw [Int_f q.s q.at_ q.ce 4 k1 k2 k3, asked_e (.inr (.inr rfl))]
  rfl
theorem beN_nn (l : List Int) (h : ∀ x ∈ l, 0 ≤ x ∧ x < 256) : 0 ≤ beN l := by
  have key : ∀ (l : List Int) (a : Int), 0 ≤ a → (∀ x ∈ l, 0 ≤ x ∧ x < 256) → 0 ≤ l.foldl (fun a x => a * 256 + x) a := by
    intro l
    induction l with
    | nil => intro a ha _; exact ha
    | cons y l ih => intro a ha hl; exact ih (a * 256 + y) (by have := (hl y (List.mem_cons_self ..)).1; omega) (fun x hx => hl x (List.mem_cons_of_mem _ hx))
  exact key l 0 (Int.le_refl _) h
theorem val_ok (q : RS) (n : Int) (h : Ok q) : 0 ≤ beN (bytesOf (rdB q.s q.at_ q.ce n).1) ∧ (n = 1 → beN (bytesOf (rdB q.s q.at_ q.ce n).1) ≤ 255) := by
  refine ⟨beN_nn _ (fun x hx => bytes_range _ x hx), fun h1 => ?_⟩
  subst h1
  have hz := rdB_size q.s q.at_ q.ce 1 h.2.1 h.2.2.1
  generalize (rdB q.s q.at_ q.ce 1).1 = b at *
  have hl : (bytesOf b).length ≤ 1 := by rw [bytesOf_length]; omega
  have hr := bytes_range b
  generalize bytesOf b = l at *
  match l, hl with
  | [], _ => simp [beN]
  | [x], _ => have := hr x (by simp); simp [beN]; omega
  | _ :: _ :: _, hl => simp at hl
theorem int_good (n : Int) (hn : n = 1 ∨ n = 2 ∨ n = 4) : Good (fun v => 0 ≤ v ∧ (n = 1 → v ≤ 255)) (fun q => intS q n) := fun q h =>
  ⟨_, _, intS_eq q n hn h, val_ok q n h, rd_goes q n (by omega) h⟩
theorem bytes_good (n : Int) (hn : 0 ≤ n) : Good (fun _ => True) (fun q => bytesS q n) := fun q h => ⟨_, _, bytesS_eq q n h, trivial, rd_goes q n hn h⟩
theorem signed_good : Good (fun _ => True) (fun q => signedS q) := fun q h => ⟨_, _, signedS_eq q h, trivial, rd_goes q 4 (by decide) h⟩
theorem int_lock (n : Int) (hn : n = 1 ∨ n = 2 ∨ n = 4) : Lock (fun v => 0 ≤ v ∧ (n = 1 → v ≤ 255)) (fun q => intS q n) := fun t q q' h h' hs =>
  ⟨_, _, _, _, intS_eq q n hn h, intS_eq q' n hn h', val_ok q n h, val_ok q' n h', (rd_goes q n (by omega) h).ok, (rd_goes q' n (by omega) h').ok, rfl, (rd_lock t q q' n (by omega) h h' hs).imp (fun ⟨a, b⟩ => ⟨a, by rw [b]⟩) id⟩
theorem bytes_lock (n : Int) (hn : 0 ≤ n) : Lock (fun _ => True) (fun q => bytesS q n) := fun t q q' h h' hs =>
  ⟨_, _, _, _, bytesS_eq q n h, bytesS_eq q' n h', trivial, trivial, (rd_goes q n hn h).ok, (rd_goes q' n hn h').ok, rfl, rd_lock t q q' n hn h h' hs⟩
theorem signed_lock : Lock (fun _ => True) (fun q => signedS q) := fun t q q' h h' hs =>
  ⟨_, _, _, _, signedS_eq q h, signedS_eq q' h', trivial, trivial, (rd_goes q 4 (by decide) h).ok, (rd_goes q' 4 (by decide) h').ok, rfl, (rd_lock t q q' 4 (by decide) h h' hs).imp (fun ⟨a, b⟩ => ⟨a, by rw [b]⟩) id⟩
/-- A branch on the reader's own error. -/
theorem Good.onRe {α : Type} {P : α → Prop} {f g : RS → Option (α × RS)} (hf : Good P f) (hg : Good P g) : Good P (fun q => if q.re = 0 then f q else g q) := fun q h => by
  by_cases hc : q.re = 0
  · simpa [hc] using hf q h
  · simpa [hc] using hg q h
theorem Lock.onRe {α : Type} {P : α → Prop} {f g : RS → Option (α × RS)} (hf : Lock P f) : Lock P (fun q => if q.re = 0 then f q else g q) := fun t q q' h h' hs => by
  have h1 := hs.2.2.2.2.1
  have h2 := hs.2.2.2.2.2
  obtain ⟨v, v', p, p', a⟩ := hf t q q' h h' hs
  exact ⟨v, v', p, p', by simpa [h1] using a.1, by simpa [h2] using a.2.1, a.2.2⟩
theorem text_eq : textS = fun q => (intS q 4).bind fun p => (fun n q => (some ((), failS q (decide (4096 < n)) 4)).bind fun r => (fun q => if q.re = 0 then bytesS q n else some (⟨#[]⟩, q)) r.2) p.1 p.2 := by
  funext q
  unfold textS
  rfl
theorem text_good : Good (fun _ => True) textS := by
  rw [text_eq]
  exact (int_good 4 (.inr (.inr rfl))).bind (fun n hn => (fail_good (decide (4096 < n)) 4 (by decide)).bind (g := fun _ q => if q.re = 0 then bytesS q n else some (⟨#[]⟩, q)) (fun _ _ => (bytes_good n hn.1).onRe (Good.pure _ trivial)))
theorem text_lock : Lock (fun _ => True) textS := by
  rw [text_eq]
  exact (int_lock 4 (.inr (.inr rfl))).bind (fun n hn => (fail_good (decide (4096 < n)) 4 (by decide)).bind (g := fun _ q => if q.re = 0 then bytesS q n else some (⟨#[]⟩, q)) (fun _ _ => (bytes_good n hn.1).onRe (Good.pure _ trivial)))
    (fun n hn => (fail_lock (decide (4096 < n)) 4 (by decide)).bind (g := fun _ q => if q.re = 0 then bytesS q n else some (⟨#[]⟩, q)) (fun _ _ => (bytes_good n hn.1).onRe (Good.pure _ trivial)) (fun _ _ => (bytes_lock n hn.1).onRe))
end Go.Proofs.Ytpackckoblpbfaa.H

import Derived.Test.YtclikkhkhoicfaaCL7
/-! The walk of Plain. -/
namespace Go.Proofs.Ytclikkhkhoicfaa.H
set_option linter.unusedVariables false
set_option linter.unusedSimpArgs false
open Go.RowKit Go.Proofs.Ytclikkhkhoicfaa.X Go.Proofs.YtclikkhkhoicfaaW.PrintWords Go.Proofs.YtclikkhkhoicfaaW.PrintLast Go.Proofs.YtclikkhkhoicfaaW.PrintMore
section
attribute [local go_sem ↓] exec_store_msg exec_load_msg
attribute [local go_sem] store_msg load_msg
set_option maxHeartbeats 4000000 in
set_option maxRecDepth 100000 in
theorem plain_k0 (b0 : Int) (b1 : Bool) (b2 : Int) (b3 : Int) (b4 : Int) (b5 : Int) (b6 : Int) (b7 : Int) (b8 : Int) (b9 : Bool) (b10 : Bool) (b11 : Int) (b12 : Int) (b13 : Int) (b14 : Int) (b15 : Int) (b16 : Int) (b18 : ByteArray) (A : Option Addr) (n c : Nat) (W : World) (hk : b0 = 0) :
    Calls Try.prog 14 #[.agg #[.int .i64 b0, .bool b1, .int .i64 b2, .int .i64 b3, .int .i64 b4, .int .i64 b5, .int .i64 b6, .int .i64 b7, .int .i64 b8, .bool b9, .bool b10, .int .i64 b11, .int .i64 b12, .int .i64 b13, .int .i64 b14, .int .i64 b15, .int .i64 b16, .slice A n c, .string b18]] W fun e W' => e = .returned (.agg #[.int .i64 b0, .bool false, .int .i64 0, .int .i64 0, .int .i64 0, .int .i64 0, .int .i64 0, .int .i64 b7, .int .i64 b8, .bool b9, .bool b10, .int .i64 b11, .int .i64 b12, .int .i64 b13, .int .i64 b14, .int .i64 b15, .int .i64 b16, .slice none 0 0, .string ⟨#[]⟩]) ∧ Below W.heap.size W W' := by
  have e0 : (b0 == 0) = true := by simp [hk]
  clear hk
  obtain ⟨Wa, hWa⟩ : ∃ X, (W.alloc (.cells #[.int .i64 b0, .bool b1, .int .i64 b2, .int .i64 b3, .int .i64 b4, .int .i64 b5, .int .i64 b6, .int .i64 b7, .int .i64 b8, .bool b9, .bool b10, .int .i64 b11, .int .i64 b12, .int .i64 b13, .int .i64 b14, .int .i64 b15, .int .i64 b16, .slice A n c, .string b18] 30)).alloc (.cells #[.int .i64 0, .bool false, .int .i64 0, .int .i64 0, .int .i64 0, .int .i64 0, .int .i64 0, .int .i64 0, .int .i64 0, .bool false, .bool false, .int .i64 0, .int .i64 0, .int .i64 0, .int .i64 0, .int .i64 0, .int .i64 0, .slice none 0 0, .string ⟨#[]⟩] 30) = X := ⟨_, rfl⟩
  have hb := below_alloc (below_alloc (Below.refl W.heap.size W) (.cells #[.int .i64 b0, .bool b1, .int .i64 b2, .int .i64 b3, .int .i64 b4, .int .i64 b5, .int .i64 b6, .int .i64 b7, .int .i64 b8, .bool b9, .bool b10, .int .i64 b11, .int .i64 b12, .int .i64 b13, .int .i64 b14, .int .i64 b15, .int .i64 b16, .slice A n c, .string b18] 30)) (.cells #[.int .i64 0, .bool false, .int .i64 0, .int .i64 0, .int .i64 0, .int .i64 0, .int .i64 0, .int .i64 0, .int .i64 0, .bool false, .bool false, .int .i64 0, .int .i64 0, .int .i64 0, .int .i64 0, .int .i64 0, .int .i64 0, .slice none 0 0, .string ⟨#[]⟩] 30)
  have HYa := Lib.hid (show Wa.heap[W.heap.size + 1]? = some (.cells #[.int .i64 0, .bool false, .int .i64 0, .int .i64 0, .int .i64 0, .int .i64 0, .int .i64 0, .int .i64 0, .int .i64 0, .bool false, .bool false, .int .i64 0, .int .i64 0, .int .i64 0, .int .i64 0, .int .i64 0, .int .i64 0, .slice none 0 0, .string ⟨#[]⟩] 30 (0, 0)) from by rw [← hWa]; have h0 := heap_alloc_new (W.alloc (.cells #[.int .i64 b0, .bool b1, .int .i64 b2, .int .i64 b3, .int .i64 b4, .int .i64 b5, .int .i64 b6, .int .i64 b7, .int .i64 b8, .bool b9, .bool b10, .int .i64 b11, .int .i64 b12, .int .i64 b13, .int .i64 b14, .int .i64 b15, .int .i64 b16, .slice A n c, .string b18] 30)) (.cells #[.int .i64 0, .bool false, .int .i64 0, .int .i64 0, .int .i64 0, .int .i64 0, .int .i64 0, .int .i64 0, .int .i64 0, .bool false, .bool false, .int .i64 0, .int .i64 0, .int .i64 0, .int .i64 0, .int .i64 0, .int .i64 0, .slice none 0 0, .string ⟨#[]⟩] 30); rwa [World.size_alloc] at h0)
  have HXa := Lib.hid (show Wa.heap[W.heap.size]? = some (.cells #[.int .i64 b0, .bool b1, .int .i64 b2, .int .i64 b3, .int .i64 b4, .int .i64 b5, .int .i64 b6, .int .i64 b7, .int .i64 b8, .bool b9, .bool b10, .int .i64 b11, .int .i64 b12, .int .i64 b13, .int .i64 b14, .int .i64 b15, .int .i64 b16, .slice A n c, .string b18] 30 (0, 0)) from by rw [← hWa]; exact (Below.heap_alloc _ _ _ (by simp)).trans (heap_alloc_new W _))
  rw [hWa] at hb
  have HB := Lib.hid hb
  clear hb
  have y0 : Wa.cell? ⟨W.heap.size, 0, none⟩ = some (.int .i64 b0) := (blk_cell HXa.out 0).trans rfl
  have y7 : Wa.cell? ⟨W.heap.size, 7, none⟩ = some (.int .i64 b7) := (blk_cell HXa.out 7).trans rfl
  have y8 : Wa.cell? ⟨W.heap.size, 8, none⟩ = some (.int .i64 b8) := (blk_cell HXa.out 8).trans rfl
  have y9 : Wa.cell? ⟨W.heap.size, 9, none⟩ = some (.bool b9) := (blk_cell HXa.out 9).trans rfl
  have y10 : Wa.cell? ⟨W.heap.size, 10, none⟩ = some (.bool b10) := (blk_cell HXa.out 10).trans rfl
  have y11 : Wa.cell? ⟨W.heap.size, 11, none⟩ = some (.int .i64 b11) := (blk_cell HXa.out 11).trans rfl
  have y12 : Wa.cell? ⟨W.heap.size, 12, none⟩ = some (.int .i64 b12) := (blk_cell HXa.out 12).trans rfl
  have y13 : Wa.cell? ⟨W.heap.size, 13, none⟩ = some (.int .i64 b13) := (blk_cell HXa.out 13).trans rfl
  have y14 : Wa.cell? ⟨W.heap.size, 14, none⟩ = some (.int .i64 b14) := (blk_cell HXa.out 14).trans rfl
  have y15 : Wa.cell? ⟨W.heap.size, 15, none⟩ = some (.int .i64 b15) := (blk_cell HXa.out 15).trans rfl
  have y16 : Wa.cell? ⟨W.heap.size, 16, none⟩ = some (.int .i64 b16) := (blk_cell HXa.out 16).trans rfl
  have hst : X.rowAt Wa (W.heap.size + 1) 30 19 = true := X.rowAt_of HYa.out rfl
  have HYz := Lib.hid (setRow_heap Wa (W.heap.size + 1) _ #[.int .i64 b0, .bool false, .int .i64 0, .int .i64 0, .int .i64 0, .int .i64 0, .int .i64 0, .int .i64 b7, .int .i64 b8, .bool b9, .bool b10, .int .i64 b11, .int .i64 b12, .int .i64 b13, .int .i64 b14, .int .i64 b15, .int .i64 b16, .slice none 0 0, .string ⟨#[]⟩] _ _ HYa.out)
  have HBz := Lib.hid (X.below_row (g := W.heap.size + 1) HB.out (by omega) #[.int .i64 b0, .bool false, .int .i64 0, .int .i64 0, .int .i64 0, .int .i64 0, .int .i64 0, .int .i64 b7, .int .i64 b8, .bool b9, .bool b10, .int .i64 b11, .int .i64 b12, .int .i64 b13, .int .i64 b14, .int .i64 b15, .int .i64 b16, .slice none 0 0, .string ⟨#[]⟩])
  go_enter Try.func14, Try.ntmps14
  go_upto_region 1 with (fail)
  try rw [hWa]
  clear hWa
  go_wp2_with fail
  refine bodyPost_ret (results_cell_row rfl _ _ (W.heap.size + 1) 30 #[.int .i64 b0, .bool false, .int .i64 0, .int .i64 0, .int .i64 0, .int .i64 0, .int .i64 0, .int .i64 b7, .int .i64 b8, .bool b9, .bool b10, .int .i64 b11, .int .i64 b12, .int .i64 b13, .int .i64 b14, .int .i64 b15, .int .i64 b16, .slice none 0 0, .string ⟨#[]⟩] (0, 0) _ rfl (by with_reducible exact HYz.out) Try.underlying30 rfl (by kernel_rfl)) rfl ?_
  exact ⟨rfl, HBz.out⟩
set_option maxHeartbeats 4000000 in
set_option maxRecDepth 100000 in
theorem plain_k1 (b0 : Int) (b1 : Bool) (b2 : Int) (b3 : Int) (b4 : Int) (b5 : Int) (b6 : Int) (b7 : Int) (b8 : Int) (b9 : Bool) (b10 : Bool) (b11 : Int) (b12 : Int) (b13 : Int) (b14 : Int) (b15 : Int) (b16 : Int) (b18 : ByteArray) (A : Option Addr) (n c : Nat) (W : World) (hk : b0 = 1) :
    Calls Try.prog 14 #[.agg #[.int .i64 b0, .bool b1, .int .i64 b2, .int .i64 b3, .int .i64 b4, .int .i64 b5, .int .i64 b6, .int .i64 b7, .int .i64 b8, .bool b9, .bool b10, .int .i64 b11, .int .i64 b12, .int .i64 b13, .int .i64 b14, .int .i64 b15, .int .i64 b16, .slice A n c, .string b18]] W fun e W' => e = .returned (.agg #[.int .i64 b0, .bool false, .int .i64 0, .int .i64 0, .int .i64 0, .int .i64 0, .int .i64 0, .int .i64 0, .int .i64 0, .bool false, .bool false, .int .i64 0, .int .i64 0, .int .i64 0, .int .i64 0, .int .i64 0, .int .i64 0, .slice A n c, .string ⟨#[]⟩]) ∧ Below W.heap.size W W' := by
  have e0 : (b0 == 0) = false := by simp [hk]
  have e1 : (b0 == 1) = true := by simp [hk]
  clear hk
  obtain ⟨Wa, hWa⟩ : ∃ X, (W.alloc (.cells #[.int .i64 b0, .bool b1, .int .i64 b2, .int .i64 b3, .int .i64 b4, .int .i64 b5, .int .i64 b6, .int .i64 b7, .int .i64 b8, .bool b9, .bool b10, .int .i64 b11, .int .i64 b12, .int .i64 b13, .int .i64 b14, .int .i64 b15, .int .i64 b16, .slice A n c, .string b18] 30)).alloc (.cells #[.int .i64 0, .bool false, .int .i64 0, .int .i64 0, .int .i64 0, .int .i64 0, .int .i64 0, .int .i64 0, .int .i64 0, .bool false, .bool false, .int .i64 0, .int .i64 0, .int .i64 0, .int .i64 0, .int .i64 0, .int .i64 0, .slice none 0 0, .string ⟨#[]⟩] 30) = X := ⟨_, rfl⟩
  have hb := below_alloc (below_alloc (Below.refl W.heap.size W) (.cells #[.int .i64 b0, .bool b1, .int .i64 b2, .int .i64 b3, .int .i64 b4, .int .i64 b5, .int .i64 b6, .int .i64 b7, .int .i64 b8, .bool b9, .bool b10, .int .i64 b11, .int .i64 b12, .int .i64 b13, .int .i64 b14, .int .i64 b15, .int .i64 b16, .slice A n c, .string b18] 30)) (.cells #[.int .i64 0, .bool false, .int .i64 0, .int .i64 0, .int .i64 0, .int .i64 0, .int .i64 0, .int .i64 0, .int .i64 0, .bool false, .bool false, .int .i64 0, .int .i64 0, .int .i64 0, .int .i64 0, .int .i64 0, .int .i64 0, .slice none 0 0, .string ⟨#[]⟩] 30)
  have HYa := Lib.hid (show Wa.heap[W.heap.size + 1]? = some (.cells #[.int .i64 0, .bool false, .int .i64 0, .int .i64 0, .int .i64 0, .int .i64 0, .int .i64 0, .int .i64 0, .int .i64 0, .bool false, .bool false, .int .i64 0, .int .i64 0, .int .i64 0, .int .i64 0, .int .i64 0, .int .i64 0, .slice none 0 0, .string ⟨#[]⟩] 30 (0, 0)) from by rw [← hWa]; have h0 := heap_alloc_new (W.alloc (.cells #[.int .i64 b0, .bool b1, .int .i64 b2, .int .i64 b3, .int .i64 b4, .int .i64 b5, .int .i64 b6, .int .i64 b7, .int .i64 b8, .bool b9, .bool b10, .int .i64 b11, .int .i64 b12, .int .i64 b13, .int .i64 b14, .int .i64 b15, .int .i64 b16, .slice A n c, .string b18] 30)) (.cells #[.int .i64 0, .bool false, .int .i64 0, .int .i64 0, .int .i64 0, .int .i64 0, .int .i64 0, .int .i64 0, .int .i64 0, .bool false, .bool false, .int .i64 0, .int .i64 0, .int .i64 0, .int .i64 0, .int .i64 0, .int .i64 0, .slice none 0 0, .string ⟨#[]⟩] 30); rwa [World.size_alloc] at h0)
  have HXa := Lib.hid (show Wa.heap[W.heap.size]? = some (.cells #[.int .i64 b0, .bool b1, .int .i64 b2, .int .i64 b3, .int .i64 b4, .int .i64 b5, .int .i64 b6, .int .i64 b7, .int .i64 b8, .bool b9, .bool b10, .int .i64 b11, .int .i64 b12, .int .i64 b13, .int .i64 b14, .int .i64 b15, .int .i64 b16, .slice A n c, .string b18] 30 (0, 0)) from by rw [← hWa]; exact (Below.heap_alloc _ _ _ (by simp)).trans (heap_alloc_new W _))
  rw [hWa] at hb
  have HB := Lib.hid hb
  clear hb
  have y0 : Wa.cell? ⟨W.heap.size, 0, none⟩ = some (.int .i64 b0) := (blk_cell HXa.out 0).trans rfl
  have y17 : Wa.cell? ⟨W.heap.size, 17, none⟩ = some (.slice A n c) := (blk_cell HXa.out 17).trans rfl
  have hst : X.rowAt Wa (W.heap.size + 1) 30 19 = true := X.rowAt_of HYa.out rfl
  have HYz := Lib.hid (setRow_heap Wa (W.heap.size + 1) _ #[.int .i64 b0, .bool false, .int .i64 0, .int .i64 0, .int .i64 0, .int .i64 0, .int .i64 0, .int .i64 0, .int .i64 0, .bool false, .bool false, .int .i64 0, .int .i64 0, .int .i64 0, .int .i64 0, .int .i64 0, .int .i64 0, .slice A n c, .string ⟨#[]⟩] _ _ HYa.out)
  have HBz := Lib.hid (X.below_row (g := W.heap.size + 1) HB.out (by omega) #[.int .i64 b0, .bool false, .int .i64 0, .int .i64 0, .int .i64 0, .int .i64 0, .int .i64 0, .int .i64 0, .int .i64 0, .bool false, .bool false, .int .i64 0, .int .i64 0, .int .i64 0, .int .i64 0, .int .i64 0, .int .i64 0, .slice A n c, .string ⟨#[]⟩])
  go_enter Try.func14, Try.ntmps14
  go_upto_region 1 with (fail)
  try rw [hWa]
  clear hWa
  go_wp2_with fail
  refine bodyPost_ret (results_cell_row rfl _ _ (W.heap.size + 1) 30 #[.int .i64 b0, .bool false, .int .i64 0, .int .i64 0, .int .i64 0, .int .i64 0, .int .i64 0, .int .i64 0, .int .i64 0, .bool false, .bool false, .int .i64 0, .int .i64 0, .int .i64 0, .int .i64 0, .int .i64 0, .int .i64 0, .slice A n c, .string ⟨#[]⟩] (0, 0) _ rfl (by with_reducible exact HYz.out) Try.underlying30 rfl (by kernel_rfl)) rfl ?_
  exact ⟨rfl, HBz.out⟩
set_option maxHeartbeats 4000000 in
set_option maxRecDepth 100000 in
theorem plain_k2 (b0 : Int) (b1 : Bool) (b2 : Int) (b3 : Int) (b4 : Int) (b5 : Int) (b6 : Int) (b7 : Int) (b8 : Int) (b9 : Bool) (b10 : Bool) (b11 : Int) (b12 : Int) (b13 : Int) (b14 : Int) (b15 : Int) (b16 : Int) (b18 : ByteArray) (A : Option Addr) (n c : Nat) (W : World) (hk : b0 = 2) :
    Calls Try.prog 14 #[.agg #[.int .i64 b0, .bool b1, .int .i64 b2, .int .i64 b3, .int .i64 b4, .int .i64 b5, .int .i64 b6, .int .i64 b7, .int .i64 b8, .bool b9, .bool b10, .int .i64 b11, .int .i64 b12, .int .i64 b13, .int .i64 b14, .int .i64 b15, .int .i64 b16, .slice A n c, .string b18]] W fun e W' => e = .returned (.agg #[.int .i64 b0, .bool b1, .int .i64 0, .int .i64 b3, .int .i64 b4, .int .i64 b5, .int .i64 b6, .int .i64 0, .int .i64 0, .bool false, .bool false, .int .i64 0, .int .i64 0, .int .i64 0, .int .i64 0, .int .i64 0, .int .i64 0, .slice none 0 0, .string ⟨#[]⟩]) ∧ Below W.heap.size W W' := by
  have e0 : (b0 == 0) = false := by simp [hk]
  have e1 : (b0 == 1) = false := by simp [hk]
  have e2 : (b0 == 2) = true := by simp [hk]
  clear hk
  obtain ⟨Wa, hWa⟩ : ∃ X, (W.alloc (.cells #[.int .i64 b0, .bool b1, .int .i64 b2, .int .i64 b3, .int .i64 b4, .int .i64 b5, .int .i64 b6, .int .i64 b7, .int .i64 b8, .bool b9, .bool b10, .int .i64 b11, .int .i64 b12, .int .i64 b13, .int .i64 b14, .int .i64 b15, .int .i64 b16, .slice A n c, .string b18] 30)).alloc (.cells #[.int .i64 0, .bool false, .int .i64 0, .int .i64 0, .int .i64 0, .int .i64 0, .int .i64 0, .int .i64 0, .int .i64 0, .bool false, .bool false, .int .i64 0, .int .i64 0, .int .i64 0, .int .i64 0, .int .i64 0, .int .i64 0, .slice none 0 0, .string ⟨#[]⟩] 30) = X := ⟨_, rfl⟩
  have hb := below_alloc (below_alloc (Below.refl W.heap.size W) (.cells #[.int .i64 b0, .bool b1, .int .i64 b2, .int .i64 b3, .int .i64 b4, .int .i64 b5, .int .i64 b6, .int .i64 b7, .int .i64 b8, .bool b9, .bool b10, .int .i64 b11, .int .i64 b12, .int .i64 b13, .int .i64 b14, .int .i64 b15, .int .i64 b16, .slice A n c, .string b18] 30)) (.cells #[.int .i64 0, .bool false, .int .i64 0, .int .i64 0, .int .i64 0, .int .i64 0, .int .i64 0, .int .i64 0, .int .i64 0, .bool false, .bool false, .int .i64 0, .int .i64 0, .int .i64 0, .int .i64 0, .int .i64 0, .int .i64 0, .slice none 0 0, .string ⟨#[]⟩] 30)
  have HYa := Lib.hid (show Wa.heap[W.heap.size + 1]? = some (.cells #[.int .i64 0, .bool false, .int .i64 0, .int .i64 0, .int .i64 0, .int .i64 0, .int .i64 0, .int .i64 0, .int .i64 0, .bool false, .bool false, .int .i64 0, .int .i64 0, .int .i64 0, .int .i64 0, .int .i64 0, .int .i64 0, .slice none 0 0, .string ⟨#[]⟩] 30 (0, 0)) from by rw [← hWa]; have h0 := heap_alloc_new (W.alloc (.cells #[.int .i64 b0, .bool b1, .int .i64 b2, .int .i64 b3, .int .i64 b4, .int .i64 b5, .int .i64 b6, .int .i64 b7, .int .i64 b8, .bool b9, .bool b10, .int .i64 b11, .int .i64 b12, .int .i64 b13, .int .i64 b14, .int .i64 b15, .int .i64 b16, .slice A n c, .string b18] 30)) (.cells #[.int .i64 0, .bool false, .int .i64 0, .int .i64 0, .int .i64 0, .int .i64 0, .int .i64 0, .int .i64 0, .int .i64 0, .bool false, .bool false, .int .i64 0, .int .i64 0, .int .i64 0, .int .i64 0, .int .i64 0, .int .i64 0, .slice none 0 0, .string ⟨#[]⟩] 30); rwa [World.size_alloc] at h0)
  have HXa := Lib.hid (show Wa.heap[W.heap.size]? = some (.cells #[.int .i64 b0, .bool b1, .int .i64 b2, .int .i64 b3, .int .i64 b4, .int .i64 b5, .int .i64 b6, .int .i64 b7, .int .i64 b8, .bool b9, .bool b10, .int .i64 b11, .int .i64 b12, .int .i64 b13, .int .i64 b14, .int .i64 b15, .int .i64 b16, .slice A n c, .string b18] 30 (0, 0)) from by rw [← hWa]; exact (Below.heap_alloc _ _ _ (by simp)).trans (heap_alloc_new W _))
  rw [hWa] at hb
  have HB := Lib.hid hb
  clear hb
  have y0 : Wa.cell? ⟨W.heap.size, 0, none⟩ = some (.int .i64 b0) := (blk_cell HXa.out 0).trans rfl
  have y1 : Wa.cell? ⟨W.heap.size, 1, none⟩ = some (.bool b1) := (blk_cell HXa.out 1).trans rfl
  have y3 : Wa.cell? ⟨W.heap.size, 3, none⟩ = some (.int .i64 b3) := (blk_cell HXa.out 3).trans rfl
  have y4 : Wa.cell? ⟨W.heap.size, 4, none⟩ = some (.int .i64 b4) := (blk_cell HXa.out 4).trans rfl
  have y5 : Wa.cell? ⟨W.heap.size, 5, none⟩ = some (.int .i64 b5) := (blk_cell HXa.out 5).trans rfl
  have y6 : Wa.cell? ⟨W.heap.size, 6, none⟩ = some (.int .i64 b6) := (blk_cell HXa.out 6).trans rfl
  have hst : X.rowAt Wa (W.heap.size + 1) 30 19 = true := X.rowAt_of HYa.out rfl
  have HYz := Lib.hid (setRow_heap Wa (W.heap.size + 1) _ #[.int .i64 b0, .bool b1, .int .i64 0, .int .i64 b3, .int .i64 b4, .int .i64 b5, .int .i64 b6, .int .i64 0, .int .i64 0, .bool false, .bool false, .int .i64 0, .int .i64 0, .int .i64 0, .int .i64 0, .int .i64 0, .int .i64 0, .slice none 0 0, .string ⟨#[]⟩] _ _ HYa.out)
  have HBz := Lib.hid (X.below_row (g := W.heap.size + 1) HB.out (by omega) #[.int .i64 b0, .bool b1, .int .i64 0, .int .i64 b3, .int .i64 b4, .int .i64 b5, .int .i64 b6, .int .i64 0, .int .i64 0, .bool false, .bool false, .int .i64 0, .int .i64 0, .int .i64 0, .int .i64 0, .int .i64 0, .int .i64 0, .slice none 0 0, .string ⟨#[]⟩])
  go_enter Try.func14, Try.ntmps14
  go_upto_region 1 with (fail)
  try rw [hWa]
  clear hWa
  go_wp2_with fail
  refine bodyPost_ret (results_cell_row rfl _ _ (W.heap.size + 1) 30 #[.int .i64 b0, .bool b1, .int .i64 0, .int .i64 b3, .int .i64 b4, .int .i64 b5, .int .i64 b6, .int .i64 0, .int .i64 0, .bool false, .bool false, .int .i64 0, .int .i64 0, .int .i64 0, .int .i64 0, .int .i64 0, .int .i64 0, .slice none 0 0, .string ⟨#[]⟩] (0, 0) _ rfl (by with_reducible exact HYz.out) Try.underlying30 rfl (by kernel_rfl)) rfl ?_
  exact ⟨rfl, HBz.out⟩
set_option maxHeartbeats 4000000 in
set_option maxRecDepth 100000 in
theorem plain_k3 (b0 : Int) (b1 : Bool) (b2 : Int) (b3 : Int) (b4 : Int) (b5 : Int) (b6 : Int) (b7 : Int) (b8 : Int) (b9 : Bool) (b10 : Bool) (b11 : Int) (b12 : Int) (b13 : Int) (b14 : Int) (b15 : Int) (b16 : Int) (b18 : ByteArray) (A : Option Addr) (n c : Nat) (W : World) (hk : b0 = 3) :
    Calls Try.prog 14 #[.agg #[.int .i64 b0, .bool b1, .int .i64 b2, .int .i64 b3, .int .i64 b4, .int .i64 b5, .int .i64 b6, .int .i64 b7, .int .i64 b8, .bool b9, .bool b10, .int .i64 b11, .int .i64 b12, .int .i64 b13, .int .i64 b14, .int .i64 b15, .int .i64 b16, .slice A n c, .string b18]] W fun e W' => e = .returned (.agg #[.int .i64 b0, .bool b1, .int .i64 b2, .int .i64 0, .int .i64 0, .int .i64 0, .int .i64 0, .int .i64 0, .int .i64 0, .bool false, .bool false, .int .i64 0, .int .i64 0, .int .i64 0, .int .i64 0, .int .i64 0, .int .i64 0, .slice none 0 0, .string ⟨#[]⟩]) ∧ Below W.heap.size W W' := by
  have e0 : (b0 == 0) = false := by simp [hk]
  have e1 : (b0 == 1) = false := by simp [hk]
  have e2 : (b0 == 2) = false := by simp [hk]
  have e3 : (b0 == 3) = true := by simp [hk]
  clear hk
  obtain ⟨Wa, hWa⟩ : ∃ X, (W.alloc (.cells #[.int .i64 b0, .bool b1, .int .i64 b2, .int .i64 b3, .int .i64 b4, .int .i64 b5, .int .i64 b6, .int .i64 b7, .int .i64 b8, .bool b9, .bool b10, .int .i64 b11, .int .i64 b12, .int .i64 b13, .int .i64 b14, .int .i64 b15, .int .i64 b16, .slice A n c, .string b18] 30)).alloc (.cells #[.int .i64 0, .bool false, .int .i64 0, .int .i64 0, .int .i64 0, .int .i64 0, .int .i64 0, .int .i64 0, .int .i64 0, .bool false, .bool false, .int .i64 0, .int .i64 0, .int .i64 0, .int .i64 0, .int .i64 0, .int .i64 0, .slice none 0 0, .string ⟨#[]⟩] 30) = X := ⟨_, rfl⟩
  have hb := below_alloc (below_alloc (Below.refl W.heap.size W) (.cells #[.int .i64 b0, .bool b1, .int .i64 b2, .int .i64 b3, .int .i64 b4, .int .i64 b5, .int .i64 b6, .int .i64 b7, .int .i64 b8, .bool b9, .bool b10, .int .i64 b11, .int .i64 b12, .int .i64 b13, .int .i64 b14, .int .i64 b15, .int .i64 b16, .slice A n c, .string b18] 30)) (.cells #[.int .i64 0, .bool false, .int .i64 0, .int .i64 0, .int .i64 0, .int .i64 0, .int .i64 0, .int .i64 0, .int .i64 0, .bool false, .bool false, .int .i64 0, .int .i64 0, .int .i64 0, .int .i64 0, .int .i64 0, .int .i64 0, .slice none 0 0, .string ⟨#[]⟩] 30)
  have HYa := Lib.hid (show Wa.heap[W.heap.size + 1]? = some (.cells #[.int .i64 0, .bool false, .int .i64 0, .int .i64 0, .int .i64 0, .int .i64 0, .int .i64 0, .int .i64 0, .int .i64 0, .bool false, .bool false, .int .i64 0, .int .i64 0, .int .i64 0, .int .i64 0, .int .i64 0, .int .i64 0, .slice none 0 0, .string ⟨#[]⟩] 30 (0, 0)) from by rw [← hWa]; have h0 := heap_alloc_new (W.alloc (.cells #[.int .i64 b0, .bool b1, .int .i64 b2, .int .i64 b3, .int .i64 b4, .int .i64 b5, .int .i64 b6, .int .i64 b7, .int .i64 b8, .bool b9, .bool b10, .int .i64 b11, .int .i64 b12, .int .i64 b13, .int .i64 b14, .int .i64 b15, .int .i64 b16, .slice A n c, .string b18] 30)) (.cells #[.int .i64 0, .bool false, .int .i64 0, .int .i64 0, .int .i64 0, .int .i64 0, .int .i64 0, .int .i64 0, .int .i64 0, .bool false, .bool false, .int .i64 0, .int .i64 0, .int .i64 0, .int .i64 0, .int .i64 0, .int .i64 0, .slice none 0 0, .string ⟨#[]⟩] 30); rwa [World.size_alloc] at h0)
  have HXa := Lib.hid (show Wa.heap[W.heap.size]? = some (.cells #[.int .i64 b0, .bool b1, .int .i64 b2, .int .i64 b3, .int .i64 b4, .int .i64 b5, .int .i64 b6, .int .i64 b7, .int .i64 b8, .bool b9, .bool b10, .int .i64 b11, .int .i64 b12, .int .i64 b13, .int .i64 b14, .int .i64 b15, .int .i64 b16, .slice A n c, .string b18] 30 (0, 0)) from by rw [← hWa]; exact (Below.heap_alloc _ _ _ (by simp)).trans (heap_alloc_new W _))
  rw [hWa] at hb
  have HB := Lib.hid hb
  clear hb
  have y0 : Wa.cell? ⟨W.heap.size, 0, none⟩ = some (.int .i64 b0) := (blk_cell HXa.out 0).trans rfl
  have y1 : Wa.cell? ⟨W.heap.size, 1, none⟩ = some (.bool b1) := (blk_cell HXa.out 1).trans rfl
  have y2 : Wa.cell? ⟨W.heap.size, 2, none⟩ = some (.int .i64 b2) := (blk_cell HXa.out 2).trans rfl
  have hst : X.rowAt Wa (W.heap.size + 1) 30 19 = true := X.rowAt_of HYa.out rfl
  have HYz := Lib.hid (setRow_heap Wa (W.heap.size + 1) _ #[.int .i64 b0, .bool b1, .int .i64 b2, .int .i64 0, .int .i64 0, .int .i64 0, .int .i64 0, .int .i64 0, .int .i64 0, .bool false, .bool false, .int .i64 0, .int .i64 0, .int .i64 0, .int .i64 0, .int .i64 0, .int .i64 0, .slice none 0 0, .string ⟨#[]⟩] _ _ HYa.out)
  have HBz := Lib.hid (X.below_row (g := W.heap.size + 1) HB.out (by omega) #[.int .i64 b0, .bool b1, .int .i64 b2, .int .i64 0, .int .i64 0, .int .i64 0, .int .i64 0, .int .i64 0, .int .i64 0, .bool false, .bool false, .int .i64 0, .int .i64 0, .int .i64 0, .int .i64 0, .int .i64 0, .int .i64 0, .slice none 0 0, .string ⟨#[]⟩])
  go_enter Try.func14, Try.ntmps14
  go_upto_region 1 with (fail)
  try rw [hWa]
  clear hWa
  go_wp2_with fail
  refine bodyPost_ret (results_cell_row rfl _ _ (W.heap.size + 1) 30 #[.int .i64 b0, .bool b1, .int .i64 b2, .int .i64 0, .int .i64 0, .int .i64 0, .int .i64 0, .int .i64 0, .int .i64 0, .bool false, .bool false, .int .i64 0, .int .i64 0, .int .i64 0, .int .i64 0, .int .i64 0, .int .i64 0, .slice none 0 0, .string ⟨#[]⟩] (0, 0) _ rfl (by with_reducible exact HYz.out) Try.underlying30 rfl (by kernel_rfl)) rfl ?_
  exact ⟨rfl, HBz.out⟩
set_option maxHeartbeats 4000000 in
set_option maxRecDepth 100000 in
theorem plain_k4 (b0 : Int) (b1 : Bool) (b2 : Int) (b3 : Int) (b4 : Int) (b5 : Int) (b6 : Int) (b7 : Int) (b8 : Int) (b9 : Bool) (b10 : Bool) (b11 : Int) (b12 : Int) (b13 : Int) (b14 : Int) (b15 : Int) (b16 : Int) (b18 : ByteArray) (A : Option Addr) (n c : Nat) (W : World) (hk : b0 = 4) :
    Calls Try.prog 14 #[.agg #[.int .i64 b0, .bool b1, .int .i64 b2, .int .i64 b3, .int .i64 b4, .int .i64 b5, .int .i64 b6, .int .i64 b7, .int .i64 b8, .bool b9, .bool b10, .int .i64 b11, .int .i64 b12, .int .i64 b13, .int .i64 b14, .int .i64 b15, .int .i64 b16, .slice A n c, .string b18]] W fun e W' => e = .returned (.agg #[.int .i64 b0, .bool false, .int .i64 b2, .int .i64 b3, .int .i64 b4, .int .i64 0, .int .i64 0, .int .i64 0, .int .i64 0, .bool false, .bool false, .int .i64 0, .int .i64 0, .int .i64 0, .int .i64 0, .int .i64 0, .int .i64 0, .slice none 0 0, .string ⟨#[]⟩]) ∧ Below W.heap.size W W' := by
  have e0 : (b0 == 0) = false := by simp [hk]
  have e1 : (b0 == 1) = false := by simp [hk]
  have e2 : (b0 == 2) = false := by simp [hk]
  have e3 : (b0 == 3) = false := by simp [hk]
  have e4 : (b0 == 4) = true := by simp [hk]
  clear hk
  obtain ⟨Wa, hWa⟩ : ∃ X, (W.alloc (.cells #[.int .i64 b0, .bool b1, .int .i64 b2, .int .i64 b3, .int .i64 b4, .int .i64 b5, .int .i64 b6, .int .i64 b7, .int .i64 b8, .bool b9, .bool b10, .int .i64 b11, .int .i64 b12, .int .i64 b13, .int .i64 b14, .int .i64 b15, .int .i64 b16, .slice A n c, .string b18] 30)).alloc (.cells #[.int .i64 0, .bool false, .int .i64 0, .int .i64 0, .int .i64 0, .int .i64 0, .int .i64 0, .int .i64 0, .int .i64 0, .bool false, .bool false, .int .i64 0, .int .i64 0, .int .i64 0, .int .i64 0, .int .i64 0, .int .i64 0, .slice none 0 0, .string ⟨#[]⟩] 30) = X := ⟨_, rfl⟩
  have hb := below_alloc (below_alloc (Below.refl W.heap.size W) (.cells #[.int .i64 b0, .bool b1, .int .i64 b2, .int .i64 b3, .int .i64 b4, .int .i64 b5, .int .i64 b6, .int .i64 b7, .int .i64 b8, .bool b9, .bool b10, .int .i64 b11, .int .i64 b12, .int .i64 b13, .int .i64 b14, .int .i64 b15, .int .i64 b16, .slice A n c, .string b18] 30)) (.cells #[.int .i64 0, .bool false, .int .i64 0, .int .i64 0, .int .i64 0, .int .i64 0, .int .i64 0, .int .i64 0, .int .i64 0, .bool false, .bool false, .int .i64 0, .int .i64 0, .int .i64 0, .int .i64 0, .int .i64 0, .int .i64 0, .slice none 0 0, .string ⟨#[]⟩] 30)
  have HYa := Lib.hid (show Wa.heap[W.heap.size + 1]? = some (.cells #[.int .i64 0, .bool false, .int .i64 0, .int .i64 0, .int .i64 0, .int .i64 0, .int .i64 0, .int .i64 0, .int .i64 0, .bool false, .bool false, .int .i64 0, .int .i64 0, .int .i64 0, .int .i64 0, .int .i64 0, .int .i64 0, .slice none 0 0, .string ⟨#[]⟩] 30 (0, 0)) from by rw [← hWa]; have h0 := heap_alloc_new (W.alloc (.cells #[.int .i64 b0, .bool b1, .int .i64 b2, .int .i64 b3, .int .i64 b4, .int .i64 b5, .int .i64 b6, .int .i64 b7, .int .i64 b8, .bool b9, .bool b10, .int .i64 b11, .int .i64 b12, .int .i64 b13, .int .i64 b14, .int .i64 b15, .int .i64 b16, .slice A n c, .string b18] 30)) (.cells #[.int .i64 0, .bool false, .int .i64 0, .int .i64 0, .int .i64 0, .int .i64 0, .int .i64 0, .int .i64 0, .int .i64 0, .bool false, .bool false, .int .i64 0, .int .i64 0, .int .i64 0, .int .i64 0, .int .i64 0, .int .i64 0, .slice none 0 0, .string ⟨#[]⟩] 30); rwa [World.size_alloc] at h0)
  have HXa := Lib.hid (show Wa.heap[W.heap.size]? = some (.cells #[.int .i64 b0, .bool b1, .int .i64 b2, .int .i64 b3, .int .i64 b4, .int .i64 b5, .int .i64 b6, .int .i64 b7, .int .i64 b8, .bool b9, .bool b10, .int .i64 b11, .int .i64 b12, .int .i64 b13, .int .i64 b14, .int .i64 b15, .int .i64 b16, .slice A n c, .string b18] 30 (0, 0)) from by rw [← hWa]; exact (Below.heap_alloc _ _ _ (by simp)).trans (heap_alloc_new W _))
  rw [hWa] at hb
  have HB := Lib.hid hb
  clear hb
  have y0 : Wa.cell? ⟨W.heap.size, 0, none⟩ = some (.int .i64 b0) := (blk_cell HXa.out 0).trans rfl
  have y2 : Wa.cell? ⟨W.heap.size, 2, none⟩ = some (.int .i64 b2) := (blk_cell HXa.out 2).trans rfl
  have y3 : Wa.cell? ⟨W.heap.size, 3, none⟩ = some (.int .i64 b3) := (blk_cell HXa.out 3).trans rfl
  have y4 : Wa.cell? ⟨W.heap.size, 4, none⟩ = some (.int .i64 b4) := (blk_cell HXa.out 4).trans rfl
  have hst : X.rowAt Wa (W.heap.size + 1) 30 19 = true := X.rowAt_of HYa.out rfl
  have HYz := Lib.hid (setRow_heap Wa (W.heap.size + 1) _ #[.int .i64 b0, .bool false, .int .i64 b2, .int .i64 b3, .int .i64 b4, .int .i64 0, .int .i64 0, .int .i64 0, .int .i64 0, .bool false, .bool false, .int .i64 0, .int .i64 0, .int .i64 0, .int .i64 0, .int .i64 0, .int .i64 0, .slice none 0 0, .string ⟨#[]⟩] _ _ HYa.out)
  have HBz := Lib.hid (X.below_row (g := W.heap.size + 1) HB.out (by omega) #[.int .i64 b0, .bool false, .int .i64 b2, .int .i64 b3, .int .i64 b4, .int .i64 0, .int .i64 0, .int .i64 0, .int .i64 0, .bool false, .bool false, .int .i64 0, .int .i64 0, .int .i64 0, .int .i64 0, .int .i64 0, .int .i64 0, .slice none 0 0, .string ⟨#[]⟩])
  go_enter Try.func14, Try.ntmps14
  go_upto_region 1 with (fail)
  try rw [hWa]
  clear hWa
  go_wp2_with fail
  refine bodyPost_ret (results_cell_row rfl _ _ (W.heap.size + 1) 30 #[.int .i64 b0, .bool false, .int .i64 b2, .int .i64 b3, .int .i64 b4, .int .i64 0, .int .i64 0, .int .i64 0, .int .i64 0, .bool false, .bool false, .int .i64 0, .int .i64 0, .int .i64 0, .int .i64 0, .int .i64 0, .int .i64 0, .slice none 0 0, .string ⟨#[]⟩] (0, 0) _ rfl (by with_reducible exact HYz.out) Try.underlying30 rfl (by kernel_rfl)) rfl ?_
  exact ⟨rfl, HBz.out⟩
set_option maxHeartbeats 4000000 in
set_option maxRecDepth 100000 in
theorem plain_k5 (b0 : Int) (b1 : Bool) (b2 : Int) (b3 : Int) (b4 : Int) (b5 : Int) (b6 : Int) (b7 : Int) (b8 : Int) (b9 : Bool) (b10 : Bool) (b11 : Int) (b12 : Int) (b13 : Int) (b14 : Int) (b15 : Int) (b16 : Int) (b18 : ByteArray) (A : Option Addr) (n c : Nat) (W : World) (k0 : b0 ≠ 0) (k1 : b0 ≠ 1) (k2 : b0 ≠ 2) (k3 : b0 ≠ 3) (k4 : b0 ≠ 4) :
    Calls Try.prog 14 #[.agg #[.int .i64 b0, .bool b1, .int .i64 b2, .int .i64 b3, .int .i64 b4, .int .i64 b5, .int .i64 b6, .int .i64 b7, .int .i64 b8, .bool b9, .bool b10, .int .i64 b11, .int .i64 b12, .int .i64 b13, .int .i64 b14, .int .i64 b15, .int .i64 b16, .slice A n c, .string b18]] W fun e W' => e = .returned (.agg #[.int .i64 b0, .bool false, .int .i64 0, .int .i64 0, .int .i64 0, .int .i64 0, .int .i64 0, .int .i64 0, .int .i64 0, .bool false, .bool false, .int .i64 0, .int .i64 0, .int .i64 0, .int .i64 0, .int .i64 0, .int .i64 0, .slice none 0 0, .string b18]) ∧ Below W.heap.size W W' := by
  have e0 : (b0 == 0) = false := by simp [k0]
  have e1 : (b0 == 1) = false := by simp [k1]
  have e2 : (b0 == 2) = false := by simp [k2]
  have e3 : (b0 == 3) = false := by simp [k3]
  have e4 : (b0 == 4) = false := by simp [k4]
  clear k0 k1 k2 k3 k4
  obtain ⟨Wa, hWa⟩ : ∃ X, (W.alloc (.cells #[.int .i64 b0, .bool b1, .int .i64 b2, .int .i64 b3, .int .i64 b4, .int .i64 b5, .int .i64 b6, .int .i64 b7, .int .i64 b8, .bool b9, .bool b10, .int .i64 b11, .int .i64 b12, .int .i64 b13, .int .i64 b14, .int .i64 b15, .int .i64 b16, .slice A n c, .string b18] 30)).alloc (.cells #[.int .i64 0, .bool false, .int .i64 0, .int .i64 0, .int .i64 0, .int .i64 0, .int .i64 0, .int .i64 0, .int .i64 0, .bool false, .bool false, .int .i64 0, .int .i64 0, .int .i64 0, .int .i64 0, .int .i64 0, .int .i64 0, .slice none 0 0, .string ⟨#[]⟩] 30) = X := ⟨_, rfl⟩
  have hb := below_alloc (below_alloc (Below.refl W.heap.size W) (.cells #[.int .i64 b0, .bool b1, .int .i64 b2, .int .i64 b3, .int .i64 b4, .int .i64 b5, .int .i64 b6, .int .i64 b7, .int .i64 b8, .bool b9, .bool b10, .int .i64 b11, .int .i64 b12, .int .i64 b13, .int .i64 b14, .int .i64 b15, .int .i64 b16, .slice A n c, .string b18] 30)) (.cells #[.int .i64 0, .bool false, .int .i64 0, .int .i64 0, .int .i64 0, .int .i64 0, .int .i64 0, .int .i64 0, .int .i64 0, .bool false, .bool false, .int .i64 0, .int .i64 0, .int .i64 0, .int .i64 0, .int .i64 0, .int .i64 0, .slice none 0 0, .string ⟨#[]⟩] 30)
  have HYa := Lib.hid (show Wa.heap[W.heap.size + 1]? = some (.cells #[.int .i64 0, .bool false, .int .i64 0, .int .i64 0, .int .i64 0, .int .i64 0, .int .i64 0, .int .i64 0, .int .i64 0, .bool false, .bool false, .int .i64 0, .int .i64 0, .int .i64 0, .int .i64 0, .int .i64 0, .int .i64 0, .slice none 0 0, .string ⟨#[]⟩] 30 (0, 0)) from by rw [← hWa]; have h0 := heap_alloc_new (W.alloc (.cells #[.int .i64 b0, .bool b1, .int .i64 b2, .int .i64 b3, .int .i64 b4, .int .i64 b5, .int .i64 b6, .int .i64 b7, .int .i64 b8, .bool b9, .bool b10, .int .i64 b11, .int .i64 b12, .int .i64 b13, .int .i64 b14, .int .i64 b15, .int .i64 b16, .slice A n c, .string b18] 30)) (.cells #[.int .i64 0, .bool false, .int .i64 0, .int .i64 0, .int .i64 0, .int .i64 0, .int .i64 0, .int .i64 0, .int .i64 0, .bool false, .bool false, .int .i64 0, .int .i64 0, .int .i64 0, .int .i64 0, .int .i64 0, .int .i64 0, .slice none 0 0, .string ⟨#[]⟩] 30); rwa [World.size_alloc] at h0)
  have HXa := Lib.hid (show Wa.heap[W.heap.size]? = some (.cells #[.int .i64 b0, .bool b1, .int .i64 b2, .int .i64 b3, .int .i64 b4, .int .i64 b5, .int .i64 b6, .int .i64 b7, .int .i64 b8, .bool b9, .bool b10, .int .i64 b11, .int .i64 b12, .int .i64 b13, .int .i64 b14, .int .i64 b15, .int .i64 b16, .slice A n c, .string b18] 30 (0, 0)) from by rw [← hWa]; exact (Below.heap_alloc _ _ _ (by simp)).trans (heap_alloc_new W _))
  rw [hWa] at hb
  have HB := Lib.hid hb
  clear hb
  have y0 : Wa.cell? ⟨W.heap.size, 0, none⟩ = some (.int .i64 b0) := (blk_cell HXa.out 0).trans rfl
  have y18 : Wa.cell? ⟨W.heap.size, 18, none⟩ = some (.string b18) := (blk_cell HXa.out 18).trans rfl
  have hst : X.rowAt Wa (W.heap.size + 1) 30 19 = true := X.rowAt_of HYa.out rfl
  have HYz := Lib.hid (setRow_heap Wa (W.heap.size + 1) _ #[.int .i64 b0, .bool false, .int .i64 0, .int .i64 0, .int .i64 0, .int .i64 0, .int .i64 0, .int .i64 0, .int .i64 0, .bool false, .bool false, .int .i64 0, .int .i64 0, .int .i64 0, .int .i64 0, .int .i64 0, .int .i64 0, .slice none 0 0, .string b18] _ _ HYa.out)
  have HBz := Lib.hid (X.below_row (g := W.heap.size + 1) HB.out (by omega) #[.int .i64 b0, .bool false, .int .i64 0, .int .i64 0, .int .i64 0, .int .i64 0, .int .i64 0, .int .i64 0, .int .i64 0, .bool false, .bool false, .int .i64 0, .int .i64 0, .int .i64 0, .int .i64 0, .int .i64 0, .int .i64 0, .slice none 0 0, .string b18])
  go_enter Try.func14, Try.ntmps14
  go_upto_region 1 with (fail)
  try rw [hWa]
  clear hWa
  go_wp2_with fail
  refine bodyPost_ret (results_cell_row rfl _ _ (W.heap.size + 1) 30 #[.int .i64 b0, .bool false, .int .i64 0, .int .i64 0, .int .i64 0, .int .i64 0, .int .i64 0, .int .i64 0, .int .i64 0, .bool false, .bool false, .int .i64 0, .int .i64 0, .int .i64 0, .int .i64 0, .int .i64 0, .int .i64 0, .slice none 0 0, .string b18] (0, 0) _ rfl (by with_reducible exact HYz.out) Try.underlying30 rfl (by kernel_rfl)) rfl ?_
  exact ⟨rfl, HBz.out⟩
end
theorem plain_c (b0 : Int) (b1 : Bool) (b2 : Int) (b3 : Int) (b4 : Int) (b5 : Int) (b6 : Int) (b7 : Int) (b8 : Int) (b9 : Bool) (b10 : Bool) (b11 : Int) (b12 : Int) (b13 : Int) (b14 : Int) (b15 : Int) (b16 : Int) (b17 : List Int) (b18 : ByteArray) (A : Option Addr) (c : Nat) (r0 : Int) (r1 : Bool) (r2 : Int) (r3 : Int) (r4 : Int) (r5 : Int) (r6 : Int) (r7 : Int) (r8 : Int) (r9 : Bool) (r10 : Bool) (r11 : Int) (r12 : Int) (r13 : Int) (r14 : Int) (r15 : Int) (r16 : Int) (r17 : List Int) (r18 : ByteArray) (W : World) (hr : Kd.C (Kd.int .i64) W A b17.length b17) (hc : b17.length ≤ c) (h : plainF b0 b1 b2 b3 b4 b5 b6 b7 b8 b9 b10 b11 b12 b13 b14 b15 b16 b17 b18 = (r0, r1, r2, r3, r4, r5, r6, r7, r8, r9, r10, r11, r12, r13, r14, r15, r16, r17, r18)) :
    Calls Try.prog 14 #[.agg #[.int .i64 b0, .bool b1, .int .i64 b2, .int .i64 b3, .int .i64 b4, .int .i64 b5, .int .i64 b6, .int .i64 b7, .int .i64 b8, .bool b9, .bool b10, .int .i64 b11, .int .i64 b12, .int .i64 b13, .int .i64 b14, .int .i64 b15, .int .i64 b16, .slice A b17.length c, .string b18]] W fun e W' => ∃ A' c', e = .returned (.agg #[.int .i64 r0, .bool r1, .int .i64 r2, .int .i64 r3, .int .i64 r4, .int .i64 r5, .int .i64 r6, .int .i64 r7, .int .i64 r8, .bool r9, .bool r10, .int .i64 r11, .int .i64 r12, .int .i64 r13, .int .i64 r14, .int .i64 r15, .int .i64 r16, .slice A' r17.length c', .string r18]) ∧ Kd.C (Kd.int .i64) W' A' r17.length r17 ∧ r17.length ≤ c' ∧ Below W.heap.size W W' := by
  unfold plainF at h
  by_cases h0 : b0 = 0
  · rw [if_pos h0] at h
    obtain ⟨rfl, rfl, rfl, rfl, rfl, rfl, rfl, rfl, rfl, rfl, rfl, rfl, rfl, rfl, rfl, rfl, rfl, rfl, rfl⟩ : (b0 : Int) = r0 ∧ (false : Bool) = r1 ∧ (0 : Int) = r2 ∧ (0 : Int) = r3 ∧ (0 : Int) = r4 ∧ (0 : Int) = r5 ∧ (0 : Int) = r6 ∧ (b7 : Int) = r7 ∧ (b8 : Int) = r8 ∧ (b9 : Bool) = r9 ∧ (b10 : Bool) = r10 ∧ (b11 : Int) = r11 ∧ (b12 : Int) = r12 ∧ (b13 : Int) = r13 ∧ (b14 : Int) = r14 ∧ (b15 : Int) = r15 ∧ (b16 : Int) = r16 ∧ ([] : List Int) = r17 ∧ (⟨#[]⟩ : ByteArray) = r18 := by simpa using h
    refine (plain_k0 b0 b1 b2 b3 b4 b5 b6 b7 b8 b9 b10 b11 b12 b13 b14 b15 b16 b18 A b17.length c W h0).mono ?_
    rintro e W' ⟨rfl, hb⟩
    exact ⟨none, 0, rfl, Kd.C_nil _ _, Nat.le_refl _, hb⟩
  rw [if_neg h0] at h
  by_cases h1 : b0 = 1
  · rw [if_pos h1] at h
    obtain ⟨rfl, rfl, rfl, rfl, rfl, rfl, rfl, rfl, rfl, rfl, rfl, rfl, rfl, rfl, rfl, rfl, rfl, rfl, rfl⟩ : (b0 : Int) = r0 ∧ (false : Bool) = r1 ∧ (0 : Int) = r2 ∧ (0 : Int) = r3 ∧ (0 : Int) = r4 ∧ (0 : Int) = r5 ∧ (0 : Int) = r6 ∧ (0 : Int) = r7 ∧ (0 : Int) = r8 ∧ (false : Bool) = r9 ∧ (false : Bool) = r10 ∧ (0 : Int) = r11 ∧ (0 : Int) = r12 ∧ (0 : Int) = r13 ∧ (0 : Int) = r14 ∧ (0 : Int) = r15 ∧ (0 : Int) = r16 ∧ (b17 : List Int) = r17 ∧ (⟨#[]⟩ : ByteArray) = r18 := by simpa using h
    refine (plain_k1 b0 b1 b2 b3 b4 b5 b6 b7 b8 b9 b10 b11 b12 b13 b14 b15 b16 b18 A b17.length c W h1).mono ?_
    rintro e W' ⟨rfl, hb⟩
    exact ⟨A, c, rfl, Kd.C_below hr hb, hc, hb⟩
  rw [if_neg h1] at h
  by_cases h2 : b0 = 2
  · rw [if_pos h2] at h
    obtain ⟨rfl, rfl, rfl, rfl, rfl, rfl, rfl, rfl, rfl, rfl, rfl, rfl, rfl, rfl, rfl, rfl, rfl, rfl, rfl⟩ : (b0 : Int) = r0 ∧ (b1 : Bool) = r1 ∧ (0 : Int) = r2 ∧ (b3 : Int) = r3 ∧ (b4 : Int) = r4 ∧ (b5 : Int) = r5 ∧ (b6 : Int) = r6 ∧ (0 : Int) = r7 ∧ (0 : Int) = r8 ∧ (false : Bool) = r9 ∧ (false : Bool) = r10 ∧ (0 : Int) = r11 ∧ (0 : Int) = r12 ∧ (0 : Int) = r13 ∧ (0 : Int) = r14 ∧ (0 : Int) = r15 ∧ (0 : Int) = r16 ∧ ([] : List Int) = r17 ∧ (⟨#[]⟩ : ByteArray) = r18 := by simpa using h
    refine (plain_k2 b0 b1 b2 b3 b4 b5 b6 b7 b8 b9 b10 b11 b12 b13 b14 b15 b16 b18 A b17.length c W h2).mono ?_
    rintro e W' ⟨rfl, hb⟩
    exact ⟨none, 0, rfl, Kd.C_nil _ _, Nat.le_refl _, hb⟩
  rw [if_neg h2] at h
  by_cases h3 : b0 = 3
  · rw [if_pos h3] at h
    obtain ⟨rfl, rfl, rfl, rfl, rfl, rfl, rfl, rfl, rfl, rfl, rfl, rfl, rfl, rfl, rfl, rfl, rfl, rfl, rfl⟩ : (b0 : Int) = r0 ∧ (b1 : Bool) = r1 ∧ (b2 : Int) = r2 ∧ (0 : Int) = r3 ∧ (0 : Int) = r4 ∧ (0 : Int) = r5 ∧ (0 : Int) = r6 ∧ (0 : Int) = r7 ∧ (0 : Int) = r8 ∧ (false : Bool) = r9 ∧ (false : Bool) = r10 ∧ (0 : Int) = r11 ∧ (0 : Int) = r12 ∧ (0 : Int) = r13 ∧ (0 : Int) = r14 ∧ (0 : Int) = r15 ∧ (0 : Int) = r16 ∧ ([] : List Int) = r17 ∧ (⟨#[]⟩ : ByteArray) = r18 := by simpa using h
    refine (plain_k3 b0 b1 b2 b3 b4 b5 b6 b7 b8 b9 b10 b11 b12 b13 b14 b15 b16 b18 A b17.length c W h3).mono ?_
    rintro e W' ⟨rfl, hb⟩
    exact ⟨none, 0, rfl, Kd.C_nil _ _, Nat.le_refl _, hb⟩
  rw [if_neg h3] at h
  by_cases h4 : b0 = 4
  · rw [if_pos h4] at h
    obtain ⟨rfl, rfl, rfl, rfl, rfl, rfl, rfl, rfl, rfl, rfl, rfl, rfl, rfl, rfl, rfl, rfl, rfl, rfl, rfl⟩ : (b0 : Int) = r0 ∧ (false : Bool) = r1 ∧ (b2 : Int) = r2 ∧ (b3 : Int) = r3 ∧ (b4 : Int) = r4 ∧ (0 : Int) = r5 ∧ (0 : Int) = r6 ∧ (0 : Int) = r7 ∧ (0 : Int) = r8 ∧ (false : Bool) = r9 ∧ (false : Bool) = r10 ∧ (0 : Int) = r11 ∧ (0 : Int) = r12 ∧ (0 : Int) = r13 ∧ (0 : Int) = r14 ∧ (0 : Int) = r15 ∧ (0 : Int) = r16 ∧ ([] : List Int) = r17 ∧ (⟨#[]⟩ : ByteArray) = r18 := by simpa using h
    refine (plain_k4 b0 b1 b2 b3 b4 b5 b6 b7 b8 b9 b10 b11 b12 b13 b14 b15 b16 b18 A b17.length c W h4).mono ?_
    rintro e W' ⟨rfl, hb⟩
    exact ⟨none, 0, rfl, Kd.C_nil _ _, Nat.le_refl _, hb⟩
  rw [if_neg h4] at h
  obtain ⟨rfl, rfl, rfl, rfl, rfl, rfl, rfl, rfl, rfl, rfl, rfl, rfl, rfl, rfl, rfl, rfl, rfl, rfl, rfl⟩ : (b0 : Int) = r0 ∧ (false : Bool) = r1 ∧ (0 : Int) = r2 ∧ (0 : Int) = r3 ∧ (0 : Int) = r4 ∧ (0 : Int) = r5 ∧ (0 : Int) = r6 ∧ (0 : Int) = r7 ∧ (0 : Int) = r8 ∧ (false : Bool) = r9 ∧ (false : Bool) = r10 ∧ (0 : Int) = r11 ∧ (0 : Int) = r12 ∧ (0 : Int) = r13 ∧ (0 : Int) = r14 ∧ (0 : Int) = r15 ∧ (0 : Int) = r16 ∧ ([] : List Int) = r17 ∧ (b18 : ByteArray) = r18 := by simpa using h
  refine (plain_k5 b0 b1 b2 b3 b4 b5 b6 b7 b8 b9 b10 b11 b12 b13 b14 b15 b16 b18 A b17.length c W h0 h1 h2 h3 h4).mono ?_
  rintro e W' ⟨rfl, hb⟩
  exact ⟨none, 0, rfl, Kd.C_nil _ _, Nat.le_refl _, hb⟩
end Go.Proofs.Ytclikkhkhoicfaa.H

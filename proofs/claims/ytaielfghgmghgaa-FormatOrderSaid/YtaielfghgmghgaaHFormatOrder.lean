/- FormatOrder: big or not: the same bytes, the other way round; and the same colours. No condition. -/
-- OPEN 0 Go.Proofs.Ytaielfghgmghgaa.RC.open_format fa fb fc fd fe ff fg fh fi fj : ga gb ge gf gg gh gi gj
import Derived.Test.YtaielfghgmghgaaFM8
import Derived.Test.YtaielfghgmghgaaOA
import Derived.Test.YtaielfghgmghgaaRF
import Derived.Test.YtaielfghgmghgaaXx14
import Derived.Test.YtaielfghgmghgaaXx13
namespace Go.Proofs.Ytaielfghgmghgaa.H
open Go.RowKit Go.Proofs.YtaielfghgmghgaaW.PrintWords Go.Proofs.YtaielfghgmghgaaW.PrintLast Go.Proofs.YtaielfghgmghgaaW.PrintMore Go.Proofs.Ytaielfghgmghgaa.B Go.Proofs.Ytaielfghgmghgaa.O Go.Proofs.Ytaielfghgmghgaa.F
set_option linter.unusedVariables false
set_option linter.unusedSimpArgs false
/-- The bytes of the one are those of the other, turned. -/
theorem turned_other (l : List Int) (h : ∀ x ∈ l, 0 ≤ x ∧ x < 256) (hl : l.length ≤ 4) (bg : Bool) : X.miradorref01_Turned.f 200 (strOfNums (if (!bg) = true then l.reverse else l)) = some (strOfNums (if bg = true then l.reverse else l)) := by
  cases bg with
  | true =>
    have h2 : (strOfNums l).size ≤ 4 := by rw [strOfNums_size]; omega
    rw [show (strOfNums (if (!true) = true then l.reverse else l)) = strOfNums l from rfl, rTurned_f _ (by omega) (by omega), bytes_str h]
    rfl
  | false =>
    have h2 : (strOfNums l.reverse).size ≤ 4 := by rw [strOfNums_size, List.length_reverse]; omega
    rw [show (strOfNums (if (!false) = true then l.reverse else l)) = strOfNums l.reverse from rfl, rTurned_f _ (by omega) (by omega), bytes_str (fun x hx => h x (List.mem_reverse.mp hx)), List.reverse_reverse]
    rfl
theorem FormatOrder_pure (n d : Int) (bg tr : Bool) (m1 m2 m3 s1 s2 s3 : Int) (c : Int) :
    X.miradorlaw13_FormatOrder.f 200 n d bg tr m1 m2 m3 s1 s2 s3 c = some true := by
  obtain ⟨b, v1, v2, v3⟩ := valid_f 200 (by omega) n d bg tr m1 m2 m3 s1 s2 s3
  unfold X.miradorlaw13_FormatOrder.f
  refine bind_eq X.miradorlaw13_works.at0 ?_
  rw [if_pos rfl]
  refine bind_eq v1 ?_
  cases b with
  | false => rw [if_neg (by decide)]
  | true =>
    have hv := v3.1 rfl
    have v1' : X.format_Valid.f n d (!bg) tr m1 m2 m3 s1 s2 s3 = some true := v1
    obtain ⟨z, z4, hz8, e1⟩ := put_all hv bg v1 200 (by omega) c
    obtain ⟨z', z4', hz8', e2⟩ := put_all hv (!bg) v1' 200 (by omega) c
    obtain rfl : z' = z := by omega
    obtain ⟨y, q, y4, y1, hc, hcc⟩ := compact_f hv bg v1
    have q8 : q ≤ 8 := by omega
    have hc' : X.format_Compact.f n d (!bg) tr m1 m2 m3 s1 s2 s3 = some ((y : Int), (q : Int)) := hc
    have e3 := cput_all hv bg v1 200 (by omega) c y q y4 q8 hc
    have e4 := cput_all hv (!bg) v1' 200 (by omega) c y q y4 q8 hc'
    have t1 := turned_other (leB c z') (leB_range c z') (by rw [leB_length]; omega) bg
    have t2 := turned_other (leB (cutI n c q) y) (leB_range _ y) (by rw [leB_length]; omega) bg
    rw [if_pos rfl]
    refine bind_eq e1 ?_
    refine bind_eq e2 ?_
    refine bind_eq e3 ?_
    refine bind_eq e4 ?_
    refine bind_eq t1 ?_
    rw [if_pos rfl]
    refine bind_eq t2 ?_
    rw [if_pos rfl]
    refine bind_eq (value_f hv bg c v1) ?_
    refine bind_eq (value_f hv (!bg) c v1') ?_
    rw [if_pos rfl]
    refine bind_eq (colour_f hv bg c v1) ?_
    refine bind_eq (colour_f hv (!bg) c v1') ?_
    rw [if_pos rfl]
    exact bind_eq v1' rfl
theorem FormatOrder_walk (n d : Int) (bg tr : Bool) (m1 m2 m3 s1 s2 s3 : Int) (c : Int) (W : World) (h0 : (Lit.int .i64 n).wf = true) (h1 : (Lit.int .i64 d).wf = true) (h4 : (Lit.int .i64 m1).wf = true) (h5 : (Lit.int .i64 m2).wf = true) (h6 : (Lit.int .i64 m3).wf = true) (h7 : (Lit.int .i64 s1).wf = true) (h8 : (Lit.int .i64 s2).wf = true) (h9 : (Lit.int .i64 s3).wf = true) (hc : (Lit.int .i64 c).wf = true) :
    Calls Try.prog 6 #[.agg #[.int .i64 n, .int .i64 d, .bool bg, .bool tr, .int .i64 m1, .int .i64 m2, .int .i64 m3, .int .i64 s1, .int .i64 s2, .int .i64 s3], .int .i64 c] W fun e W' => e = .returned (.bool true) ∧ Below W.heap.size W W' :=
  X.miradorlaw13_FormatOrder.calls1 200 n d bg tr m1 m2 m3 s1 s2 s3 c true W rfl (FormatOrder_pure n d bg tr m1 m2 m3 s1 s2 s3 c)
end Go.Proofs.Ytaielfghgmghgaa.H

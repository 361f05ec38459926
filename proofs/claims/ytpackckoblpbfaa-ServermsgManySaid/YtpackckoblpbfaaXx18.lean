/- What each Go function that these laws use answers: as a Lean function, with the proof that the machine's call comes to it. Written by a program of this session (xprint.py). -/
import Derived.Test.YtpackckoblpbfaaXx0
import Derived.Test.YtpackckoblpbfaaXx14
import Derived.Test.YtpackckoblpbfaaXx16
import Derived.Test.YtpackckoblpbfaaXx17
namespace Go.Proofs.Ytpackckoblpbfaa.X
open Go.RowKit Go.Proofs.YtpackckoblpbfaaW.PrintWords Go.Proofs.YtpackckoblpbfaaW.PrintLast Go.Proofs.YtpackckoblpbfaaW.PrintMore
attribute [local go_sem] max2_int min2_int max_two min_two max_three min_three max_four min_four   -- for this text's walks alone
set_option linter.unusedVariables false
set_option linter.unusedSimpArgs false

/-! ### servermsg_reader_text: function 53 -/
def textS (q : RS) : Option (ByteArray × RS) := (intS q 4).bind fun p => if (failS p.2 (decide (4096 < p.1)) 4).re = 0 then bytesS (failS p.2 (decide (4096 < p.1)) 4) p.1 else some (⟨#[]⟩, failS p.2 (decide (4096 < p.1)) 4)
set_option maxHeartbeats 2000000 in
set_option maxRecDepth 100000 in
theorem text_r (w0 : World) (rb cb : Nat) (q : RS) (r : ByteArray) (q' : RS) (W : World) (h : Rd w0 rb cb q W) (hf : textS q = some (r, q')) :
  Calls Try.prog 53 #[.pointer (some ⟨rb, 0, none⟩)] W fun en W' => en = .returned (.string r) ∧ Rd w0 rb cb q' W' ∧ KeptR rb cb W W' := by
 unfold textS at hf
 obtain ⟨⟨n, q1⟩, e1, hf⟩ := Option.bind_eq_some_iff.1 hf
 obtain ⟨q2, hq2⟩ : ∃ q2, failS q1 (decide (4096 < n)) 4 = q2 := ⟨_, rfl⟩
 simp only [] at hf
 rw [hq2] at hf
 have E1 := Lib.hid e1
 have Q2 := Lib.hid hq2
 have y0 := h.c0
 have y1 := h.c1
 have HR := Lib.hid h
 have HF := Lib.hid hf
 clear h hf e1 hq2
 go_enter Try.func53, Try.ntmps53
 go_wp2_with fail
 refine (int_r w0 rb cb q 4 n q1 W HR.out E1.out).mono ?_
 rintro en W1 ⟨rfl, h1, hk⟩
 have z0 := h1.c0
 have z1 := h1.c1
 have HR1 := Lib.hid h1
 have HK1 := Lib.hid hk
 clear y0 y1 h1 hk
 go_wp2_with fail
 refine (fail_r w0 rb cb q1 (decide (4096 < n)) 4 W1 HR1.out).mono ?_
 rintro en W2 ⟨rfl, h1, hk⟩
 rw [Q2.out] at h1
 have y0 := h1.c0
 have y1 := h1.c1
 have HR2 := Lib.hid h1
 have HK2 := Lib.hid (HK1.out.trans hk)
 clear z0 z1 h1 hk
 have hf := HF.out
 by_cases hr : q2.re = 0
 ·rw [if_pos hr] at hf
  have hrb : (q2.re != 0) = false := by simpa using hr
  have E3 := Lib.hid hf
  clear hf hr
  go_wp2_with fail
  refine (bytes_r w0 rb cb q2 n r q' W2 HR2.out E3.out).mono ?_
  rintro en W3 ⟨rfl, h1, hk⟩
  have HR3 := Lib.hid h1
  have HK3 := Lib.hid (HK2.out.trans hk)
  clear h1 hk y0 y1
  go_wp2_with fail
  go_ret
  exact ⟨rfl, HR3.out, HK3.out⟩
 ·rw [if_neg hr] at hf
  have hrb : (q2.re != 0) = true := by simpa using hr
  obtain ⟨rfl, rfl⟩ := Prod.mk.inj (Option.some.inj hf)
  clear hf hr
  go_wp2_with fail
  go_ret
  exact ⟨rfl, HR2.out, HK2.out⟩

-- NOT PRINTED: function 60 (servermsg_read_string)

/-! ### servermsg_ResultOf: function 23 -/
def resultS (q : RS) : Option (ByteArray × RS) := (intS q 4).bind fun p => if p.1 = 0 then some (⟨#[]⟩, p.2) else (textS p.2).bind fun t => if t.1.size = 0 then some (⟨#[63]⟩, t.2) else some t
theorem servermsg_ResultOf_nil (s : ByteArray) : s.toList = ([] : List UInt8) ↔ s.size = 0 := by
 constructor
 ·intro h
  have := congrArg List.length h
  rw [ByteArray.toList_eq, Array.length_toList] at this
  exact this
 ·intro h
  rw [ByteArray.toList_eq]
  exact List.eq_nil_of_length_eq_zero (by rw [Array.length_toList]; exact h)
set_option maxHeartbeats 2000000 in
set_option maxRecDepth 100000 in
theorem result_r (w0 : World) (rb cb : Nat) (q : RS) (r : ByteArray) (q' : RS) (W : World) (h : Rd w0 rb cb q W) (hf : resultS q = some (r, q')) :
  Calls Try.prog 61 #[.pointer (some ⟨rb, 0, none⟩)] W fun en W' => en = .returned (.string r) ∧ Rd w0 rb cb q' W' ∧ KeptR rb cb W W' := by
 unfold resultS at hf
 obtain ⟨⟨n, q1⟩, e1, hf⟩ := Option.bind_eq_some_iff.1 hf
 have E1 := Lib.hid e1
 have y0 := h.c0
 have y1 := h.c1
 have HR := Lib.hid h
 have HF := Lib.hid hf
 clear h hf e1
 go_enter Try.func61, Try.ntmps61
 go_wp2_with fail
 refine (int_r w0 rb cb q 4 n q1 W HR.out E1.out).mono ?_
 rintro en W1 ⟨rfl, h1, hk⟩
 have HR1 := Lib.hid h1
 have HK1 := Lib.hid hk
 clear y0 y1 h1 hk
 have hf : (if n = 0 then _ else _) = _ := HF.out
 by_cases hn : n = 0
 ·rw [if_pos hn] at hf
  subst hn
  obtain ⟨rfl, rfl⟩ := Prod.mk.inj (Option.some.inj hf)
  clear hf
  go_wp2_with fail
  go_ret
  exact ⟨rfl, HR1.out, HK1.out⟩
 ·rw [if_neg hn] at hf
  obtain ⟨⟨t, q2⟩, e2, hf⟩ := Option.bind_eq_some_iff.1 hf
  have hnb : (n == 0) = false := by simpa using hn
  have E2 := Lib.hid e2
  clear e2 hn
  go_wp2_with fail
  refine (text_r w0 rb cb q1 t q2 W1 HR1.out E2.out).mono ?_
  rintro en W2 ⟨rfl, h1, hk⟩
  have HR2 := Lib.hid h1
  have HK2 := Lib.hid (HK1.out.trans hk)
  clear h1 hk
  have hf : (if t.size = 0 then _ else _) = _ := hf
  by_cases ht : t.size = 0
  ·rw [if_pos ht] at hf
   obtain ⟨rfl, rfl⟩ := Prod.mk.inj (Option.some.inj hf)
   have hl : t.toList = ([] : List UInt8) := (servermsg_ResultOf_nil t).2 ht
   clear hf ht
   go_wp2_with fail
   go_ret
   exact ⟨rfl, HR2.out, HK2.out⟩
  ·rw [if_neg ht] at hf
   obtain ⟨rfl, rfl⟩ := Prod.mk.inj (Option.some.inj hf)
   have hl : t.toList.isEmpty = false := by cases hh : t.toList with | nil => exact absurd ((servermsg_ResultOf_nil t).1 hh) ht | cons x l => rfl
   have hl2 : (!t.toList.isEmpty) = true := by rw [hl]; rfl
   clear hf ht
   go_wp2_with fail
   go_ret
   exact ⟨rfl, HR2.out, HK2.out⟩
theorem rd_new {w w1 : World} {g : Nat} {s : ByteArray} (h : IsS142 w w1 g s 0 0) (hb : Below w.heap.size w w1) : Rd w w1.heap.size g ⟨s, 0, 0, 0⟩ (w1.alloc (.cells #[.pointer (some ⟨g, 0, none⟩), .int .i64 0] 101)) :=
 ⟨heap_alloc_new w1 _, hb.size, (fun e => by have := blk_lt h.1; omega), h.alloc _, below_alloc hb _⟩
set_option maxHeartbeats 2000000 in
set_option maxRecDepth 100000 in
theorem servermsg_ResultOf_read (s : ByteArray) (r : ByteArray) (q : RS) (r1 : ByteArray) (r2 r3 : Int) (w : World) (hf : resultS ⟨s, 0, 0, 0⟩ = some (r, q)) (hv : (if q.re = 0 ∧ q.ce = 0 then some (r, q.at_, (0 : Int)) else some (⟨#[]⟩, 0, if q.re = 0 then q.ce else q.re)) = some (r1, r2, r3)) :
  Calls Try.prog 60 #[.string s, .func (.func 61) #[] #[]] w fun e w' => e = .returned (.tuple #[.string r1, .int .i64 r2, .int .i64 r3]) ∧ Below w.heap.size w w' := by
 have HF := Lib.hid hf
 have HV := Lib.hid hv
 clear hf hv
 go_enter Try.func60, Try.ntmps60
 go_wp2_with fail
 refine (octets_New.calls s s 0 0 w w (Below.refl _ _) rfl).mono ?_
 rintro en w1 ⟨g, rfl, hi, hb, _⟩
 have HR := Lib.hid (rd_new hi hb)
 clear hi hb
 go_wp2_with fail
 refine (result_r w w1.heap.size g ⟨s, 0, 0, 0⟩ r q _ HR.out HF.out).mono ?_
 rintro en W2 ⟨rfl, h1, hk⟩
 have y0 := h1.c0
 have y1 := h1.c1
 have HR2 := Lib.hid h1
 have hv := HV.out
 clear h1 hk
 by_cases hr : q.re = 0
 ·by_cases hc : q.ce = 0
  ·rw [if_pos ⟨hr, hc⟩] at hv
   obtain ⟨rfl, rfl, rfl⟩ : r = r1 ∧ q.at_ = r2 ∧ (0 : Int) = r3 := by simpa using hv
   have hrb : (q.re == 0) = true := by simpa using hr
   have hcb : (q.ce != 0) = false := by simpa using hc
   clear hr hc hv HV
   go_wp2_with fail
   refine (err_r w w1.heap.size g q W2 HR2.out).mono ?_
   rintro en W3 ⟨rfl, h1, hk⟩
   have z0 := h1.c0
   have z1 := h1.c1
   have HR3 := Lib.hid h1
   clear h1 hk y0 y1
   go_wp2_with fail
   refine (at_r w w1.heap.size g q W3 HR3.out).mono ?_
   rintro en W4 ⟨rfl, h1, hk⟩
   have HR4 := Lib.hid h1
   clear h1 hk z0 z1
   go_wp2_with fail
   go_ret3
   exact ⟨rfl, HR4.out.low⟩
  ·rw [if_neg (fun h => hc h.2), if_pos hr] at hv
   obtain ⟨rfl, rfl, rfl⟩ : (⟨#[]⟩ : ByteArray) = r1 ∧ (0 : Int) = r2 ∧ q.ce = r3 := by simpa using hv
   have hrb : (q.re == 0) = true := by simpa using hr
   have hcb : (q.ce != 0) = true := by simpa using hc
   clear hr hc hv HV
   go_wp2_with fail
   refine (err_r w w1.heap.size g q W2 HR2.out).mono ?_
   rintro en W3 ⟨rfl, h1, hk⟩
   have HR3 := Lib.hid h1
   clear h1 hk y0 y1
   go_wp2_with fail
   go_ret3
   exact ⟨rfl, HR3.out.low⟩
 ·rw [if_neg (fun h => hr h.1), if_neg hr] at hv
  obtain ⟨rfl, rfl, rfl⟩ : (⟨#[]⟩ : ByteArray) = r1 ∧ (0 : Int) = r2 ∧ q.re = r3 := by simpa using hv
  have hrb : (q.re == 0) = false := by simpa using hr
  have hrb2 : (q.re != 0) = true := by simpa using hr
  clear hr hv HV
  go_wp2_with fail
  go_ret3
  exact ⟨rfl, HR2.out.low⟩
def servermsg_ResultOf.f (a0 : ByteArray) : Option (ByteArray × Int × Int) := (resultS ⟨a0, 0, 0, 0⟩).bind fun p => if p.2.re = 0 ∧ p.2.ce = 0 then some (p.1, p.2.at_, 0) else some (⟨#[]⟩, 0, if p.2.re = 0 then p.2.ce else p.2.re)
set_option maxHeartbeats 2000000 in
set_option maxRecDepth 100000 in
theorem servermsg_ResultOf.calls (a0 : ByteArray) (r1 : ByteArray) (r2 : Int) (r3 : Int) (w : World) (h : servermsg_ResultOf.f a0 = some (r1, r2, r3)) :
  Calls Try.prog 23 #[.string a0] w fun e w' => e = .returned (.tuple #[.string r1, .int .i64 r2, .int .i64 r3]) ∧ Below w.heap.size w w' := by
 unfold servermsg_ResultOf.f at h
 obtain ⟨⟨r, q⟩, e1, h⟩ := Option.bind_eq_some_iff.1 h
 have H := Lib.hid e1
 have HV := Lib.hid (show (if q.re = 0 ∧ q.ce = 0 then some (r, q.at_, (0 : Int)) else some (⟨#[]⟩, 0, if q.re = 0 then q.ce else q.re)) = some (r1, r2, r3) from h)
 clear h e1
 go_enter Try.func23, Try.ntmps23
 go_wp2_with fail
 refine (servermsg_ResultOf_read a0 r q r1 r2 r3 w H.out HV.out).mono ?_
 rintro en W1 ⟨rfl, hb⟩
 have HB := Lib.hid hb
 clear hb
 go_wp2_with fail
 go_ret3
 exact ⟨rfl, HB.out⟩

-- NOT PRINTED: function 62 (servermsg_Start)

end Go.Proofs.Ytpackckoblpbfaa.X

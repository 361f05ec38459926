/- ClientmsgMany: messages one behind the other are read one behind the other. No condition. -/
-- OPEN 0 Go.Proofs.Ytclikkhkhoicfaa.RC.open_msgs fa fb fc fz : ga gb gc ge gf
import Derived.Test.YtclikkhkhoicfaaCP
import Derived.Test.YtclikkhkhoicfaaMM2C
import Derived.Deep.DeepCutAuto
import Derived.Deep.RegionHeld3
namespace Go.Proofs.Ytclikkhkhoicfaa.H
open Go.RowKit Go.Proofs.YtclikkhkhoicfaaW.PrintWords Go.Proofs.YtclikkhkhoicfaaW.PrintLast Go.Proofs.YtclikkhkhoicfaaW.PrintMore Go.Proofs.Ytclikkhkhoicfaa.B Go.Proofs.Ytclikkhkhoicfaa.O Go.Proofs.Ytclikkhkhoicfaa.F Go.Proofs.Ytclikkhkhoicfaa.RC
set_option linter.unusedVariables false
set_option linter.unusedSimpArgs false
/-- What a client says of a message. -/
def saidF (m : MsgR) : Option (ByteArray × Int) := X.clientmsg_Bytes.f m.k m.fl m.n m.r0 m.r1 m.r2 m.r3 m.f0 m.f1 m.b0 m.b1 m.f2 m.f3 m.f4 m.f5 m.f6 m.f7 m.xs m.x
def said (m : MsgR) : ByteArray := match saidF m with | some p => p.1 | none => ⟨#[]⟩
/-- It may be said. -/
def OkM (m : MsgR) : Prop := m.xs.length ≤ 300 ∧ m.x.size ≤ 5000 ∧ saidF m = some (said m, 0)
theorem said_of {m : MsgR} {p : ByteArray × Int} (h : saidF m = some p) : said m = p.1 := by unfold said; rw [h]
/-- What was said by the first k, and what is left behind the first k. -/
def cat (l : List MsgR) : List Int := l.flatMap fun m => bytesOf (said m)
def Said (zs : List MsgR) (k : Nat) (s : ByteArray) : Prop := (∀ m ∈ zs.take k, OkM m) ∧ bytesOf s = cat (zs.take k) ∧ s.size ≤ 10000 * k
theorem Said.zero (zs : List MsgR) : Said zs 0 ⟨#[]⟩ := ⟨(fun m h => by simp at h), by simp [cat, bytes_empty], Nat.zero_le _⟩
/-- What is left behind the first k. -/
def Left (zs : List MsgR) (k : Nat) (s : ByteArray) : Prop := (∀ m ∈ zs, OkM m) ∧ bytesOf s = cat (zs.drop k) ∧ s.size ≤ 200000
theorem Said.left {zs : List MsgR} {s : ByteArray} (h : Said zs zs.length s) (hl : zs.length ≤ 20) : Left zs 0 s := by
  obtain ⟨h1, h2, h3⟩ := h
  rw [List.take_length] at h1 h2
  exact ⟨h1, by rw [List.drop_zero]; exact h2, by have : 10000 * zs.length ≤ 10000 * 20 := Nat.mul_le_mul_left _ hl; omega⟩
theorem Left.split {zs : List MsgR} {k : Nat} {s : ByteArray} (h : Left zs k s) (hk : k < zs.length) : ∃ t : ByteArray, s = said (zs.getD k default) ++ t ∧ bytesOf t = cat (zs.drop (k + 1)) ∧ t.size ≤ 200000 ∧ OkM (zs.getD k default) := by
  obtain ⟨h1, h2, h3⟩ := h
  have e : zs.drop k = zs.getD k default :: zs.drop (k + 1) := by rw [List.drop_eq_getElem_cons hk]; simp [List.getD, hk]
  rw [e] at h2
  have hc : cat (zs.getD k default :: zs.drop (k + 1)) = bytesOf (said (zs.getD k default)) ++ cat (zs.drop (k + 1)) := by simp [cat]
  rw [hc] at h2
  have hr : ∀ x ∈ cat (zs.drop (k + 1)), 0 ≤ x ∧ x < 256 := fun x hx => bytes_range s x (by rw [h2]; simp [hx])
  refine ⟨strOfNums (cat (zs.drop (k + 1))), ba_bytesOf.1 ?_, bytes_str hr, ?_, h1 _ ?_⟩
  · rw [bytes_append, bytes_str hr, h2]
  · have := congrArg List.length h2
    rw [bytesOf_length, List.length_append] at this
    rw [strOfNums_size]; omega
  · rw [List.getD_eq_getElem?_getD, List.getElem?_eq_getElem hk]; exact List.getElem_mem hk
theorem many_left {zs : List MsgR} {k : Nat} {s t : ByteArray} {m : MsgR} {a : Int} (h : Left zs k s) (hk : k < zs.length) (hm : zs.getD k default = m) (ht : s = said m ++ t) (ht2 : bytesOf t = cat (zs.drop (k + 1))) (ha : ((said m).size : Int) = a) : Left zs (k + 1) (s.extract a.toNat s.size) := by
  have e : s.extract a.toNat s.size = t := by
    rw [← ha, Int.toNat_natCast, ht, ba_extract_append_right _ _ _ _ (Nat.le_refl _), Nat.sub_self, ba_size_append]
    exact ba_extract_all t _ (by omega)
  rw [e]
  exact ⟨h.1, ht2, by have := h.2.2; rw [ht, ba_size_append] at this; omega⟩
theorem take_succ_getD (zs : List MsgR) (k : Nat) (h : k < zs.length) : zs.take (k + 1) = zs.take k ++ [zs.getD k default] := by
  rw [List.take_succ_eq_append_getElem h]; simp [List.getD, h]
theorem Said.succ {zs : List MsgR} {k : Nat} {s : ByteArray} (h : Said zs k s) (hk : k < zs.length) (ho : OkM (zs.getD k default)) (hz : (said (zs.getD k default)).size ≤ 10000) : Said zs (k + 1) (s ++ said (zs.getD k default)) := by
  obtain ⟨h1, h2, h3⟩ := h
  refine ⟨fun m hm => ?_, ?_, by rw [ba_size_append]; omega⟩
  · rw [take_succ_getD zs k hk] at hm
    rcases List.mem_append.1 hm with hm | hm
    · exact h1 m hm
    · rw [List.mem_singleton.1 hm]; exact ho
  · rw [bytes_append, h2, take_succ_getD zs k hk]; simp [cat]

theorem said_many (m : MsgR) (hl : m.xs.length ≤ 300) (hx : m.x.size ≤ 5000) (hi : ∀ x ∈ m.xs, I64 x) : ∃ p : ByteArray × Int, saidF m = some p ∧ p.1.size ≤ 10000 ∧ (p.2 = 0 → ∀ t : ByteArray, t.size ≤ 4611686018427000000 → ∃ M : X.M20, X.clientmsg_Parse.f (p.1 ++ t) = some (tup M (p.1.size : Int) 0) ∧ 2 ≤ p.1.size ∧ p19 M = plainF m.k m.fl m.n m.r0 m.r1 m.r2 m.r3 m.f0 m.f1 m.b0 m.b1 m.f2 m.f3 m.f4 m.f5 m.f6 m.f7 m.xs m.x ∧ Form M (bytesOf p.1)) := by
  obtain ⟨r, e, h1, h2⟩ := say_c m.k m.fl m.n m.r0 m.r1 m.r2 m.r3 m.f0 m.f1 m.b0 m.b1 m.f2 m.f3 m.f4 m.f5 m.f6 m.f7 m.xs m.x (by omega) hx hi
  by_cases h0 : r.2 = 0
  · obtain ⟨M, bs, hf, hs, hp⟩ := h2 h0
    obtain ⟨hr, hz, hz2⟩ := hf.range
    refine ⟨r, e, by rw [hs, strOfNums_size]; exact hz, fun _ t ht => ⟨M, ?_, by rw [hs, strOfNums_size]; exact hz2, hp, by rw [hs, bytes_str hr]; exact hf⟩⟩
    rw [hs, strOfNums_size]
    exact parse_form hf t ht
  · exact ⟨r, e, by rw [h1 h0]; exact Nat.zero_le _, fun h => absurd h h0⟩
section
attribute [local go_sem ↓] exec_store_M exec_load_M
attribute [local go_sem] store_M load_M X.load_msg
set_option maxHeartbeats 8000000 in
set_option maxRecDepth 100000 in
theorem ClientmsgMany_walk (A : Option Addr) (len cap : Nat) (zs : List MsgR) (W : World) (h1 : zs.length = len) (h2 : len ≤ cap) (h3 : cap ≤ maxLen) (h4 : ∀ m ∈ zs, m.Ok W) (h5 : ∀ i, i < zs.length → ∃ ad, A = some ad ∧ ∀ o u, (zs.getD i default).row[o]? = some u → W.cell? (ad.add (i * 19 + o)) = some u) :
    Calls Try.prog 6 #[.slice A len cap] W fun e W' => e = .returned (.bool true) ∧ Below W.heap.size W W' := by
  subst h1
  have H4 := Lib.hid h4
  have H5 := Lib.hid h5
  clear h4 h5
  by_cases hl : 20 < zs.length
  · skip
    have hlb : decide ((zs.length : Int) > 20) = true := decide_eq_true (by omega)
    have hlb2 : decide (20 < zs.length) = true := decide_eq_true (by omega)
    go_enter Try.func6, Try.ntmps6
    go_wp2_with fail
    refine (X.miradorlaw22_works.calls true W X.miradorlaw22_works.at0).mono ?_
    rintro e W1 ⟨rfl, hb⟩
    have HB1 := Lib.hid hb
    clear hb
    go_wp2_with fail
    go_ret
    exact ⟨rfl, HB1.out⟩
  · skip
    have hlb : decide ((zs.length : Int) > 20) = false := decide_eq_false (by omega)
    have hlb2 : decide (20 < zs.length) = false := decide_eq_false (by omega)
    go_enter Try.func6, Try.ntmps6
    go_wp2_with fail
    refine (X.miradorlaw22_works.calls true W X.miradorlaw22_works.at0).mono ?_
    rintro e W1 ⟨rfl, hb⟩
    have HB1 := Lib.hid hb
    clear hb
    go_wp2_with fail
    go_loopw [4, 5] (fun p4 p5 wr => ∃ (k : Nat) (s : ByteArray), k ≤ zs.length ∧ p5 = .int .i64 k ∧ p4 = .string s ∧ Hid (Said zs k s) ∧ Hid (Below W.heap.size W wr)) (fun _ p5 _ => zs.length - (intOf p5).toNat)
    case atStart => exact ⟨0, _, Nat.zero_le _, rfl, rfl, Lib.hid (Said.zero zs), HB1⟩
    case round =>
      obtain ⟨k, s, hk, rfl, rfl, HS, HB⟩ := hrel
      by_cases hkl : k < zs.length
      · skip
        have c0 : decide ((k : Int) < (zs.length : Int)) = true := decide_eq_true (by omega)
        have c1 : decide (k < zs.length) = true := decide_eq_true hkl
        obtain ⟨ad, rfl, hcell⟩ := H5.out k hkl
        have hok := H4.out (zs.getD k default) (by rw [List.getD_eq_getElem?_getD, List.getElem?_eq_getElem hkl]; exact List.getElem_mem hkl)
        obtain ⟨m, hm⟩ : ∃ m, zs.getD k default = m := ⟨_, rfl⟩
        rw [hm] at hcell hok
        have HM := Lib.hid hm
        have HO := Lib.hid hok
        have HE := Lib.hid hcell
        have p0 : (0 : Int) ≤ (k : Int) := by omega
        have p1 : (k : Int) < (zs.length : Int) := by omega
        clear hcell hok hm
        have z17 := pw_cell_below HB.out (cell_form (a := ad.add (k * 19)) (j := 17) (by rw [Go.Deep.add_add]; exact HE.out 17 _ rfl))
        have z18 := pw_cell_below HB.out (cell_form (a := ad.add (k * 19)) (j := 18) (by rw [Go.Deep.add_add]; exact HE.out 18 _ rfl))
        have q10 := el_of (W := _) (a := ad.add (k * 19)) (row := m.row) (fun o u ho => by rw [Go.Deep.add_add]; exact pw_cell_below HB.out (HE.out o u ho))
        have q11 : elOk _ (ad.add (k * 19)) 19 = true := q10.1
        have q12 : elAt _ (ad.add (k * 19)) 19 = #[.int .i64 m.k, .bool m.fl, .int .i64 m.n, .int .i64 m.r0, .int .i64 m.r1, .int .i64 m.r2, .int .i64 m.r3, .int .i64 m.f0, .int .i64 m.f1, .bool m.b0, .bool m.b1, .int .i64 m.f2, .int .i64 m.f3, .int .i64 m.f4, .int .i64 m.f5, .int .i64 m.f6, .int .i64 m.f7, .slice m.A m.xs.length m.c, .string m.x] := q10.2
        clear q10
        by_cases hx0 : 300 < m.xs.length
        · as_aux_lemma =>
          have c2 : decide ((m.xs.length : Int) > 300) = true := decide_eq_true (by omega)
          have c3 : decide (300 < m.xs.length) = true := decide_eq_true (by omega)
          go_wp2_with fail
          go_ret
          exact ⟨rfl, HB.out⟩
        by_cases hx : 5000 < m.x.size
        · as_aux_lemma =>
          have c2 : decide ((m.xs.length : Int) > 300) = false := decide_eq_false (by omega)
          have c3 : decide (300 < m.xs.length) = false := decide_eq_false (by omega)
          have c4 : decide ((m.x.size : Int) > 5000) = true := decide_eq_true (by omega)
          have c5 : decide (5000 < m.x.size) = true := decide_eq_true (by omega)
          go_wp2_with fail
          go_ret
          exact ⟨rfl, HB.out⟩
        have c2 : decide ((m.xs.length : Int) > 300) = false := decide_eq_false (by omega)
        have c3 : decide (300 < m.xs.length) = false := decide_eq_false (by omega)
        have c4 : decide ((m.x.size : Int) > 5000) = false := decide_eq_false (by omega)
        have c5 : decide (5000 < m.x.size) = false := decide_eq_false (by omega)
        obtain ⟨p, e1, e2, e3⟩ := said_many m (by omega) (by omega) (fun x hx => by have := wf64 (HO.out.wx x hx); unfold I64; omega)
        clear e3
        go_wp2_with fail
        refine (X.clientmsg_Bytes.calls m.k m.fl m.n m.r0 m.r1 m.r2 m.r3 m.f0 m.f1 m.b0 m.b1 m.f2 m.f3 m.f4 m.f5 m.f6 m.f7 m.A m.c m.xs m.x p.1 p.2 _ (Kd.C_below HO.out.c_ HB.out) HO.out.cc e1).mono ?_
        rintro e W2 ⟨rfl, hb⟩
        have HB2 := Lib.hid (HB.out.trans (Below.mono hb HB.out.size))
        have HSD := Lib.hid (said_of (show saidF m = some p from e1))
        have HE1 := Lib.hid e1
        have HE2 := Lib.hid e2
        have HX0 := Lib.hid hx0
        have HX1 := Lib.hid hx
        clear hb q11 q12 z17 z18 e1 e2 hx0 hx
        by_cases h0 : p.2 = 0
        · have d0 : (p.2 != 0) = false := by simpa using h0
          have hz : s.size + p.1.size ≤ 9223372036854775807 := by have := HS.out.2.2; have := HE2.out; omega
          go_wp2_with fail
          have hs := HSD.out
          have hm := HM.out
          have he : saidF m = some p := HE1.out
          have hz2 := HE2.out
          have hx0 := HX0.out
          have hx := HX1.out
          refine ⟨⟨k + 1, s ++ p.1, by omega, by push_cast; rfl, rfl, Lib.hid ?_, HB2⟩, by show zs.length - ((k : Int) + 1).toNat < zs.length - ((k : Int)).toNat; omega⟩
          rw [← hs, ← hm]
          exact HS.out.succ hkl (by rw [hm]; exact ⟨by omega, by omega, by rw [hs, he]; exact congrArg some (Prod.ext rfl h0)⟩) (by rw [hm, hs]; exact hz2)
        · as_aux_lemma =>
          have d0 : (p.2 != 0) = true := by simpa using h0
          go_wp2_with fail
          go_ret
          exact ⟨rfl, HB2.out⟩
      · have c0 : decide ((k : Int) < (zs.length : Int)) = false := decide_eq_false (by omega)
        have c1 : decide (k < zs.length) = false := decide_eq_false hkl
        obtain rfl : k = zs.length := by omega
        have HL := Lib.hid (HS.out.left (by omega))
        clear HS hkl hk
        go_wp2_with fail
        clear c0 c1
        go_loopw [4, 8] (fun p4 p8 wr => ∃ (k : Nat) (s : ByteArray), k ≤ zs.length ∧ p8 = .int .i64 k ∧ p4 = .string s ∧ Hid (Left zs k s) ∧ Hid (Below W.heap.size W wr)) (fun _ p8 _ => zs.length - (intOf p8).toNat)
        case atStart => exact ⟨0, _, Nat.zero_le _, rfl, rfl, HL, HB⟩
        case round =>
          clear HL HB
          obtain ⟨k, s, hk, rfl, rfl, HL, HB⟩ := hrel
          by_cases hkl : k < zs.length
          · as_aux_lemma =>
            obtain ⟨t, ht, ht2, ht3, hokm⟩ := HL.out.split hkl
            have c0 : decide ((k : Int) < (zs.length : Int)) = true := decide_eq_true (by omega)
            have c1 : decide (k < zs.length) = true := decide_eq_true hkl
            obtain ⟨ad, rfl, hcell⟩ := H5.out k hkl
            have hok := H4.out (zs.getD k default) (by rw [List.getD_eq_getElem?_getD, List.getElem?_eq_getElem hkl]; exact List.getElem_mem hkl)
            obtain ⟨m, hm⟩ : ∃ m, zs.getD k default = m := ⟨_, rfl⟩
            rw [hm] at hcell hok
            have HM := Lib.hid hm
            rw [hm] at hokm ht
            obtain ⟨p, e1, e2, e3⟩ := said_many m hokm.1 hokm.2.1 (fun x hx => by have := wf64 (hok.wx x hx); unfold I64; omega)
            have es : some p = some (said m, 0) := e1.symm.trans hokm.2.2
            obtain rfl := Option.some.inj es
            obtain ⟨MM, e4, n2, hp, hf⟩ := e3 rfl t (by omega)
            dsimp only at e2 n2 e4
            obtain ⟨⟨u0, u1, u2, u3, u4, u5, u6, u7, u8, u9, u10, u11, u12, u13, u14, u15, u16, u17, u18⟩, hu⟩ : ∃ p : P19, plainF m.k m.fl m.n m.r0 m.r1 m.r2 m.r3 m.f0 m.f1 m.b0 m.b1 m.f2 m.f3 m.f4 m.f5 m.f6 m.f7 m.xs m.x = p := ⟨_, rfl⟩
            rw [hu] at hp
            have hsm := hf.same 400 (by decide)
            rw [hp] at hsm
            have e5 : tup MM ((said m).size : Int) 0 = (u0, u1, u2, u3, u4, u5, u6, u7, u8, u9, u10, u11, u12, u13, u14, u15, u16, u17, u18, ((said m).size : Int), 0) := by
              show ((p19 MM).1, (p19 MM).2.1, (p19 MM).2.2.1, (p19 MM).2.2.2.1, (p19 MM).2.2.2.2.1, (p19 MM).2.2.2.2.2.1, (p19 MM).2.2.2.2.2.2.1, (p19 MM).2.2.2.2.2.2.2.1, (p19 MM).2.2.2.2.2.2.2.2.1, (p19 MM).2.2.2.2.2.2.2.2.2.1, (p19 MM).2.2.2.2.2.2.2.2.2.2.1, (p19 MM).2.2.2.2.2.2.2.2.2.2.2.1, (p19 MM).2.2.2.2.2.2.2.2.2.2.2.2.1, (p19 MM).2.2.2.2.2.2.2.2.2.2.2.2.2.1, (p19 MM).2.2.2.2.2.2.2.2.2.2.2.2.2.2.1, (p19 MM).2.2.2.2.2.2.2.2.2.2.2.2.2.2.2.1, (p19 MM).2.2.2.2.2.2.2.2.2.2.2.2.2.2.2.2.1, (p19 MM).2.2.2.2.2.2.2.2.2.2.2.2.2.2.2.2.2.1, (p19 MM).2.2.2.2.2.2.2.2.2.2.2.2.2.2.2.2.2.2, ((said m).size : Int), (0 : Int)) = _
              rw [hp]
            rw [e5, ← ht] at e4
            have hsz : s.size = (said m).size + t.size := by rw [ht, ba_size_append]
            have HT := Lib.hid ht
            have HT2 := Lib.hid ht2
            have HOK := Lib.hid hokm
            have HSZ := Lib.hid hsz
            have HSZ2 := Lib.hid e2
            have HN2 := Lib.hid n2
            have HSM := Lib.hid (show X.miradorref22_Same.f 400 u0 u1 u2 u3 u4 u5 u6 u7 u8 u9 u10 u11 u12 u13 u14 u15 u16 u17 u18 u0 u1 u2 u3 u4 u5 u6 u7 u8 u9 u10 u11 u12 u13 u14 u15 u16 u17 u18 = some true from hsm)
            have HU := Lib.hid hu
            have HO := Lib.hid hok
            have HE := Lib.hid hcell
            clear ht ht2 hokm hsz e1 e2 e3 n2 hsm hu hok hcell hm hp hf es e5
            obtain ⟨a, ha⟩ : ∃ a : Int, ((said m).size : Int) = a := ⟨_, rfl⟩
            rw [ha] at e4
            have HA := Lib.hid ha
            clear ha
            have p0 : (0 : Int) ≤ (k : Int) := by omega
            have p1 : (k : Int) < (zs.length : Int) := by omega
            go_wp2_with fail
            refine (X.clientmsg_Parse.calls s u0 u1 u2 u3 u4 u5 u6 u7 u8 u9 u10 u11 u12 u13 u14 u15 u16 u17 u18 a 0 _ e4).mono ?_
            rintro e W3 ⟨v3, rfl, hR, hb⟩
            obtain ⟨A3, c3, rfl, hc3, hC3⟩ := Kd.R_reads hR
            have HB3 := Lib.hid (HB.out.trans (Below.mono hb HB.out.size))
            have hbz := below_alloc (Below.refl W3.heap.size W3) (.cells #[.int .i64 0, .bool false, .int .i64 0, .int .i64 0, .int .i64 0, .int .i64 0, .int .i64 0, .int .i64 0, .int .i64 0, .bool false, .bool false, .int .i64 0, .int .i64 0, .int .i64 0, .int .i64 0, .int .i64 0, .int .i64 0, .slice none 0 0, .string ⟨#[]⟩] 30)
            have hrow : X.rowAt (W3.alloc (.cells #[.int .i64 0, .bool false, .int .i64 0, .int .i64 0, .int .i64 0, .int .i64 0, .int .i64 0, .int .i64 0, .int .i64 0, .bool false, .bool false, .int .i64 0, .int .i64 0, .int .i64 0, .int .i64 0, .int .i64 0, .int .i64 0, .slice none 0 0, .string ⟨#[]⟩] 30)) W3.heap.size 30 19 = true := X.rowAt_of (heap_alloc_new W3 _) rfl
            obtain ⟨Wn, hWn⟩ : ∃ Y, (W3.alloc (.cells #[.int .i64 0, .bool false, .int .i64 0, .int .i64 0, .int .i64 0, .int .i64 0, .int .i64 0, .int .i64 0, .int .i64 0, .bool false, .bool false, .int .i64 0, .int .i64 0, .int .i64 0, .int .i64 0, .int .i64 0, .int .i64 0, .slice none 0 0, .string ⟨#[]⟩] 30)).setRow W3.heap.size #[.int .i64 u0, .bool u1, .int .i64 u2, .int .i64 u3, .int .i64 u4, .int .i64 u5, .int .i64 u6, .int .i64 u7, .int .i64 u8, .bool u9, .bool u10, .int .i64 u11, .int .i64 u12, .int .i64 u13, .int .i64 u14, .int .i64 u15, .int .i64 u16, .slice A3 u17.length c3, .string u18] = Y := ⟨_, rfl⟩
            have hbn := X.below_row (g := W3.heap.size) hbz (Nat.le_refl _) #[.int .i64 u0, .bool u1, .int .i64 u2, .int .i64 u3, .int .i64 u4, .int .i64 u5, .int .i64 u6, .int .i64 u7, .int .i64 u8, .bool u9, .bool u10, .int .i64 u11, .int .i64 u12, .int .i64 u13, .int .i64 u14, .int .i64 u15, .int .i64 u16, .slice A3 u17.length c3, .string u18]
            rw [hWn] at hbn
            have HBn := Lib.hid (HB3.out.trans (Below.mono hbn HB3.out.size))
            have HYn := Lib.hid (show Wn.heap[W3.heap.size]? = some (.cells #[.int .i64 u0, .bool u1, .int .i64 u2, .int .i64 u3, .int .i64 u4, .int .i64 u5, .int .i64 u6, .int .i64 u7, .int .i64 u8, .bool u9, .bool u10, .int .i64 u11, .int .i64 u12, .int .i64 u13, .int .i64 u14, .int .i64 u15, .int .i64 u16, .slice A3 u17.length c3, .string u18] 30 (0, 0)) from by rw [← hWn]; exact setRow_heap _ _ _ _ _ _ (heap_alloc_new W3 _))
            have HCn := Lib.hid (Kd.C_below hC3 hbn)
            have HC3 := Lib.hid hc3
            have HMn := Lib.hid (Kd.C_below HO.out.c_ HBn.out)
            have ha0 : 1 ≤ a := by have := HA.out; have := HN2.out; omega
            have ha1 : a ≤ (s.size : Int) := by have := HA.out; have := HSZ.out; omega
            clear hR hC3 hc3 hb hbz hbn e4 HB HB3
            go_upto_region 20 with (fail)
            try rw [hWn]
            clear hWn hrow
            have q10 := el_of (W := Wn) (a := ad.add (k * 19)) (row := m.row) (fun o u ho => by rw [Go.Deep.add_add]; exact pw_cell_below HBn.out (HE.out o u ho))
            have q11 : elOk Wn (ad.add (k * 19)) 19 = true := q10.1
            have q12 : elAt Wn (ad.add (k * 19)) 19 = #[.int .i64 m.k, .bool m.fl, .int .i64 m.n, .int .i64 m.r0, .int .i64 m.r1, .int .i64 m.r2, .int .i64 m.r3, .int .i64 m.f0, .int .i64 m.f1, .bool m.b0, .bool m.b1, .int .i64 m.f2, .int .i64 m.f3, .int .i64 m.f4, .int .i64 m.f5, .int .i64 m.f6, .int .i64 m.f7, .slice m.A m.xs.length m.c, .string m.x] := q10.2
            clear q10
            have q20 := el_of (W := Wn.drew) (a := ad.add (k * 19)) (row := m.row) (fun o u ho => by rw [Go.Deep.add_add]; exact pw_cell_below (Below.drew HBn.out) (HE.out o u ho))
            have q21 : elOk Wn.drew (ad.add (k * 19)) 19 = true := q20.1
            have q22 : elAt Wn.drew (ad.add (k * 19)) 19 = #[.int .i64 m.k, .bool m.fl, .int .i64 m.n, .int .i64 m.r0, .int .i64 m.r1, .int .i64 m.r2, .int .i64 m.r3, .int .i64 m.f0, .int .i64 m.f1, .bool m.b0, .bool m.b1, .int .i64 m.f2, .int .i64 m.f3, .int .i64 m.f4, .int .i64 m.f5, .int .i64 m.f6, .int .i64 m.f7, .slice m.A m.xs.length m.c, .string m.x] := q20.2
            clear q20
            have g03 : X.rowAt Wn W3.heap.size 30 19 = true := X.rowAt_of HYn.out rfl
            have g04 : X.cellsAt Wn W3.heap.size = #[.int .i64 u0, .bool u1, .int .i64 u2, .int .i64 u3, .int .i64 u4, .int .i64 u5, .int .i64 u6, .int .i64 u7, .int .i64 u8, .bool u9, .bool u10, .int .i64 u11, .int .i64 u12, .int .i64 u13, .int .i64 u14, .int .i64 u15, .int .i64 u16, .slice A3 u17.length c3, .string u18] := X.cellsAt_of HYn.out
            have g13 : X.rowAt Wn.drew W3.heap.size 30 19 = true := X.rowAt_of (blk_drew HYn.out) rfl
            have g14 : X.cellsAt Wn.drew W3.heap.size = #[.int .i64 u0, .bool u1, .int .i64 u2, .int .i64 u3, .int .i64 u4, .int .i64 u5, .int .i64 u6, .int .i64 u7, .int .i64 u8, .bool u9, .bool u10, .int .i64 u11, .int .i64 u12, .int .i64 u13, .int .i64 u14, .int .i64 u15, .int .i64 u16, .slice A3 u17.length c3, .string u18] := X.cellsAt_of (blk_drew HYn.out)
            go_cut [12] (fun s12 wx => s12 = .bool true ∧ Hid (Below W.heap.size W wx))
            case first =>
              go_region_held3 (fun w' => elOk w' (ad.add (k * 19)) 19 = true ∧ elAt w' (ad.add (k * 19)) 19 = #[.int .i64 m.k, .bool m.fl, .int .i64 m.n, .int .i64 m.r0, .int .i64 m.r1, .int .i64 m.r2, .int .i64 m.r3, .int .i64 m.f0, .int .i64 m.f1, .bool m.b0, .bool m.b1, .int .i64 m.f2, .int .i64 m.f3, .int .i64 m.f4, .int .i64 m.f5, .int .i64 m.f6, .int .i64 m.f7, .slice m.A m.xs.length m.c, .string m.x] ∧ X.rowAt w' W3.heap.size 30 19 = true ∧ X.cellsAt w' W3.heap.size = #[.int .i64 u0, .bool u1, .int .i64 u2, .int .i64 u3, .int .i64 u4, .int .i64 u5, .int .i64 u6, .int .i64 u7, .int .i64 u8, .bool u9, .bool u10, .int .i64 u11, .int .i64 u12, .int .i64 u13, .int .i64 u14, .int .i64 u15, .int .i64 u16, .slice A3 u17.length c3, .string u18]) (first | go_keep | exact ⟨q51, q52, k53, k54⟩ | exact ⟨q61, q62, k63, k64⟩) (first | (go_at_call 14; (with_reducible refine (plain_c m.k m.fl m.n m.r0 m.r1 m.r2 m.r3 m.f0 m.f1 m.b0 m.b1 m.f2 m.f3 m.f4 m.f5 m.f6 m.f7 m.xs m.x m.A m.c u0 u1 u2 u3 u4 u5 u6 u7 u8 u9 u10 u11 u12 u13 u14 u15 u16 u17 u18 _ (by first | with_reducible exact HMn.out | with_reducible exact Kd.C_drew HMn.out) HO.out.cc HU.out).mono ?_); rintro en W5 ⟨A5, c5, rfl, hC5, hc5, hb5⟩; have HP5 := Lib.hid hC5; have HQ5 := Lib.hid hc5; have HY5 := Lib.hid (show W5.heap[W3.heap.size]? = some (.cells #[.int .i64 u0, .bool u1, .int .i64 u2, .int .i64 u3, .int .i64 u4, .int .i64 u5, .int .i64 u6, .int .i64 u7, .int .i64 u8, .bool u9, .bool u10, .int .i64 u11, .int .i64 u12, .int .i64 u13, .int .i64 u14, .int .i64 u15, .int .i64 u16, .slice A3 u17.length c3, .string u18] 30 (0, 0)) from by first | exact blk_below HYn.out hb5 | exact blk_below (blk_drew HYn.out) hb5); have HB5 := Lib.hid (show Below W.heap.size W W5 from by first | exact HBn.out.trans (Below.mono hb5 HBn.out.size) | exact (Below.drew HBn.out).trans (Below.mono hb5 (Below.drew HBn.out).size)); have HN5 := Lib.hid (show Kd.C (Kd.int .i64) W5 A3 u17.length u17 from by first | exact Kd.C_below HCn.out hb5 | exact Kd.C_below (Kd.C_drew HCn.out) hb5); have q50 := el_of (W := W5) (a := ad.add (k * 19)) (row := m.row) (fun o u ho => by rw [Go.Deep.add_add]; exact pw_cell_below HB5.out (HE.out o u ho)); have q51 : elOk W5 (ad.add (k * 19)) 19 = true := q50.1; have q52 : elAt W5 (ad.add (k * 19)) 19 = #[.int .i64 m.k, .bool m.fl, .int .i64 m.n, .int .i64 m.r0, .int .i64 m.r1, .int .i64 m.r2, .int .i64 m.r3, .int .i64 m.f0, .int .i64 m.f1, .bool m.b0, .bool m.b1, .int .i64 m.f2, .int .i64 m.f3, .int .i64 m.f4, .int .i64 m.f5, .int .i64 m.f6, .int .i64 m.f7, .slice m.A m.xs.length m.c, .string m.x] := q50.2; clear q50; have k53 : X.rowAt W5 W3.heap.size 30 19 = true := X.rowAt_of HY5.out rfl; have k54 : X.cellsAt W5 W3.heap.size = #[.int .i64 u0, .bool u1, .int .i64 u2, .int .i64 u3, .int .i64 u4, .int .i64 u5, .int .i64 u6, .int .i64 u7, .int .i64 u8, .bool u9, .bool u10, .int .i64 u11, .int .i64 u12, .int .i64 u13, .int .i64 u14, .int .i64 u15, .int .i64 u16, .slice A3 u17.length c3, .string u18] := X.cellsAt_of HY5.out; clear hC5 hc5 hb5) | (go_at_call 12; (with_reducible refine (X.miradorref22_Same.calls 400 u0 u1 u2 u3 u4 u5 u6 u7 u8 u9 u10 u11 u12 u13 u14 u15 u16 A3 c3 u17 u18 u0 u1 u2 u3 u4 u5 u6 u7 u8 u9 u10 u11 u12 u13 u14 u15 u16 A5 c5 u17 u18 true _ (by first | with_reducible exact HN5.out | with_reducible exact Kd.C_drew HN5.out) HC3.out (by first | with_reducible exact HP5.out | with_reducible exact Kd.C_drew HP5.out) HQ5.out HSM.out).mono ?_); rintro en W6 ⟨rfl, hb6⟩; have HB6 := Lib.hid (show Below W.heap.size W W6 from by first | exact HB5.out.trans (Below.mono hb6 HB5.out.size) | exact (Below.drew HB5.out).trans (Below.mono hb6 (Below.drew HB5.out).size)); have HY6 := Lib.hid (show W6.heap[W3.heap.size]? = some (.cells #[.int .i64 u0, .bool u1, .int .i64 u2, .int .i64 u3, .int .i64 u4, .int .i64 u5, .int .i64 u6, .int .i64 u7, .int .i64 u8, .bool u9, .bool u10, .int .i64 u11, .int .i64 u12, .int .i64 u13, .int .i64 u14, .int .i64 u15, .int .i64 u16, .slice A3 u17.length c3, .string u18] 30 (0, 0)) from by first | exact blk_below HY5.out hb6 | exact blk_below (blk_drew HY5.out) hb6); have q60 := el_of (W := W6) (a := ad.add (k * 19)) (row := m.row) (fun o u ho => by rw [Go.Deep.add_add]; exact pw_cell_below HB6.out (HE.out o u ho)); have q61 : elOk W6 (ad.add (k * 19)) 19 = true := q60.1; have q62 : elAt W6 (ad.add (k * 19)) 19 = #[.int .i64 m.k, .bool m.fl, .int .i64 m.n, .int .i64 m.r0, .int .i64 m.r1, .int .i64 m.r2, .int .i64 m.r3, .int .i64 m.f0, .int .i64 m.f1, .bool m.b0, .bool m.b1, .int .i64 m.f2, .int .i64 m.f3, .int .i64 m.f4, .int .i64 m.f5, .int .i64 m.f6, .int .i64 m.f7, .slice m.A m.xs.length m.c, .string m.x] := q60.2; clear q60; have k63 : X.rowAt W6 W3.heap.size 30 19 = true := X.rowAt_of HY6.out rfl; have k64 : X.cellsAt W6 W3.heap.size = #[.int .i64 u0, .bool u1, .int .i64 u2, .int .i64 u3, .int .i64 u4, .int .i64 u5, .int .i64 u6, .int .i64 u7, .int .i64 u8, .bool u9, .bool u10, .int .i64 u11, .int .i64 u12, .int .i64 u13, .int .i64 u14, .int .i64 u15, .int .i64 u16, .slice A3 u17.length c3, .string u18] := X.cellsAt_of HY6.out; clear hb6))
              all_goals
                go_wp2_with fail
                go_meet
                first | exact ⟨rfl, HB6⟩ | exact HB6
            case rest =>
              obtain ⟨rfl, HBx⟩ := hcut
              clear g03 g04 g13 g14 q11 q12 q21 q22
              have d1 : decide (a < 1) = false := decide_eq_false (by omega)
              have d2 : decide (a > (s.size : Int)) = false := decide_eq_false (by omega)
              have d3 : decide ((s.size : Int) < a) = false := decide_eq_false (by omega)
              have d4 : (0 : Int) ≤ a := by omega
              go_wp2_with fail
              refine ⟨⟨k + 1, s.extract a.toNat s.size, by omega, by push_cast; rfl, rfl, Lib.hid ?_, HBx⟩, by show zs.length - ((k : Int) + 1).toNat < zs.length - ((k : Int)).toNat; omega⟩
              exact many_left HL.out hkl HM.out HT.out HT2.out HA.out
          · have c0 : decide ((k : Int) < (zs.length : Int)) = false := decide_eq_false (by omega)
            have c1 : decide (k < zs.length) = false := decide_eq_false hkl
            have hs : s = ⟨#[]⟩ := by
              have := HL.out.2.1
              rw [List.drop_of_length_le (by omega)] at this
              exact ba_bytesOf.1 this
            subst hs
            clear hkl
            go_wp2_with fail
            go_ret
            exact ⟨by simp, HB.out⟩
end
end Go.Proofs.Ytclikkhkhoicfaa.H

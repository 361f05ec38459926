/- The walk of the law ServermsgBack. Written by a program of this session (xprint.py, lawx.py, rowfix.py). -/
import Derived.Test.YtpackckoblpbfaaXx0
import Derived.Test.YtpackckoblpbfaaXx1
import Derived.Test.YtpackckoblpbfaaXx12
import Derived.Test.YtpackckoblpbfaaXx13
import Derived.Test.YtpackckoblpbfaaXx14
import Derived.Test.YtpackckoblpbfaaXx17
import Derived.Test.YtpackckoblpbfaaXx18
import Derived.Test.YtpackckoblpbfaaXx2
import Derived.Test.YtpackckoblpbfaaXx20
import Derived.Test.YtpackckoblpbfaaXx21
import Derived.Test.YtpackckoblpbfaaXx31
import Derived.Test.YtpackckoblpbfaaXx37
import Derived.Test.YtpackckoblpbfaaXx39
import Derived.Test.YtpackckoblpbfaaXx44
import Derived.Test.YtpackckoblpbfaaXx49
import Derived.Test.YtpackckoblpbfaaXx8
namespace Go.Proofs.Ytpackckoblpbfaa.X
open Go.RowKit Go.Proofs.YtpackckoblpbfaaW.PrintWords Go.Proofs.YtpackckoblpbfaaW.PrintLast Go.Proofs.YtpackckoblpbfaaW.PrintMore
attribute [local go_sem] max2_int min2_int max_two min_two max_three min_three max_four min_four   -- for this text's walks alone
set_option linter.unusedVariables false
set_option linter.unusedSimpArgs false

theorem eqA26 (d : Nat) (w : World) (x0 y0 : Int) (x1 y1 : Int) (x2 y2 : Int) (x3 y3 : Int) (x4 y4 : Bool) (x5 y5 : Bool) (x6 y6 : Int) (x7 y7 : Int) (x8 y8 : Int) (x9 y9 : Int) (x10 y10 : Int) (x11 y11 : Int) (x12 y12 : ByteArray) :
  (Op.equalIn (d + 3) 26 (.agg #[.int .i64 x0, .int .i64 x1, .int .i64 x2, .int .i64 x3, .bool x4, .bool x5, .int .i64 x6, .int .i64 x7, .int .i64 x8, .int .i64 x9, .int .i64 x10, .int .i64 x11, .string x12]) (.agg #[.int .i64 y0, .int .i64 y1, .int .i64 y2, .int .i64 y3, .bool y4, .bool y5, .int .i64 y6, .int .i64 y7, .int .i64 y8, .int .i64 y9, .int .i64 y10, .int .i64 y11, .string y12])).run Try.prog w = .ok (x0 == y0 && (x1 == y1 && ((x2 == y2 && (x3 == y3 && (x4 == y4 && (x5 == y5 && (x6 == y6 && (x7 == y7 && (x8 == y8 && (x9 == y9 && (x10 == y10 && (x11 == y11)))))))))) && (x12.toList == y12.toList)))) w := by
 refine eqA_of Try.underlying26 (by kernel_rfl) ?_
 refine eqf_cons (by rfl) (by go_simp; rfl) (by go_simp; rfl) (by go_simp) ?_
 refine eqf_cons (by rfl) (by go_simp; rfl) (by go_simp; rfl) (by go_simp) ?_
 refine eqf_cons (by rfl) (by go_simp) (by go_simp) (eqA24 (d + 0) w _ _ _ _ _ _ _ _ _ _ _ _ _ _ _ _ _ _ _ _) ?_
 exact eqf_last (by rfl) (by go_simp; rfl) (by go_simp; rfl) (by go_simp)
theorem eqA30 (d : Nat) (w : World) (x0 y0 : Int) (x1 y1 : Int) (x2 y2 : Int) (x3 y3 : Int) (x4 y4 : Int) :
  (Op.equalIn (d + 3) 30 (.agg #[.int .i64 x0, .int .i64 x1, .int .i64 x2, .int .i64 x3, .int .i64 x4]) (.agg #[.int .i64 y0, .int .i64 y1, .int .i64 y2, .int .i64 y3, .int .i64 y4])).run Try.prog w = .ok ((x0 == y0 && (x1 == y1 && (x2 == y2 && (x3 == y3)))) && (x4 == y4)) w := by
 refine eqA_of Try.underlying30 (by kernel_rfl) ?_
 refine eqf_cons (by rfl) (by go_simp) (by go_simp) (eqA28 (d + 0) w _ _ _ _ _ _ _ _) ?_
 exact eqf_last (by rfl) (by go_simp; rfl) (by go_simp; rfl) (by go_simp)
attribute [local go_sem high] eqA26 eqA30
/-! ### miradorlaw23_ServermsgBack: function 7 -/
mutual
def miradorlaw23_ServermsgBack.j0 : Nat → List Int → ByteArray → ByteArray → Bool → Bool → Int → Int → Int → Int → Bool → Bool → Int → Int → Int → Int → Int → Int → ByteArray → Int → Int → Int → Int → Int → Int → Bool → Int → Int → Int → Int → Int → Int → Int → Bool → Bool → Int → Int → Int → Int → Int → Int → List Int → ByteArray → Option (Bool)
 | 0, _, _, _, _, _, _, _, _, _, _, _, _, _, _, _, _, _, _, _, _, _, _, _, _, _, _, _, _, _, _, _, _, _, _, _, _, _, _, _, _, _, _ => none
 | k + 1, x0, x1, x5, x13, x60, zl, zm, zn, zo, zp, zq, zr, zs, zt, zu, zv, zw, zx, zg, zh, zi, zj, zk, qN, qQ, qP, qR, qS, qT, qU, qV, qW, qX, qY, qZ, za, zb, zc, zd, ze, zf, qO => if x60 = true then (some x13) else ((servermsg_Kinds.f x0).bind fun bt235 => (if bt235.2 = 0 then (if bt235.1.size + x5.size ≤ 9223372036854775807 then ((servermsg_KindsOf.f (bt235.1 ++ x5)).bind fun bt237 => ((miradorref12_Row.f k bt237.1 x0).bind fun t243 => (if t243 = true then (if bt237.2.2.1 = (bt235.1.size : Int) then (if bt237.2.2.2 = 0 then (miradorlaw23_ServermsgBack.j1 k x1 x5 x13 zl zm zn zo zp zq zr zs zt zu zv zw zx zg zh zi zj zk qN qQ qP qR qS qT qU qV qW qX qY qZ za zb zc zd ze zf qO) else (some false)) else (some false)) else (some false)))) else (none)) else (miradorlaw23_ServermsgBack.j1 k x1 x5 x13 zl zm zn zo zp zq zr zs zt zu zv zw zx zg zh zi zj zk qN qQ qP qR qS qT qU qV qW qX qY qZ za zb zc zd ze zf qO)))
def miradorlaw23_ServermsgBack.j1 : Nat → ByteArray → ByteArray → Bool → Int → Int → Int → Int → Bool → Bool → Int → Int → Int → Int → Int → Int → ByteArray → Int → Int → Int → Int → Int → Int → Bool → Int → Int → Int → Int → Int → Int → Int → Bool → Bool → Int → Int → Int → Int → Int → Int → List Int → ByteArray → Option (Bool)
 | 0, _, _, _, _, _, _, _, _, _, _, _, _, _, _, _, _, _, _, _, _, _, _, _, _, _, _, _, _, _, _, _, _, _, _, _, _, _, _, _, _ => none
 | k + 1, x1, x5, x13, zl, zm, zn, zo, zp, zq, zr, zs, zt, zu, zv, zw, zx, zg, zh, zi, zj, zk, qN, qQ, qP, qR, qS, qT, qU, qV, qW, qX, qY, qZ, za, zb, zc, zd, ze, zf, qO => (servermsg_Result.f x1).bind fun t244 => (if t244.size + x5.size ≤ 9223372036854775807 then ((servermsg_ResultOf.f (t244 ++ x5)).bind fun bt245 => (if bt245.1.toList = x1.toList then (if bt245.2.1 = (t244.size : Int) then (miradorlaw23_ServermsgBack.j2 k x5 x13 (bt245.2.2 != 0) zl zm zn zo zp zq zr zs zt zu zv zw zx zg zh zi zj zk qN qQ qP qR qS qT qU qV qW qX qY qZ za zb zc zd ze zf qO) else (miradorlaw23_ServermsgBack.j2 k x5 x13 true zl zm zn zo zp zq zr zs zt zu zv zw zx zg zh zi zj zk qN qQ qP qR qS qT qU qV qW qX qY qZ za zb zc zd ze zf qO)) else (miradorlaw23_ServermsgBack.j2 k x5 x13 true zl zm zn zo zp zq zr zs zt zu zv zw zx zg zh zi zj zk qN qQ qP qR qS qT qU qV qW qX qY qZ za zb zc zd ze zf qO))) else (none))
def miradorlaw23_ServermsgBack.j2 : Nat → ByteArray → Bool → Bool → Int → Int → Int → Int → Bool → Bool → Int → Int → Int → Int → Int → Int → ByteArray → Int → Int → Int → Int → Int → Int → Bool → Int → Int → Int → Int → Int → Int → Int → Bool → Bool → Int → Int → Int → Int → Int → Int → List Int → ByteArray → Option (Bool)
 | 0, _, _, _, _, _, _, _, _, _, _, _, _, _, _, _, _, _, _, _, _, _, _, _, _, _, _, _, _, _, _, _, _, _, _, _, _, _, _, _, _ => none
 | k + 1, x5, x13, x115, zl, zm, zn, zo, zp, zq, zr, zs, zt, zu, zv, zw, zx, zg, zh, zi, zj, zk, qN, qQ, qP, qR, qS, qT, qU, qV, qW, qX, qY, qZ, za, zb, zc, zd, ze, zf, qO => if x115 = true then (some false) else ((servermsg_Bytes.f zl zm zn zo zp zq zr zs zt zu zv zw zx).bind fun bt248 => (if bt248.2 = 0 then (if bt248.1.size + x5.size ≤ 9223372036854775807 then ((servermsg_StartOf.f (bt248.1 ++ x5)).bind fun bt250 => (if (!(bt250.1 == zl) || (!(bt250.2.1 == zm) || ((!(bt250.2.2.1 == zn) || (!(bt250.2.2.2.1 == zo) || (!(bt250.2.2.2.2.1 == zp) || (!(bt250.2.2.2.2.2.1 == zq) || (!(bt250.2.2.2.2.2.2.1 == zr) || (!(bt250.2.2.2.2.2.2.2.1 == zs) || (!(bt250.2.2.2.2.2.2.2.2.1 == zt) || (!(bt250.2.2.2.2.2.2.2.2.2.1 == zu) || (!(bt250.2.2.2.2.2.2.2.2.2.2.1 == zv) || (!(bt250.2.2.2.2.2.2.2.2.2.2.2.1 == zw))))))))))) || (!(bt250.2.2.2.2.2.2.2.2.2.2.2.2.1.toList == zx.toList))))) = true then (some false) else (if bt250.2.2.2.2.2.2.2.2.2.2.2.2.2.1 = (bt248.1.size : Int) then (if bt250.2.2.2.2.2.2.2.2.2.2.2.2.2.2 = 0 then (miradorlaw23_ServermsgBack.j3 k x5 x13 zg zh zi zj zk qN qQ qP qR qS qT qU qV qW qX qY qZ za zb zc zd ze zf qO) else (some false)) else (some false)))) else (none)) else (miradorlaw23_ServermsgBack.j3 k x5 x13 zg zh zi zj zk qN qQ qP qR qS qT qU qV qW qX qY qZ za zb zc zd ze zf qO)))
def miradorlaw23_ServermsgBack.j3 : Nat → ByteArray → Bool → Int → Int → Int → Int → Int → Int → Bool → Int → Int → Int → Int → Int → Int → Int → Bool → Bool → Int → Int → Int → Int → Int → Int → List Int → ByteArray → Option (Bool)
 | 0, _, _, _, _, _, _, _, _, _, _, _, _, _, _, _, _, _, _, _, _, _, _, _, _, _, _ => none
 | k + 1, x5, x13, zg, zh, zi, zj, zk, qN, qQ, qP, qR, qS, qT, qU, qV, qW, qX, qY, qZ, za, zb, zc, zd, ze, zf, qO => (servermsg_Put.f zg zh zi zj zk).bind fun bt266 => (if bt266.2 = 0 then (if bt266.1.size + x5.size ≤ 9223372036854775807 then ((servermsg_HeadOf.f (bt266.1 ++ x5)).bind fun bt268 => (if ((!(bt268.1 == zg) || (!(bt268.2.1 == zh) || (!(bt268.2.2.1 == zi) || (!(bt268.2.2.2.1 == zj))))) || (!(bt268.2.2.2.2.1 == zk))) = true then (some false) else (if bt268.2.2.2.2.2.1 = (bt266.1.size : Int) then (if bt268.2.2.2.2.2.2 = 0 then (miradorlaw23_ServermsgBack.j4 k x5 x13 qN qQ qP qR qS qT qU qV qW qX qY qZ za zb zc zd ze zf qO) else (some false)) else (some false)))) else (none)) else (miradorlaw23_ServermsgBack.j4 k x5 x13 qN qQ qP qR qS qT qU qV qW qX qY qZ za zb zc zd ze zf qO))
def miradorlaw23_ServermsgBack.j4 : Nat → ByteArray → Bool → Int → Bool → Int → Int → Int → Int → Int → Int → Int → Bool → Bool → Int → Int → Int → Int → Int → Int → List Int → ByteArray → Option (Bool)
 | 0, _, _, _, _, _, _, _, _, _, _, _, _, _, _, _, _, _, _, _, _, _ => none
 | k + 1, x5, x13, qN, qQ, qP, qR, qS, qT, qU, qV, qW, qX, qY, qZ, za, zb, zc, zd, ze, zf, qO => (servermsg_Say.f qN qQ qP qR qS qT qU qV qW qX qY qZ za zb zc zd ze zf qO).bind fun bt276 => (if bt276.2 = 0 then (if bt276.1.size + x5.size ≤ 9223372036854775807 then ((servermsg_Parse.f (bt276.1 ++ x5)).bind fun bt278 => (if bt278.1 = qN then (if qN = 6 then (if bt278.2.2.1 = qP then (if qN = 5 then (if bt278.2.2.2.2.2.2.2.2.2.2.2.2.2.2.2.2.2.2.1.toList = qO.toList then (if bt278.2.2.2.2.2.2.2.2.2.2.2.2.2.2.2.2.2.2.2.1 = (bt276.1.size : Int) then (if bt278.2.2.2.2.2.2.2.2.2.2.2.2.2.2.2.2.2.2.2.2 = 0 then (some x13) else (some false)) else (some false)) else (some false)) else (if bt278.2.2.2.2.2.2.2.2.2.2.2.2.2.2.2.2.2.2.2.1 = (bt276.1.size : Int) then (if bt278.2.2.2.2.2.2.2.2.2.2.2.2.2.2.2.2.2.2.2.2 = 0 then (some x13) else (some false)) else (some false))) else (some false)) else (if qN = 5 then (if bt278.2.2.2.2.2.2.2.2.2.2.2.2.2.2.2.2.2.2.1.toList = qO.toList then (if bt278.2.2.2.2.2.2.2.2.2.2.2.2.2.2.2.2.2.2.2.1 = (bt276.1.size : Int) then (if bt278.2.2.2.2.2.2.2.2.2.2.2.2.2.2.2.2.2.2.2.2 = 0 then (some x13) else (some false)) else (some false)) else (some false)) else (if bt278.2.2.2.2.2.2.2.2.2.2.2.2.2.2.2.2.2.2.2.1 = (bt276.1.size : Int) then (if bt278.2.2.2.2.2.2.2.2.2.2.2.2.2.2.2.2.2.2.2.2 = 0 then (some x13) else (some false)) else (some false)))) else (some false))) else (none)) else (some x13))
end
def miradorlaw23_ServermsgBack.f (k : Nat) (l0 : List Int) (a1 : ByteArray) (qu : Int) (qv : Int) (qw : Int) (qx : Int) (qy : Bool) (qz : Bool) (qA : Int) (qB : Int) (qC : Int) (qD : Int) (qE : Int) (qF : Int) (qt : ByteArray) (qG : Int) (qH : Int) (qI : Int) (qJ : Int) (qK : Int) (qa : Int) (qe : Bool) (qc : Int) (qf : Int) (qg : Int) (qh : Int) (qi : Int) (qj : Int) (qk : Int) (ql : Bool) (qm : Bool) (qn : Int) (qo : Int) (qp : Int) (qq : Int) (qr : Int) (qs : Int) (qd : List Int) (qb : ByteArray) (a5 : ByteArray) : Option (Bool) := (miradorlaw23_works.f).bind fun t234 => (if t234 = true then (if (l0.length : Int) > 300 then (miradorlaw23_ServermsgBack.j0 k l0 a1 a5 t234 true qu qv qw qx qy qz qA qB qC qD qE qF qt qG qH qI qJ qK qa qe qc qf qg qh qi qj qk ql qm qn qo qp qq qr qs qd qb) else (if (a1.size : Int) > 4096 then (miradorlaw23_ServermsgBack.j0 k l0 a1 a5 t234 true qu qv qw qx qy qz qA qB qC qD qE qF qt qG qH qI qJ qK qa qe qc qf qg qh qi qj qk ql qm qn qo qp qq qr qs qd qb) else (if (qt.size : Int) > 5000 then (miradorlaw23_ServermsgBack.j0 k l0 a1 a5 t234 true qu qv qw qx qy qz qA qB qC qD qE qF qt qG qH qI qJ qK qa qe qc qf qg qh qi qj qk ql qm qn qo qp qq qr qs qd qb) else (if (qb.size : Int) > 5000 then (miradorlaw23_ServermsgBack.j0 k l0 a1 a5 t234 true qu qv qw qx qy qz qA qB qC qD qE qF qt qG qH qI qJ qK qa qe qc qf qg qh qi qj qk ql qm qn qo qp qq qr qs qd qb) else (miradorlaw23_ServermsgBack.j0 k l0 a1 a5 t234 (decide ((a5.size : Int) > 5000)) qu qv qw qx qy qz qA qB qC qD qE qF qt qG qH qI qJ qK qa qe qc qf qg qh qi qj qk ql qm qn qo qp qq qr qs qd qb))))) else (some false))
theorem miradorlaw23_ServermsgBack.mono_l : ∀ k, (∀ y0 y1 y2 y3 y4 y5 y6 y7 y8 y9 y10 y11 y12 y13 y14 y15 y16 y17 y18 y19 y20 y21 y22 y23 y24 y25 y26 y27 y28 y29 y30 y31 y32 y33 y34 y35 y36 y37 y38 y39 y40 y41, LeO (miradorlaw23_ServermsgBack.j0 k y0 y1 y2 y3 y4 y5 y6 y7 y8 y9 y10 y11 y12 y13 y14 y15 y16 y17 y18 y19 y20 y21 y22 y23 y24 y25 y26 y27 y28 y29 y30 y31 y32 y33 y34 y35 y36 y37 y38 y39 y40 y41) (miradorlaw23_ServermsgBack.j0 (k + 1) y0 y1 y2 y3 y4 y5 y6 y7 y8 y9 y10 y11 y12 y13 y14 y15 y16 y17 y18 y19 y20 y21 y22 y23 y24 y25 y26 y27 y28 y29 y30 y31 y32 y33 y34 y35 y36 y37 y38 y39 y40 y41)) ∧ (∀ y0 y1 y2 y3 y4 y5 y6 y7 y8 y9 y10 y11 y12 y13 y14 y15 y16 y17 y18 y19 y20 y21 y22 y23 y24 y25 y26 y27 y28 y29 y30 y31 y32 y33 y34 y35 y36 y37 y38 y39, LeO (miradorlaw23_ServermsgBack.j1 k y0 y1 y2 y3 y4 y5 y6 y7 y8 y9 y10 y11 y12 y13 y14 y15 y16 y17 y18 y19 y20 y21 y22 y23 y24 y25 y26 y27 y28 y29 y30 y31 y32 y33 y34 y35 y36 y37 y38 y39) (miradorlaw23_ServermsgBack.j1 (k + 1) y0 y1 y2 y3 y4 y5 y6 y7 y8 y9 y10 y11 y12 y13 y14 y15 y16 y17 y18 y19 y20 y21 y22 y23 y24 y25 y26 y27 y28 y29 y30 y31 y32 y33 y34 y35 y36 y37 y38 y39)) ∧ (∀ y0 y1 y2 y3 y4 y5 y6 y7 y8 y9 y10 y11 y12 y13 y14 y15 y16 y17 y18 y19 y20 y21 y22 y23 y24 y25 y26 y27 y28 y29 y30 y31 y32 y33 y34 y35 y36 y37 y38 y39, LeO (miradorlaw23_ServermsgBack.j2 k y0 y1 y2 y3 y4 y5 y6 y7 y8 y9 y10 y11 y12 y13 y14 y15 y16 y17 y18 y19 y20 y21 y22 y23 y24 y25 y26 y27 y28 y29 y30 y31 y32 y33 y34 y35 y36 y37 y38 y39) (miradorlaw23_ServermsgBack.j2 (k + 1) y0 y1 y2 y3 y4 y5 y6 y7 y8 y9 y10 y11 y12 y13 y14 y15 y16 y17 y18 y19 y20 y21 y22 y23 y24 y25 y26 y27 y28 y29 y30 y31 y32 y33 y34 y35 y36 y37 y38 y39)) ∧ (∀ y0 y1 y2 y3 y4 y5 y6 y7 y8 y9 y10 y11 y12 y13 y14 y15 y16 y17 y18 y19 y20 y21 y22 y23 y24 y25, LeO (miradorlaw23_ServermsgBack.j3 k y0 y1 y2 y3 y4 y5 y6 y7 y8 y9 y10 y11 y12 y13 y14 y15 y16 y17 y18 y19 y20 y21 y22 y23 y24 y25) (miradorlaw23_ServermsgBack.j3 (k + 1) y0 y1 y2 y3 y4 y5 y6 y7 y8 y9 y10 y11 y12 y13 y14 y15 y16 y17 y18 y19 y20 y21 y22 y23 y24 y25)) ∧ (∀ y0 y1 y2 y3 y4 y5 y6 y7 y8 y9 y10 y11 y12 y13 y14 y15 y16 y17 y18 y19 y20, LeO (miradorlaw23_ServermsgBack.j4 k y0 y1 y2 y3 y4 y5 y6 y7 y8 y9 y10 y11 y12 y13 y14 y15 y16 y17 y18 y19 y20) (miradorlaw23_ServermsgBack.j4 (k + 1) y0 y1 y2 y3 y4 y5 y6 y7 y8 y9 y10 y11 y12 y13 y14 y15 y16 y17 y18 y19 y20))
 | 0 => ⟨fun _ _ _ _ _ _ _ _ _ _ _ _ _ _ _ _ _ _ _ _ _ _ _ _ _ _ _ _ _ _ _ _ _ _ _ _ _ _ _ _ _ _ r h => by simp [miradorlaw23_ServermsgBack.j0] at h, fun _ _ _ _ _ _ _ _ _ _ _ _ _ _ _ _ _ _ _ _ _ _ _ _ _ _ _ _ _ _ _ _ _ _ _ _ _ _ _ _ r h => by simp [miradorlaw23_ServermsgBack.j1] at h, fun _ _ _ _ _ _ _ _ _ _ _ _ _ _ _ _ _ _ _ _ _ _ _ _ _ _ _ _ _ _ _ _ _ _ _ _ _ _ _ _ r h => by simp [miradorlaw23_ServermsgBack.j2] at h, fun _ _ _ _ _ _ _ _ _ _ _ _ _ _ _ _ _ _ _ _ _ _ _ _ _ _ r h => by simp [miradorlaw23_ServermsgBack.j3] at h, fun _ _ _ _ _ _ _ _ _ _ _ _ _ _ _ _ _ _ _ _ _ r h => by simp [miradorlaw23_ServermsgBack.j4] at h⟩
 | k + 1 => by
  obtain ⟨ih0, ih1, ih2, ih3, ih4⟩ := miradorlaw23_ServermsgBack.mono_l k
  refine ⟨?_, ?_, ?_, ?_, ?_⟩
  ·intro y0 y1 y2 y3 y4 y5 y6 y7 y8 y9 y10 y11 y12 y13 y14 y15 y16 y17 y18 y19 y20 y21 y22 y23 y24 y25 y26 y27 y28 y29 y30 y31 y32 y33 y34 y35 y36 y37 y38 y39 y40 y41
   unfold miradorlaw23_ServermsgBack.j0
   repeat' first
   | (with_reducible exact ih0 _ _ _ _ _ _ _ _ _ _ _ _ _ _ _ _ _ _ _ _ _ _ _ _ _ _ _ _ _ _ _ _ _ _ _ _ _ _ _ _ _ _)
   | (with_reducible exact ih1 _ _ _ _ _ _ _ _ _ _ _ _ _ _ _ _ _ _ _ _ _ _ _ _ _ _ _ _ _ _ _ _ _ _ _ _ _ _ _ _)
   | (with_reducible exact ih2 _ _ _ _ _ _ _ _ _ _ _ _ _ _ _ _ _ _ _ _ _ _ _ _ _ _ _ _ _ _ _ _ _ _ _ _ _ _ _ _)
   | (with_reducible exact ih3 _ _ _ _ _ _ _ _ _ _ _ _ _ _ _ _ _ _ _ _ _ _ _ _ _ _)
   | (with_reducible exact ih4 _ _ _ _ _ _ _ _ _ _ _ _ _ _ _ _ _ _ _ _ _)
   | (with_reducible exact miradorref12_Row.mono _ _ _)
   | (with_reducible exact LeO.refl _)
   | (with_reducible exact LeO.none _)
   | (with_reducible refine LeO.ite ?_ ?_)
   | (with_reducible refine LeO.bind ?_ (fun _ => ?_))
   | exact ih0 _ _ _ _ _ _ _ _ _ _ _ _ _ _ _ _ _ _ _ _ _ _ _ _ _ _ _ _ _ _ _ _ _ _ _ _ _ _ _ _ _ _
   | exact ih1 _ _ _ _ _ _ _ _ _ _ _ _ _ _ _ _ _ _ _ _ _ _ _ _ _ _ _ _ _ _ _ _ _ _ _ _ _ _ _ _
   | exact ih2 _ _ _ _ _ _ _ _ _ _ _ _ _ _ _ _ _ _ _ _ _ _ _ _ _ _ _ _ _ _ _ _ _ _ _ _ _ _ _ _
   | exact ih3 _ _ _ _ _ _ _ _ _ _ _ _ _ _ _ _ _ _ _ _ _ _ _ _ _ _
   | exact ih4 _ _ _ _ _ _ _ _ _ _ _ _ _ _ _ _ _ _ _ _ _
   | exact miradorref12_Row.mono _ _ _
   | exact LeO.none _
   | refine LeO.ite ?_ ?_
   | refine LeO.bind ?_ (fun _ => ?_)
  ·intro y0 y1 y2 y3 y4 y5 y6 y7 y8 y9 y10 y11 y12 y13 y14 y15 y16 y17 y18 y19 y20 y21 y22 y23 y24 y25 y26 y27 y28 y29 y30 y31 y32 y33 y34 y35 y36 y37 y38 y39
   unfold miradorlaw23_ServermsgBack.j1
   repeat' first
   | (with_reducible exact ih0 _ _ _ _ _ _ _ _ _ _ _ _ _ _ _ _ _ _ _ _ _ _ _ _ _ _ _ _ _ _ _ _ _ _ _ _ _ _ _ _ _ _)
   | (with_reducible exact ih1 _ _ _ _ _ _ _ _ _ _ _ _ _ _ _ _ _ _ _ _ _ _ _ _ _ _ _ _ _ _ _ _ _ _ _ _ _ _ _ _)
   | (with_reducible exact ih2 _ _ _ _ _ _ _ _ _ _ _ _ _ _ _ _ _ _ _ _ _ _ _ _ _ _ _ _ _ _ _ _ _ _ _ _ _ _ _ _)
   | (with_reducible exact ih3 _ _ _ _ _ _ _ _ _ _ _ _ _ _ _ _ _ _ _ _ _ _ _ _ _ _)
   | (with_reducible exact ih4 _ _ _ _ _ _ _ _ _ _ _ _ _ _ _ _ _ _ _ _ _)
   | (with_reducible exact miradorref12_Row.mono _ _ _)
   | (with_reducible exact LeO.refl _)
   | (with_reducible exact LeO.none _)
   | (with_reducible refine LeO.ite ?_ ?_)
   | (with_reducible refine LeO.bind ?_ (fun _ => ?_))
   | exact ih0 _ _ _ _ _ _ _ _ _ _ _ _ _ _ _ _ _ _ _ _ _ _ _ _ _ _ _ _ _ _ _ _ _ _ _ _ _ _ _ _ _ _
   | exact ih1 _ _ _ _ _ _ _ _ _ _ _ _ _ _ _ _ _ _ _ _ _ _ _ _ _ _ _ _ _ _ _ _ _ _ _ _ _ _ _ _
   | exact ih2 _ _ _ _ _ _ _ _ _ _ _ _ _ _ _ _ _ _ _ _ _ _ _ _ _ _ _ _ _ _ _ _ _ _ _ _ _ _ _ _
   | exact ih3 _ _ _ _ _ _ _ _ _ _ _ _ _ _ _ _ _ _ _ _ _ _ _ _ _ _
   | exact ih4 _ _ _ _ _ _ _ _ _ _ _ _ _ _ _ _ _ _ _ _ _
   | exact miradorref12_Row.mono _ _ _
   | exact LeO.none _
   | refine LeO.ite ?_ ?_
   | refine LeO.bind ?_ (fun _ => ?_)
  ·intro y0 y1 y2 y3 y4 y5 y6 y7 y8 y9 y10 y11 y12 y13 y14 y15 y16 y17 y18 y19 y20 y21 y22 y23 y24 y25 y26 y27 y28 y29 y30 y31 y32 y33 y34 y35 y36 y37 y38 y39
   unfold miradorlaw23_ServermsgBack.j2
   repeat' first
   | (with_reducible exact ih0 _ _ _ _ _ _ _ _ _ _ _ _ _ _ _ _ _ _ _ _ _ _ _ _ _ _ _ _ _ _ _ _ _ _ _ _ _ _ _ _ _ _)
   | (with_reducible exact ih1 _ _ _ _ _ _ _ _ _ _ _ _ _ _ _ _ _ _ _ _ _ _ _ _ _ _ _ _ _ _ _ _ _ _ _ _ _ _ _ _)
   | (with_reducible exact ih2 _ _ _ _ _ _ _ _ _ _ _ _ _ _ _ _ _ _ _ _ _ _ _ _ _ _ _ _ _ _ _ _ _ _ _ _ _ _ _ _)
   | (with_reducible exact ih3 _ _ _ _ _ _ _ _ _ _ _ _ _ _ _ _ _ _ _ _ _ _ _ _ _ _)
   | (with_reducible exact ih4 _ _ _ _ _ _ _ _ _ _ _ _ _ _ _ _ _ _ _ _ _)
   | (with_reducible exact miradorref12_Row.mono _ _ _)
   | (with_reducible exact LeO.refl _)
   | (with_reducible exact LeO.none _)
   | (with_reducible refine LeO.ite ?_ ?_)
   | (with_reducible refine LeO.bind ?_ (fun _ => ?_))
   | exact ih0 _ _ _ _ _ _ _ _ _ _ _ _ _ _ _ _ _ _ _ _ _ _ _ _ _ _ _ _ _ _ _ _ _ _ _ _ _ _ _ _ _ _
   | exact ih1 _ _ _ _ _ _ _ _ _ _ _ _ _ _ _ _ _ _ _ _ _ _ _ _ _ _ _ _ _ _ _ _ _ _ _ _ _ _ _ _
   | exact ih2 _ _ _ _ _ _ _ _ _ _ _ _ _ _ _ _ _ _ _ _ _ _ _ _ _ _ _ _ _ _ _ _ _ _ _ _ _ _ _ _
   | exact ih3 _ _ _ _ _ _ _ _ _ _ _ _ _ _ _ _ _ _ _ _ _ _ _ _ _ _
   | exact ih4 _ _ _ _ _ _ _ _ _ _ _ _ _ _ _ _ _ _ _ _ _
   | exact miradorref12_Row.mono _ _ _
   | exact LeO.none _
   | refine LeO.ite ?_ ?_
   | refine LeO.bind ?_ (fun _ => ?_)
  ·intro y0 y1 y2 y3 y4 y5 y6 y7 y8 y9 y10 y11 y12 y13 y14 y15 y16 y17 y18 y19 y20 y21 y22 y23 y24 y25
   unfold miradorlaw23_ServermsgBack.j3
   repeat' first
   | (with_reducible exact ih0 _ _ _ _ _ _ _ _ _ _ _ _ _ _ _ _ _ _ _ _ _ _ _ _ _ _ _ _ _ _ _ _ _ _ _ _ _ _ _ _ _ _)
   | (with_reducible exact ih1 _ _ _ _ _ _ _ _ _ _ _ _ _ _ _ _ _ _ _ _ _ _ _ _ _ _ _ _ _ _ _ _ _ _ _ _ _ _ _ _)
   | (with_reducible exact ih2 _ _ _ _ _ _ _ _ _ _ _ _ _ _ _ _ _ _ _ _ _ _ _ _ _ _ _ _ _ _ _ _ _ _ _ _ _ _ _ _)
   | (with_reducible exact ih3 _ _ _ _ _ _ _ _ _ _ _ _ _ _ _ _ _ _ _ _ _ _ _ _ _ _)
   | (with_reducible exact ih4 _ _ _ _ _ _ _ _ _ _ _ _ _ _ _ _ _ _ _ _ _)
   | (with_reducible exact miradorref12_Row.mono _ _ _)
   | (with_reducible exact LeO.refl _)
   | (with_reducible exact LeO.none _)
   | (with_reducible refine LeO.ite ?_ ?_)
   | (with_reducible refine LeO.bind ?_ (fun _ => ?_))
   | exact ih0 _ _ _ _ _ _ _ _ _ _ _ _ _ _ _ _ _ _ _ _ _ _ _ _ _ _ _ _ _ _ _ _ _ _ _ _ _ _ _ _ _ _
   | exact ih1 _ _ _ _ _ _ _ _ _ _ _ _ _ _ _ _ _ _ _ _ _ _ _ _ _ _ _ _ _ _ _ _ _ _ _ _ _ _ _ _
   | exact ih2 _ _ _ _ _ _ _ _ _ _ _ _ _ _ _ _ _ _ _ _ _ _ _ _ _ _ _ _ _ _ _ _ _ _ _ _ _ _ _ _
   | exact ih3 _ _ _ _ _ _ _ _ _ _ _ _ _ _ _ _ _ _ _ _ _ _ _ _ _ _
   | exact ih4 _ _ _ _ _ _ _ _ _ _ _ _ _ _ _ _ _ _ _ _ _
   | exact miradorref12_Row.mono _ _ _
   | exact LeO.none _
   | refine LeO.ite ?_ ?_
   | refine LeO.bind ?_ (fun _ => ?_)
  ·intro y0 y1 y2 y3 y4 y5 y6 y7 y8 y9 y10 y11 y12 y13 y14 y15 y16 y17 y18 y19 y20
   unfold miradorlaw23_ServermsgBack.j4
   repeat' first
   | (with_reducible exact ih0 _ _ _ _ _ _ _ _ _ _ _ _ _ _ _ _ _ _ _ _ _ _ _ _ _ _ _ _ _ _ _ _ _ _ _ _ _ _ _ _ _ _)
   | (with_reducible exact ih1 _ _ _ _ _ _ _ _ _ _ _ _ _ _ _ _ _ _ _ _ _ _ _ _ _ _ _ _ _ _ _ _ _ _ _ _ _ _ _ _)
   | (with_reducible exact ih2 _ _ _ _ _ _ _ _ _ _ _ _ _ _ _ _ _ _ _ _ _ _ _ _ _ _ _ _ _ _ _ _ _ _ _ _ _ _ _ _)
   | (with_reducible exact ih3 _ _ _ _ _ _ _ _ _ _ _ _ _ _ _ _ _ _ _ _ _ _ _ _ _ _)
   | (with_reducible exact ih4 _ _ _ _ _ _ _ _ _ _ _ _ _ _ _ _ _ _ _ _ _)
   | (with_reducible exact miradorref12_Row.mono _ _ _)
   | (with_reducible exact LeO.refl _)
   | (with_reducible exact LeO.none _)
   | (with_reducible refine LeO.ite ?_ ?_)
   | (with_reducible refine LeO.bind ?_ (fun _ => ?_))
   | exact ih0 _ _ _ _ _ _ _ _ _ _ _ _ _ _ _ _ _ _ _ _ _ _ _ _ _ _ _ _ _ _ _ _ _ _ _ _ _ _ _ _ _ _
   | exact ih1 _ _ _ _ _ _ _ _ _ _ _ _ _ _ _ _ _ _ _ _ _ _ _ _ _ _ _ _ _ _ _ _ _ _ _ _ _ _ _ _
   | exact ih2 _ _ _ _ _ _ _ _ _ _ _ _ _ _ _ _ _ _ _ _ _ _ _ _ _ _ _ _ _ _ _ _ _ _ _ _ _ _ _ _
   | exact ih3 _ _ _ _ _ _ _ _ _ _ _ _ _ _ _ _ _ _ _ _ _ _ _ _ _ _
   | exact ih4 _ _ _ _ _ _ _ _ _ _ _ _ _ _ _ _ _ _ _ _ _
   | exact miradorref12_Row.mono _ _ _
   | exact LeO.none _
   | refine LeO.ite ?_ ?_
   | refine LeO.bind ?_ (fun _ => ?_)
theorem miradorlaw23_ServermsgBack.mono : ∀ a0 a1 a2 a3 a4 a5 a6 a7 a8 a9 a10 a11 a12 a13 a14 a15 a16 a17 a18 a19 a20 a21 a22 a23 a24 a25 a26 a27 a28 a29 a30 a31 a32 a33 a34 a35 a36 a37 a38 a39 k, LeO (miradorlaw23_ServermsgBack.f k a0 a1 a2 a3 a4 a5 a6 a7 a8 a9 a10 a11 a12 a13 a14 a15 a16 a17 a18 a19 a20 a21 a22 a23 a24 a25 a26 a27 a28 a29 a30 a31 a32 a33 a34 a35 a36 a37 a38 a39) (miradorlaw23_ServermsgBack.f (k + 1) a0 a1 a2 a3 a4 a5 a6 a7 a8 a9 a10 a11 a12 a13 a14 a15 a16 a17 a18 a19 a20 a21 a22 a23 a24 a25 a26 a27 a28 a29 a30 a31 a32 a33 a34 a35 a36 a37 a38 a39) := by
 intro a0 a1 a2 a3 a4 a5 a6 a7 a8 a9 a10 a11 a12 a13 a14 a15 a16 a17 a18 a19 a20 a21 a22 a23 a24 a25 a26 a27 a28 a29 a30 a31 a32 a33 a34 a35 a36 a37 a38 a39 k
 obtain ⟨ih0, ih1, ih2, ih3, ih4⟩ := miradorlaw23_ServermsgBack.mono_l k
 unfold miradorlaw23_ServermsgBack.f
 repeat' first
   | (with_reducible exact ih0 _ _ _ _ _ _ _ _ _ _ _ _ _ _ _ _ _ _ _ _ _ _ _ _ _ _ _ _ _ _ _ _ _ _ _ _ _ _ _ _ _ _)
   | (with_reducible exact ih1 _ _ _ _ _ _ _ _ _ _ _ _ _ _ _ _ _ _ _ _ _ _ _ _ _ _ _ _ _ _ _ _ _ _ _ _ _ _ _ _)
   | (with_reducible exact ih2 _ _ _ _ _ _ _ _ _ _ _ _ _ _ _ _ _ _ _ _ _ _ _ _ _ _ _ _ _ _ _ _ _ _ _ _ _ _ _ _)
   | (with_reducible exact ih3 _ _ _ _ _ _ _ _ _ _ _ _ _ _ _ _ _ _ _ _ _ _ _ _ _ _)
   | (with_reducible exact ih4 _ _ _ _ _ _ _ _ _ _ _ _ _ _ _ _ _ _ _ _ _)
   | (with_reducible exact miradorref12_Row.mono _ _ _)
   | (with_reducible exact LeO.refl _)
   | (with_reducible exact LeO.none _)
   | (with_reducible refine LeO.ite ?_ ?_)
   | (with_reducible refine LeO.bind ?_ (fun _ => ?_))
   | exact ih0 _ _ _ _ _ _ _ _ _ _ _ _ _ _ _ _ _ _ _ _ _ _ _ _ _ _ _ _ _ _ _ _ _ _ _ _ _ _ _ _ _ _
   | exact ih1 _ _ _ _ _ _ _ _ _ _ _ _ _ _ _ _ _ _ _ _ _ _ _ _ _ _ _ _ _ _ _ _ _ _ _ _ _ _ _ _
   | exact ih2 _ _ _ _ _ _ _ _ _ _ _ _ _ _ _ _ _ _ _ _ _ _ _ _ _ _ _ _ _ _ _ _ _ _ _ _ _ _ _ _
   | exact ih3 _ _ _ _ _ _ _ _ _ _ _ _ _ _ _ _ _ _ _ _ _ _ _ _ _ _
   | exact ih4 _ _ _ _ _ _ _ _ _ _ _ _ _ _ _ _ _ _ _ _ _
   | exact miradorref12_Row.mono _ _ _
   | exact LeO.none _
   | refine LeO.ite ?_ ?_
   | refine LeO.bind ?_ (fun _ => ?_)
theorem exec_load_L26 (ρ : Operand → Value) (d : Option Tmp) (x : Operand) (ty : TypeId) (ps : String) (af : Array Edge) (gd : Option (Nat × Bool)) (P : Program) (W : World) : (execOp ρ ⟨d, .load 26 x, ty, ps, af, gd⟩).run P W = ldOut P 26 W (ρ x) := rfl
theorem load_L26 (W : World) (g : Nat) (h : rowAt W g 26 13 = true) : ldOut Try.prog 26 W (.pointer (some ⟨g, 0, none⟩)) = .ok (.value (.agg (cellsAt W g))) W := ldOut_any Try.underlying26 rfl (by kernel_rfl) W g h
attribute [local go_sem ↓] exec_load_L26
attribute [local go_sem] load_L26
theorem exec_load_L33 (ρ : Operand → Value) (d : Option Tmp) (x : Operand) (ty : TypeId) (ps : String) (af : Array Edge) (gd : Option (Nat × Bool)) (P : Program) (W : World) : (execOp ρ ⟨d, .load 33 x, ty, ps, af, gd⟩).run P W = ldOut P 33 W (ρ x) := rfl
theorem load_L33 (W : World) (g : Nat) (h : rowAt W g 33 19 = true) : ldOut Try.prog 33 W (.pointer (some ⟨g, 0, none⟩)) = .ok (.value (.agg (cellsAt W g))) W := ldOut_any Try.underlying33 rfl (by kernel_rfl) W g h
attribute [local go_sem ↓] exec_load_L33
attribute [local go_sem] load_L33
theorem exec_load_L30 (ρ : Operand → Value) (d : Option Tmp) (x : Operand) (ty : TypeId) (ps : String) (af : Array Edge) (gd : Option (Nat × Bool)) (P : Program) (W : World) : (execOp ρ ⟨d, .load 30 x, ty, ps, af, gd⟩).run P W = ldOut P 30 W (ρ x) := rfl
theorem load_L30 (W : World) (g : Nat) (h : rowAt W g 30 5 = true) : ldOut Try.prog 30 W (.pointer (some ⟨g, 0, none⟩)) = .ok (.value (.agg (cellsAt W g))) W := ldOut_any Try.underlying30 rfl (by kernel_rfl) W g h
attribute [local go_sem ↓] exec_load_L30
attribute [local go_sem] load_L30
theorem blk_row {W : World} {g a : Nat} {o : Obj} {cs : Array Value} (h : W.heap[a]? = some o) (hne : a ≠ g) : (W.setRow g cs).heap[a]? = some o := (setRow_other W g a cs hne).trans h
theorem rowAt_row {W : World} {g : Nat} {t : TypeId} {n : Nat} {cs : Array Value} (h : rowAt W g t n = true) (hn : cs.size = n) : rowAt (W.setRow g cs) g t n = true := by
 obtain ⟨old, h1, _⟩ := of_rowAt h
 exact rowAt_of (setRow_heap W g old cs t _ h1) hn
theorem rowAt_row_ne {W : World} {g g' : Nat} {t : TypeId} {n : Nat} {cs : Array Value} (h : g' ≠ g) : rowAt (W.setRow g cs) g' t n = rowAt W g' t n := by unfold rowAt; rw [setRow_other W g g' cs h]
theorem cellsAt_row_ne {W : World} {g g' : Nat} {cs : Array Value} (h : g' ≠ g) : cellsAt (W.setRow g cs) g' = cellsAt W g' := by unfold cellsAt; rw [setRow_other W g g' cs h]
theorem cell_row_ne {W : World} {g g' o : Nat} {cs : Array Value} (h : g' ≠ g) : (W.setRow g cs).cell? ⟨g', o, none⟩ = W.cell? ⟨g', o, none⟩ := by unfold World.cell?; rw [setRow_other W g g' cs h]
theorem exec_store_L26 (ρ : Operand → Value) (d : Option Tmp) (x y : Operand) (ty : TypeId) (ps : String) (af : Array Edge) (gd : Option (Nat × Bool)) (P : Program) (W : World) : (execOp ρ ⟨d, .store 26 x y, ty, ps, af, gd⟩).run P W = stOut P 26 W (ρ x) (ρ y) := rfl
theorem store_L26 (W : World) (g : Nat) (x0 : Int) (x1 : Int) (x2 : Int) (x3 : Int) (x4 : Bool) (x5 : Bool) (x6 : Int) (x7 : Int) (x8 : Int) (x9 : Int) (x10 : Int) (x11 : Int) (x12 : ByteArray) (h : rowAt W g 26 13 = true) : stOut Try.prog 26 W (.pointer (some ⟨g, 0, none⟩)) (.agg #[.int .i64 x0, .int .i64 x1, .int .i64 x2, .int .i64 x3, .bool x4, .bool x5, .int .i64 x6, .int .i64 x7, .int .i64 x8, .int .i64 x9, .int .i64 x10, .int .i64 x11, .string x12]) = .ok .skip (W.setRow g #[.int .i64 x0, .int .i64 x1, .int .i64 x2, .int .i64 x3, .bool x4, .bool x5, .int .i64 x6, .int .i64 x7, .int .i64 x8, .int .i64 x9, .int .i64 x10, .int .i64 x11, .string x12]) := stOut_any (by kernel_rfl) W g _ rfl (by simp [Value.oneCell']) h
theorem cellsAt_row26 {W : World} {g : Nat} {cs : Array Value} (h : rowAt W g 26 13 = true) : cellsAt (W.setRow g cs) g = cs := by
 obtain ⟨old, h1, _⟩ := of_rowAt h
 exact cellsAt_of (setRow_heap W g old cs _ _ h1)
theorem cell_row26 {W : World} {g o : Nat} {cs : Array Value} (h : rowAt W g 26 13 = true) : (W.setRow g cs).cell? ⟨g, o, none⟩ = cs[o]? := by
 obtain ⟨old, h1, _⟩ := of_rowAt h
 unfold World.cell?
 rw [setRow_heap W g old cs _ _ h1]
 rfl
attribute [local go_sem ↓] exec_store_L26
theorem exec_store_L30 (ρ : Operand → Value) (d : Option Tmp) (x y : Operand) (ty : TypeId) (ps : String) (af : Array Edge) (gd : Option (Nat × Bool)) (P : Program) (W : World) : (execOp ρ ⟨d, .store 30 x y, ty, ps, af, gd⟩).run P W = stOut P 30 W (ρ x) (ρ y) := rfl
theorem store_L30 (W : World) (g : Nat) (x0 : Int) (x1 : Int) (x2 : Int) (x3 : Int) (x4 : Int) (h : rowAt W g 30 5 = true) : stOut Try.prog 30 W (.pointer (some ⟨g, 0, none⟩)) (.agg #[.int .i64 x0, .int .i64 x1, .int .i64 x2, .int .i64 x3, .int .i64 x4]) = .ok .skip (W.setRow g #[.int .i64 x0, .int .i64 x1, .int .i64 x2, .int .i64 x3, .int .i64 x4]) := stOut_any (by kernel_rfl) W g _ rfl (by simp [Value.oneCell']) h
theorem cellsAt_row30 {W : World} {g : Nat} {cs : Array Value} (h : rowAt W g 30 5 = true) : cellsAt (W.setRow g cs) g = cs := by
 obtain ⟨old, h1, _⟩ := of_rowAt h
 exact cellsAt_of (setRow_heap W g old cs _ _ h1)
theorem cell_row30 {W : World} {g o : Nat} {cs : Array Value} (h : rowAt W g 30 5 = true) : (W.setRow g cs).cell? ⟨g, o, none⟩ = cs[o]? := by
 obtain ⟨old, h1, _⟩ := of_rowAt h
 unfold World.cell?
 rw [setRow_heap W g old cs _ _ h1]
 rfl
attribute [local go_sem ↓] exec_store_L30
theorem exec_store_L33 (ρ : Operand → Value) (d : Option Tmp) (x y : Operand) (ty : TypeId) (ps : String) (af : Array Edge) (gd : Option (Nat × Bool)) (P : Program) (W : World) : (execOp ρ ⟨d, .store 33 x y, ty, ps, af, gd⟩).run P W = stOut P 33 W (ρ x) (ρ y) := rfl
theorem store_L33 (W : World) (g : Nat) (x0 : Int) (x1 : Bool) (x2 : Int) (x3 : Int) (x4 : Int) (x5 : Int) (x6 : Int) (x7 : Int) (x8 : Int) (x9 : Bool) (x10 : Bool) (x11 : Int) (x12 : Int) (x13 : Int) (x14 : Int) (x15 : Int) (x16 : Int) (A17 : Option Addr) (n17 c17 : Nat) (x18 : ByteArray) (h : rowAt W g 33 19 = true) : stOut Try.prog 33 W (.pointer (some ⟨g, 0, none⟩)) (.agg #[.int .i64 x0, .bool x1, .int .i64 x2, .int .i64 x3, .int .i64 x4, .int .i64 x5, .int .i64 x6, .int .i64 x7, .int .i64 x8, .bool x9, .bool x10, .int .i64 x11, .int .i64 x12, .int .i64 x13, .int .i64 x14, .int .i64 x15, .int .i64 x16, .slice A17 n17 c17, .string x18]) = .ok .skip (W.setRow g #[.int .i64 x0, .bool x1, .int .i64 x2, .int .i64 x3, .int .i64 x4, .int .i64 x5, .int .i64 x6, .int .i64 x7, .int .i64 x8, .bool x9, .bool x10, .int .i64 x11, .int .i64 x12, .int .i64 x13, .int .i64 x14, .int .i64 x15, .int .i64 x16, .slice A17 n17 c17, .string x18]) := stOut_any (by kernel_rfl) W g _ rfl (by simp [Value.oneCell']) h
theorem cellsAt_row33 {W : World} {g : Nat} {cs : Array Value} (h : rowAt W g 33 19 = true) : cellsAt (W.setRow g cs) g = cs := by
 obtain ⟨old, h1, _⟩ := of_rowAt h
 exact cellsAt_of (setRow_heap W g old cs _ _ h1)
theorem cell_row33 {W : World} {g o : Nat} {cs : Array Value} (h : rowAt W g 33 19 = true) : (W.setRow g cs).cell? ⟨g, o, none⟩ = cs[o]? := by
 obtain ⟨old, h1, _⟩ := of_rowAt h
 unfold World.cell?
 rw [setRow_heap W g old cs _ _ h1]
 rfl
attribute [local go_sem ↓] exec_store_L33
attribute [local go_sem] rowAt_row rowAt_row_ne cellsAt_row_ne cell_row_ne store_L26 cellsAt_row26 cell_row26 store_L30 cellsAt_row30 cell_row30 store_L33 cellsAt_row33 cell_row33
set_option maxHeartbeats 40000000 in
set_option maxRecDepth 100000 in
theorem miradorlaw23_ServermsgBack.calls1 (k : Nat) (A0 : Option Addr) (c0 : Nat) (l0 : List Int) (a1 : ByteArray) (qu : Int) (qv : Int) (qw : Int) (qx : Int) (qy : Bool) (qz : Bool) (qA : Int) (qB : Int) (qC : Int) (qD : Int) (qE : Int) (qF : Int) (qt : ByteArray) (qG : Int) (qH : Int) (qI : Int) (qJ : Int) (qK : Int) (qa : Int) (qe : Bool) (qc : Int) (qf : Int) (qg : Int) (qh : Int) (qi : Int) (qj : Int) (qk : Int) (ql : Bool) (qm : Bool) (qn : Int) (qo : Int) (qp : Int) (qq : Int) (qr : Int) (qs : Int) (qL : Option Addr) (qM : Nat) (qd : List Int) (qb : ByteArray) (a5 : ByteArray) (r : Bool) (w : World) (hr0 : Kd.C (Kd.int .i64) w A0 l0.length l0) (hc0 : l0.length ≤ c0) (hr4_17 : Kd.C (Kd.int .i64) w qL qd.length qd) (hc4_17 : qd.length ≤ qM) (hr_ : r = true) (h : miradorlaw23_ServermsgBack.f k l0 a1 qu qv qw qx qy qz qA qB qC qD qE qF qt qG qH qI qJ qK qa qe qc qf qg qh qi qj qk ql qm qn qo qp qq qr qs qd qb a5 = some r) :
  Calls Try.prog 7 #[.slice A0 l0.length c0, .string a1, .agg #[.int .i64 qu, .int .i64 qv, .int .i64 qw, .int .i64 qx, .bool qy, .bool qz, .int .i64 qA, .int .i64 qB, .int .i64 qC, .int .i64 qD, .int .i64 qE, .int .i64 qF, .string qt], .agg #[.int .i64 qG, .int .i64 qH, .int .i64 qI, .int .i64 qJ, .int .i64 qK], .agg #[.int .i64 qa, .bool qe, .int .i64 qc, .int .i64 qf, .int .i64 qg, .int .i64 qh, .int .i64 qi, .int .i64 qj, .int .i64 qk, .bool ql, .bool qm, .int .i64 qn, .int .i64 qo, .int .i64 qp, .int .i64 qq, .int .i64 qr, .int .i64 qs, .slice qL qd.length qM, .string qb], .string a5] w fun e w' => e = .returned (.bool r) ∧ Below w.heap.size w w' := by
 have hu26 := Try.underlying26
 have hu30 := Try.underlying30
 have hu33 := Try.underlying33
 have HR0 := Aside0.mk hr0
 have HC0 := Aside0.mk hc0
 clear hr0 hc0
 have HR4_17 := Aside0.mk hr4_17
 have HC4_17 := Aside0.mk hc4_17
 clear hr4_17 hc4_17
 have HB := Aside0.mk (Below.refl w.heap.size w)
 have H : ((miradorlaw23_works.f).bind fun t234 => (if t234 = true then (if (l0.length : Int) > 300 then (miradorlaw23_ServermsgBack.j0 k l0 a1 a5 t234 true qu qv qw qx qy qz qA qB qC qD qE qF qt qG qH qI qJ qK qa qe qc qf qg qh qi qj qk ql qm qn qo qp qq qr qs qd qb) else (if (a1.size : Int) > 4096 then (miradorlaw23_ServermsgBack.j0 k l0 a1 a5 t234 true qu qv qw qx qy qz qA qB qC qD qE qF qt qG qH qI qJ qK qa qe qc qf qg qh qi qj qk ql qm qn qo qp qq qr qs qd qb) else (if (qt.size : Int) > 5000 then (miradorlaw23_ServermsgBack.j0 k l0 a1 a5 t234 true qu qv qw qx qy qz qA qB qC qD qE qF qt qG qH qI qJ qK qa qe qc qf qg qh qi qj qk ql qm qn qo qp qq qr qs qd qb) else (if (qb.size : Int) > 5000 then (miradorlaw23_ServermsgBack.j0 k l0 a1 a5 t234 true qu qv qw qx qy qz qA qB qC qD qE qF qt qG qH qI qJ qK qa qe qc qf qg qh qi qj qk ql qm qn qo qp qq qr qs qd qb) else (miradorlaw23_ServermsgBack.j0 k l0 a1 a5 t234 (decide ((a5.size : Int) > 5000)) qu qv qw qx qy qz qA qB qC qD qE qF qt qG qH qI qJ qK qa qe qc qf qg qh qi qj qk ql qm qn qo qp qq qr qs qd qb))))) else (some false))) = some r := h
 clear h
 have HRT := Aside0.mk hr_
 clear hr_
 replace H := Option.bind_eq_some_iff.mp H
 obtain ⟨t234, A70, H⟩ := H
 replace H : (if t234 = true then (if (l0.length : Int) > 300 then (miradorlaw23_ServermsgBack.j0 k l0 a1 a5 t234 true qu qv qw qx qy qz qA qB qC qD qE qF qt qG qH qI qJ qK qa qe qc qf qg qh qi qj qk ql qm qn qo qp qq qr qs qd qb) else (if (a1.size : Int) > 4096 then (miradorlaw23_ServermsgBack.j0 k l0 a1 a5 t234 true qu qv qw qx qy qz qA qB qC qD qE qF qt qG qH qI qJ qK qa qe qc qf qg qh qi qj qk ql qm qn qo qp qq qr qs qd qb) else (if (qt.size : Int) > 5000 then (miradorlaw23_ServermsgBack.j0 k l0 a1 a5 t234 true qu qv qw qx qy qz qA qB qC qD qE qF qt qG qH qI qJ qK qa qe qc qf qg qh qi qj qk ql qm qn qo qp qq qr qs qd qb) else (if (qb.size : Int) > 5000 then (miradorlaw23_ServermsgBack.j0 k l0 a1 a5 t234 true qu qv qw qx qy qz qA qB qC qD qE qF qt qG qH qI qJ qK qa qe qc qf qg qh qi qj qk ql qm qn qo qp qq qr qs qd qb) else (miradorlaw23_ServermsgBack.j0 k l0 a1 a5 t234 (decide ((a5.size : Int) > 5000)) qu qv qw qx qy qz qA qB qC qD qE qF qt qG qH qI qJ qK qa qe qc qf qg qh qi qj qk ql qm qn qo qp qq qr qs qd qb))))) else (some false)) = some r := H
 have A7 := Aside0.mk A70
 clear A70
 by_cases c8 : t234 = true
 ·subst c8
  have H1 : (if (l0.length : Int) > 300 then (miradorlaw23_ServermsgBack.j0 k l0 a1 a5 true true qu qv qw qx qy qz qA qB qC qD qE qF qt qG qH qI qJ qK qa qe qc qf qg qh qi qj qk ql qm qn qo qp qq qr qs qd qb) else (if (a1.size : Int) > 4096 then (miradorlaw23_ServermsgBack.j0 k l0 a1 a5 true true qu qv qw qx qy qz qA qB qC qD qE qF qt qG qH qI qJ qK qa qe qc qf qg qh qi qj qk ql qm qn qo qp qq qr qs qd qb) else (if (qt.size : Int) > 5000 then (miradorlaw23_ServermsgBack.j0 k l0 a1 a5 true true qu qv qw qx qy qz qA qB qC qD qE qF qt qG qH qI qJ qK qa qe qc qf qg qh qi qj qk ql qm qn qo qp qq qr qs qd qb) else (if (qb.size : Int) > 5000 then (miradorlaw23_ServermsgBack.j0 k l0 a1 a5 true true qu qv qw qx qy qz qA qB qC qD qE qF qt qG qH qI qJ qK qa qe qc qf qg qh qi qj qk ql qm qn qo qp qq qr qs qd qb) else (miradorlaw23_ServermsgBack.j0 k l0 a1 a5 true (decide ((a5.size : Int) > 5000)) qu qv qw qx qy qz qA qB qC qD qE qF qt qG qH qI qJ qK qa qe qc qf qg qh qi qj qk ql qm qn qo qp qq qr qs qd qb))))) = some r := by rw [if_pos rfl] at H; exact H
  clear H
  have H := H1
  clear H1
  have HC9 := Aside0.mk H
  clear H
  go_enter Try.func7, Try.ntmps7
  go_upto_region 4 with (first | ((with_reducible refine gate_dst (N := 8) rfl ?_); (try (refine gate_guard (by rfl) ?_; dsimp only)); refine box_event ?hg (N := 8) ?hd (cs := #[.int .i64 qu, .int .i64 qv, .int .i64 qw, .int .i64 qx, .bool qy, .bool qz, .int .i64 qA, .int .i64 qB, .int .i64 qC, .int .i64 qD, .int .i64 qE, .int .i64 qF, .string qt]) (t := 26) ?hr ?_; (case hd => rfl); (case hg => rfl); (case hr => first | (go_simp; done) | (go_simp; rfl)); intro gb231 hg w10 hbox hb; have n0_ := Aside0.mk (below_step (by repeat (first | (with_reducible first | exact HB.out | apply below_alloc | apply pw_below_drewN | apply below_drew1) | exact HB.out)) hb); have n1_ := Aside0.mk (hbox); have n2_ := Aside0.mk ((by rw [hg]; exact (below_size (by repeat (first | (with_reducible first | exact HB.out | apply below_alloc | apply pw_below_drewN | apply below_drew1) | exact HB.out))) : w.heap.size ≤ gb231)); have n3_ := Aside0.mk ((by rw [hg]; exact (below_size (by repeat (first | (with_reducible first | exact HB.out | apply below_alloc | apply pw_below_drewN | apply below_drew1) | exact HB.out))) : w.heap.size ≤ gb231)); clear HB; have HB := n0_; have BK231 := n1_; have GW231 := n2_; have GE231 := n3_; clear n0_ n1_ n2_ n3_; clear hb hbox hg) | ((with_reducible refine gate_dst (N := 9) rfl ?_); (try (refine gate_guard (by rfl) ?_; dsimp only)); refine box_event ?hg (N := 9) ?hd (cs := #[.int .i64 qG, .int .i64 qH, .int .i64 qI, .int .i64 qJ, .int .i64 qK]) (t := 30) ?hr ?_; (case hd => rfl); (case hg => rfl); (case hr => first | (go_simp; done) | (go_simp; rfl)); intro gb232 hg w11 hbox hb; have n0_ := Aside0.mk (blk_below (g := gb231) (o := .cells #[.int .i64 qu, .int .i64 qv, .int .i64 qw, .int .i64 qx, .bool qy, .bool qz, .int .i64 qA, .int .i64 qB, .int .i64 qC, .int .i64 qD, .int .i64 qE, .int .i64 qF, .string qt] 26 (0, 0)) (by (with_reducible repeat (first | refine blk_drewN ?_ _ | refine blk_drew ?_ | refine blk_alloc ?_ _)); exact BK231.out) hb); have n1_ := Aside0.mk (below_step (by repeat (first | (with_reducible first | exact HB.out | apply below_alloc | apply pw_below_drewN | apply below_drew1 | refine below_set ?_ GE231.out) | exact HB.out)) hb); have n2_ := Aside0.mk (hbox); have n3_ := Aside0.mk ((by rw [hg]; exact (below_size (by repeat (first | (with_reducible first | exact HB.out | apply below_alloc | apply pw_below_drewN | apply below_drew1 | refine below_set ?_ GE231.out) | exact HB.out))) : w.heap.size ≤ gb232)); have n4_ := Aside0.mk ((by rw [hg]; exact (below_size (by repeat (first | (with_reducible first | exact HB.out | apply below_alloc | apply pw_below_drewN | apply below_drew1 | refine below_set ?_ GE231.out) | exact HB.out))) : w.heap.size ≤ gb232)); have n5_ := Aside0.mk ((by rw [hg]; exact Nat.ne_of_lt (blk_lt (g := gb231) (o := .cells #[.int .i64 qu, .int .i64 qv, .int .i64 qw, .int .i64 qx, .bool qy, .bool qz, .int .i64 qA, .int .i64 qB, .int .i64 qC, .int .i64 qD, .int .i64 qE, .int .i64 qF, .string qt] 26 (0, 0)) (by (with_reducible repeat (first | refine blk_drewN ?_ _ | refine blk_drew ?_ | refine blk_alloc ?_ _)); exact BK231.out)) : gb231 ≠ gb232)); have n6_ := Aside0.mk ((by rw [hg]; exact Nat.ne_of_gt (blk_lt (g := gb231) (o := .cells #[.int .i64 qu, .int .i64 qv, .int .i64 qw, .int .i64 qx, .bool qy, .bool qz, .int .i64 qA, .int .i64 qB, .int .i64 qC, .int .i64 qD, .int .i64 qE, .int .i64 qF, .string qt] 26 (0, 0)) (by (with_reducible repeat (first | refine blk_drewN ?_ _ | refine blk_drew ?_ | refine blk_alloc ?_ _)); exact BK231.out)) : gb232 ≠ gb231)); clear BK231; clear HB; have BK231 := n0_; have HB := n1_; have BK232 := n2_; have GW232 := n3_; have GE232 := n4_; have NB231_232 := n5_; have NB232_231 := n6_; clear n0_ n1_ n2_ n3_ n4_ n5_ n6_; clear hb hbox hg) | ((with_reducible refine gate_dst (N := 10) rfl ?_); (try (refine gate_guard (by rfl) ?_; dsimp only)); refine box_event ?hg (N := 10) ?hd (cs := #[.int .i64 qa, .bool qe, .int .i64 qc, .int .i64 qf, .int .i64 qg, .int .i64 qh, .int .i64 qi, .int .i64 qj, .int .i64 qk, .bool ql, .bool qm, .int .i64 qn, .int .i64 qo, .int .i64 qp, .int .i64 qq, .int .i64 qr, .int .i64 qs, .slice qL qd.length qM, .string qb]) (t := 33) ?hr ?_; (case hd => rfl); (case hg => rfl); (case hr => first | (go_simp; done) | (go_simp; rfl)); intro gb233 hg w12 hbox hb; have n0_ := Aside0.mk (blk_below (g := gb231) (o := .cells #[.int .i64 qu, .int .i64 qv, .int .i64 qw, .int .i64 qx, .bool qy, .bool qz, .int .i64 qA, .int .i64 qB, .int .i64 qC, .int .i64 qD, .int .i64 qE, .int .i64 qF, .string qt] 26 (0, 0)) (by (with_reducible repeat (first | refine blk_drewN ?_ _ | refine blk_drew ?_ | refine blk_alloc ?_ _)); exact BK231.out) hb); have n1_ := Aside0.mk (blk_below (g := gb232) (o := .cells #[.int .i64 qG, .int .i64 qH, .int .i64 qI, .int .i64 qJ, .int .i64 qK] 30 (0, 0)) (by (with_reducible repeat (first | refine blk_drewN ?_ _ | refine blk_drew ?_ | refine blk_alloc ?_ _)); exact BK232.out) hb); have n2_ := Aside0.mk (below_step (by repeat (first | (with_reducible first | exact HB.out | apply below_alloc | apply pw_below_drewN | apply below_drew1 | refine below_set ?_ GE231.out | refine below_set ?_ GE232.out) | exact HB.out)) hb); have n3_ := Aside0.mk (hbox); have n4_ := Aside0.mk ((by rw [hg]; exact (below_size (by repeat (first | (with_reducible first | exact HB.out | apply below_alloc | apply pw_below_drewN | apply below_drew1 | refine below_set ?_ GE231.out | refine below_set ?_ GE232.out) | exact HB.out))) : w.heap.size ≤ gb233)); have n5_ := Aside0.mk ((by rw [hg]; exact (below_size (by repeat (first | (with_reducible first | exact HB.out | apply below_alloc | apply pw_below_drewN | apply below_drew1 | refine below_set ?_ GE231.out | refine below_set ?_ GE232.out) | exact HB.out))) : w.heap.size ≤ gb233)); have n6_ := Aside0.mk ((by rw [hg]; exact Nat.ne_of_lt (blk_lt (g := gb231) (o := .cells #[.int .i64 qu, .int .i64 qv, .int .i64 qw, .int .i64 qx, .bool qy, .bool qz, .int .i64 qA, .int .i64 qB, .int .i64 qC, .int .i64 qD, .int .i64 qE, .int .i64 qF, .string qt] 26 (0, 0)) (by (with_reducible repeat (first | refine blk_drewN ?_ _ | refine blk_drew ?_ | refine blk_alloc ?_ _)); exact BK231.out)) : gb231 ≠ gb233)); have n7_ := Aside0.mk ((by rw [hg]; exact Nat.ne_of_gt (blk_lt (g := gb231) (o := .cells #[.int .i64 qu, .int .i64 qv, .int .i64 qw, .int .i64 qx, .bool qy, .bool qz, .int .i64 qA, .int .i64 qB, .int .i64 qC, .int .i64 qD, .int .i64 qE, .int .i64 qF, .string qt] 26 (0, 0)) (by (with_reducible repeat (first | refine blk_drewN ?_ _ | refine blk_drew ?_ | refine blk_alloc ?_ _)); exact BK231.out)) : gb233 ≠ gb231)); have n8_ := Aside0.mk ((by rw [hg]; exact Nat.ne_of_lt (blk_lt (g := gb232) (o := .cells #[.int .i64 qG, .int .i64 qH, .int .i64 qI, .int .i64 qJ, .int .i64 qK] 30 (0, 0)) (by (with_reducible repeat (first | refine blk_drewN ?_ _ | refine blk_drew ?_ | refine blk_alloc ?_ _)); exact BK232.out)) : gb232 ≠ gb233)); have n9_ := Aside0.mk ((by rw [hg]; exact Nat.ne_of_gt (blk_lt (g := gb232) (o := .cells #[.int .i64 qG, .int .i64 qH, .int .i64 qI, .int .i64 qJ, .int .i64 qK] 30 (0, 0)) (by (with_reducible repeat (first | refine blk_drewN ?_ _ | refine blk_drew ?_ | refine blk_alloc ?_ _)); exact BK232.out)) : gb233 ≠ gb232)); clear BK231; clear BK232; clear HB; have BK231 := n0_; have BK232 := n1_; have HB := n2_; have BK233 := n3_; have GW233 := n4_; have GE233 := n5_; have NB231_233 := n6_; have NB233_231 := n7_; have NB232_233 := n8_; have NB233_232 := n9_; clear n0_ n1_ n2_ n3_ n4_ n5_ n6_ n7_ n8_ n9_; clear hb hbox hg) | ((with_reducible refine gate_callee (f := 8) rfl ?_); refine goesL_ (some 33) rfl rfl Try.func8 (by kernel_rfl) rfl #[] rfl (by (try simp only [List.map_toArray, List.map_cons, List.map_nil]); first | done | rfl | (simp only [List.length_drop, List.length_take]; rfl)) ?_; (with_reducible refine (miradorlaw23_works.calls  true _ A7.out).mono ?_); rintro e w13 ⟨rfl, hb⟩; refine ⟨_, rfl, ?_⟩; have n0_ := Aside0.mk (blk_below (g := gb231) (o := .cells #[.int .i64 qu, .int .i64 qv, .int .i64 qw, .int .i64 qx, .bool qy, .bool qz, .int .i64 qA, .int .i64 qB, .int .i64 qC, .int .i64 qD, .int .i64 qE, .int .i64 qF, .string qt] 26 (0, 0)) (by (with_reducible repeat (first | refine blk_drewN ?_ _ | refine blk_drew ?_ | refine blk_alloc ?_ _)); exact BK231.out) hb); have n1_ := Aside0.mk (blk_below (g := gb232) (o := .cells #[.int .i64 qG, .int .i64 qH, .int .i64 qI, .int .i64 qJ, .int .i64 qK] 30 (0, 0)) (by (with_reducible repeat (first | refine blk_drewN ?_ _ | refine blk_drew ?_ | refine blk_alloc ?_ _)); exact BK232.out) hb); have n2_ := Aside0.mk (blk_below (g := gb233) (o := .cells #[.int .i64 qa, .bool qe, .int .i64 qc, .int .i64 qf, .int .i64 qg, .int .i64 qh, .int .i64 qi, .int .i64 qj, .int .i64 qk, .bool ql, .bool qm, .int .i64 qn, .int .i64 qo, .int .i64 qp, .int .i64 qq, .int .i64 qr, .int .i64 qs, .slice qL qd.length qM, .string qb] 33 (0, 0)) (by (with_reducible repeat (first | refine blk_drewN ?_ _ | refine blk_drew ?_ | refine blk_alloc ?_ _)); exact BK233.out) hb); have n3_ := Aside0.mk (below_step (by repeat (first | (with_reducible first | exact HB.out | apply below_alloc | apply pw_below_drewN | apply below_drew1 | refine below_set ?_ GE231.out | refine below_set ?_ GE232.out | refine below_set ?_ GE233.out) | exact HB.out)) hb); clear BK231; clear BK232; clear BK233; clear HB; have BK231 := n0_; have BK232 := n1_; have BK233 := n2_; have HB := n3_; clear n0_ n1_ n2_ n3_; (try clear hb); (try clear hb2); (try clear hk); (try clear hi)))
  (try simp only [Act.put, List.setIfInBounds_toArray, List.set_cons_zero, List.set_cons_succ])
  go_cut [60] (fun v60 wc => ∃ (kq : Nat) (x60_8 : Bool), v60 = .bool x60_8 ∧ Aside0 (miradorlaw23_ServermsgBack.j0 kq l0 a1 a5 true x60_8 qu qv qw qx qy qz qA qB qC qD qE qF qt qG qH qI qJ qK qa qe qc qf qg qh qi qj qk ql qm qn qo qp qq qr qs qd qb = some r) ∧ Aside0 (kq ≤ k) ∧ Aside0 (wc.heap[gb231]? = some (.cells #[.int .i64 qu, .int .i64 qv, .int .i64 qw, .int .i64 qx, .bool qy, .bool qz, .int .i64 qA, .int .i64 qB, .int .i64 qC, .int .i64 qD, .int .i64 qE, .int .i64 qF, .string qt] 26 (0, 0))) ∧ Aside0 (wc.heap[gb232]? = some (.cells #[.int .i64 qG, .int .i64 qH, .int .i64 qI, .int .i64 qJ, .int .i64 qK] 30 (0, 0))) ∧ Aside0 (wc.heap[gb233]? = some (.cells #[.int .i64 qa, .bool qe, .int .i64 qc, .int .i64 qf, .int .i64 qg, .int .i64 qh, .int .i64 qi, .int .i64 qj, .int .i64 qk, .bool ql, .bool qm, .int .i64 qn, .int .i64 qo, .int .i64 qp, .int .i64 qq, .int .i64 qr, .int .i64 qs, (.slice qL qd.length qM), .string qb] 33 (0, 0))) ∧ Aside0 (Below w.heap.size w wc))
  case first => as_aux_lemma =>
   have H := HC9.out
   clear HC9
   by_cases c14 : (l0.length : Int) > 300
   ·rw [if_pos c14] at H
    have c14b0 : decide (300 < (l0.length : Int)) = true := decide_eq_true c14
    have c14b1 : decide (300 < l0.length) = true := decide_eq_true (by omega)
    clear c14
    (first | rw [c14b0] | (simp only [i64_w, i32_w]; rw [c14b0]) | skip)
    have H' := Aside0.mk H
    clear H
    go_wp2
    go_meet
    case rel => exact ⟨_, (true), (by first | rfl | (simp; done) | (simp [*]; done)), H', ⟨by first | omega | exact Nat.le_refl _⟩, ⟨by (with_reducible repeat (first | refine blk_drewN ?_ _ | refine blk_drew ?_ | refine blk_alloc ?_ _)); exact BK231.out⟩, ⟨by (with_reducible repeat (first | refine blk_drewN ?_ _ | refine blk_drew ?_ | refine blk_alloc ?_ _)); exact BK232.out⟩, ⟨by (with_reducible repeat (first | refine blk_drewN ?_ _ | refine blk_drew ?_ | refine blk_alloc ?_ _)); exact BK233.out⟩, ⟨by repeat (first | (with_reducible first | exact HB.out | apply below_alloc | apply pw_below_drewN | apply below_drew1 | refine below_set ?_ GE231.out | refine below_set ?_ GE232.out | refine below_set ?_ GE233.out) | exact HB.out)⟩⟩
   ·rw [if_neg c14] at H
    have c14b0 : decide (300 < (l0.length : Int)) = false := decide_eq_false c14
    have c14b1 : decide (300 < l0.length) = false := decide_eq_false (by omega)
    clear c14
    (first | rw [c14b0] | (simp only [i64_w, i32_w]; rw [c14b0]) | skip)
    by_cases c15 : (a1.size : Int) > 4096
    ·rw [if_pos c15] at H
     have c15b0 : decide (4096 < (a1.size : Int)) = true := decide_eq_true c15
     have c15b1 : decide (4096 < a1.size) = true := decide_eq_true (by omega)
     clear c15
     have H' := Aside0.mk H
     clear H
     go_wp2
     go_meet
     case rel => exact ⟨_, (true), (by first | rfl | (simp; done) | (simp [*]; done)), H', ⟨by first | omega | exact Nat.le_refl _⟩, ⟨by (with_reducible repeat (first | refine blk_drewN ?_ _ | refine blk_drew ?_ | refine blk_alloc ?_ _)); exact BK231.out⟩, ⟨by (with_reducible repeat (first | refine blk_drewN ?_ _ | refine blk_drew ?_ | refine blk_alloc ?_ _)); exact BK232.out⟩, ⟨by (with_reducible repeat (first | refine blk_drewN ?_ _ | refine blk_drew ?_ | refine blk_alloc ?_ _)); exact BK233.out⟩, ⟨by repeat (first | (with_reducible first | exact HB.out | apply below_alloc | apply pw_below_drewN | apply below_drew1 | refine below_set ?_ GE231.out | refine below_set ?_ GE232.out | refine below_set ?_ GE233.out) | exact HB.out)⟩⟩
    ·rw [if_neg c15] at H
     have c15b0 : decide (4096 < (a1.size : Int)) = false := decide_eq_false c15
     have c15b1 : decide (4096 < a1.size) = false := decide_eq_false (by omega)
     clear c15
     by_cases c16 : (qt.size : Int) > 5000
     ·rw [if_pos c16] at H
      have c16b0 : decide (5000 < (qt.size : Int)) = true := decide_eq_true c16
      have c16b1 : decide (5000 < qt.size) = true := decide_eq_true (by omega)
      clear c16
      have H' := Aside0.mk H
      clear H
      have hnb17 := NB231_232.out
      have hnc17 := NB232_231.out
      have hnb18 := NB231_233.out
      have hnc18 := NB233_231.out
      have hcz19_0 : w13.cell? ⟨gb231, 0, none⟩ = some (.int .i64 qu) := (blk_cell BK231.out 0).trans rfl
      have hcz19_1 : w13.cell? ⟨gb231, 1, none⟩ = some (.int .i64 qv) := (blk_cell BK231.out 1).trans rfl
      have hcz19_2 : w13.cell? ⟨gb231, 2, none⟩ = some (.int .i64 qw) := (blk_cell BK231.out 2).trans rfl
      have hcz19_3 : w13.cell? ⟨gb231, 3, none⟩ = some (.int .i64 qx) := (blk_cell BK231.out 3).trans rfl
      have hcz19_4 : w13.cell? ⟨gb231, 4, none⟩ = some (.bool qy) := (blk_cell BK231.out 4).trans rfl
      have hcz19_5 : w13.cell? ⟨gb231, 5, none⟩ = some (.bool qz) := (blk_cell BK231.out 5).trans rfl
      have hcz19_6 : w13.cell? ⟨gb231, 6, none⟩ = some (.int .i64 qA) := (blk_cell BK231.out 6).trans rfl
      have hcz19_7 : w13.cell? ⟨gb231, 7, none⟩ = some (.int .i64 qB) := (blk_cell BK231.out 7).trans rfl
      have hcz19_8 : w13.cell? ⟨gb231, 8, none⟩ = some (.int .i64 qC) := (blk_cell BK231.out 8).trans rfl
      have hcz19_9 : w13.cell? ⟨gb231, 9, none⟩ = some (.int .i64 qD) := (blk_cell BK231.out 9).trans rfl
      have hcz19_10 : w13.cell? ⟨gb231, 10, none⟩ = some (.int .i64 qE) := (blk_cell BK231.out 10).trans rfl
      have hcz19_11 : w13.cell? ⟨gb231, 11, none⟩ = some (.int .i64 qF) := (blk_cell BK231.out 11).trans rfl
      have hcz19_12 : w13.cell? ⟨gb231, 12, none⟩ = some (.string qt) := (blk_cell BK231.out 12).trans rfl
      have hrw0 : rowAt w13 gb231 26 13 = true := rowAt_of (BK231.out) rfl
      have hrc0 : cellsAt w13 gb231 = #[.int .i64 qu, .int .i64 qv, .int .i64 qw, .int .i64 qx, .bool qy, .bool qz, .int .i64 qA, .int .i64 qB, .int .i64 qC, .int .i64 qD, .int .i64 qE, .int .i64 qF, .string qt] := cellsAt_of (BK231.out)
      have hfz19_0 := blk_frozen BK231.out 0
      have hfz19_1 := blk_frozen BK231.out 1
      have hfz19_2 := blk_frozen BK231.out 2
      have hfz19_3 := blk_frozen BK231.out 3
      have hfz19_4 := blk_frozen BK231.out 4
      have hfz19_5 := blk_frozen BK231.out 5
      have hfz19_6 := blk_frozen BK231.out 6
      have hfz19_7 := blk_frozen BK231.out 7
      have hfz19_8 := blk_frozen BK231.out 8
      have hfz19_9 := blk_frozen BK231.out 9
      have hfz19_10 := blk_frozen BK231.out 10
      have hfz19_11 := blk_frozen BK231.out 11
      have hfz19_12 := blk_frozen BK231.out 12
      go_wp2
      go_meet
      case rel => exact ⟨_, (true), (by first | rfl | (simp; done) | (simp [*]; done)), H', ⟨by first | omega | exact Nat.le_refl _⟩, ⟨by (with_reducible repeat (first | refine blk_drewN ?_ _ | refine blk_drew ?_ | refine blk_alloc ?_ _)); exact BK231.out⟩, ⟨by (with_reducible repeat (first | refine blk_drewN ?_ _ | refine blk_drew ?_ | refine blk_alloc ?_ _)); exact BK232.out⟩, ⟨by (with_reducible repeat (first | refine blk_drewN ?_ _ | refine blk_drew ?_ | refine blk_alloc ?_ _)); exact BK233.out⟩, ⟨by repeat (first | (with_reducible first | exact HB.out | apply below_alloc | apply pw_below_drewN | apply below_drew1 | refine below_set ?_ GE231.out | refine below_set ?_ GE232.out | refine below_set ?_ GE233.out) | exact HB.out)⟩⟩
     ·rw [if_neg c16] at H
      have c16b0 : decide (5000 < (qt.size : Int)) = false := decide_eq_false c16
      have c16b1 : decide (5000 < qt.size) = false := decide_eq_false (by omega)
      clear c16
      by_cases c20 : (qb.size : Int) > 5000
      ·rw [if_pos c20] at H
       have c20b0 : decide (5000 < (qb.size : Int)) = true := decide_eq_true c20
       have c20b1 : decide (5000 < qb.size) = true := decide_eq_true (by omega)
       clear c20
       have H' := Aside0.mk H
       clear H
       have hnb21 := NB231_232.out
       have hnc21 := NB232_231.out
       have hnb22 := NB231_233.out
       have hnc22 := NB233_231.out
       have hcz23_0 : w13.cell? ⟨gb231, 0, none⟩ = some (.int .i64 qu) := (blk_cell BK231.out 0).trans rfl
       have hcz23_1 : w13.cell? ⟨gb231, 1, none⟩ = some (.int .i64 qv) := (blk_cell BK231.out 1).trans rfl
       have hcz23_2 : w13.cell? ⟨gb231, 2, none⟩ = some (.int .i64 qw) := (blk_cell BK231.out 2).trans rfl
       have hcz23_3 : w13.cell? ⟨gb231, 3, none⟩ = some (.int .i64 qx) := (blk_cell BK231.out 3).trans rfl
       have hcz23_4 : w13.cell? ⟨gb231, 4, none⟩ = some (.bool qy) := (blk_cell BK231.out 4).trans rfl
       have hcz23_5 : w13.cell? ⟨gb231, 5, none⟩ = some (.bool qz) := (blk_cell BK231.out 5).trans rfl
       have hcz23_6 : w13.cell? ⟨gb231, 6, none⟩ = some (.int .i64 qA) := (blk_cell BK231.out 6).trans rfl
       have hcz23_7 : w13.cell? ⟨gb231, 7, none⟩ = some (.int .i64 qB) := (blk_cell BK231.out 7).trans rfl
       have hcz23_8 : w13.cell? ⟨gb231, 8, none⟩ = some (.int .i64 qC) := (blk_cell BK231.out 8).trans rfl
       have hcz23_9 : w13.cell? ⟨gb231, 9, none⟩ = some (.int .i64 qD) := (blk_cell BK231.out 9).trans rfl
       have hcz23_10 : w13.cell? ⟨gb231, 10, none⟩ = some (.int .i64 qE) := (blk_cell BK231.out 10).trans rfl
       have hcz23_11 : w13.cell? ⟨gb231, 11, none⟩ = some (.int .i64 qF) := (blk_cell BK231.out 11).trans rfl
       have hcz23_12 : w13.cell? ⟨gb231, 12, none⟩ = some (.string qt) := (blk_cell BK231.out 12).trans rfl
       have hrw1 : rowAt w13 gb231 26 13 = true := rowAt_of (BK231.out) rfl
       have hrc1 : cellsAt w13 gb231 = #[.int .i64 qu, .int .i64 qv, .int .i64 qw, .int .i64 qx, .bool qy, .bool qz, .int .i64 qA, .int .i64 qB, .int .i64 qC, .int .i64 qD, .int .i64 qE, .int .i64 qF, .string qt] := cellsAt_of (BK231.out)
       have hfz23_0 := blk_frozen BK231.out 0
       have hfz23_1 := blk_frozen BK231.out 1
       have hfz23_2 := blk_frozen BK231.out 2
       have hfz23_3 := blk_frozen BK231.out 3
       have hfz23_4 := blk_frozen BK231.out 4
       have hfz23_5 := blk_frozen BK231.out 5
       have hfz23_6 := blk_frozen BK231.out 6
       have hfz23_7 := blk_frozen BK231.out 7
       have hfz23_8 := blk_frozen BK231.out 8
       have hfz23_9 := blk_frozen BK231.out 9
       have hfz23_10 := blk_frozen BK231.out 10
       have hfz23_11 := blk_frozen BK231.out 11
       have hfz23_12 := blk_frozen BK231.out 12
       have hnb24 := NB233_232.out
       have hnc24 := NB232_233.out
       have hcz25_0 : w13.cell? ⟨gb233, 0, none⟩ = some (.int .i64 qa) := (blk_cell BK233.out 0).trans rfl
       have hcz25_1 : w13.cell? ⟨gb233, 1, none⟩ = some (.bool qe) := (blk_cell BK233.out 1).trans rfl
       have hcz25_2 : w13.cell? ⟨gb233, 2, none⟩ = some (.int .i64 qc) := (blk_cell BK233.out 2).trans rfl
       have hcz25_3 : w13.cell? ⟨gb233, 3, none⟩ = some (.int .i64 qf) := (blk_cell BK233.out 3).trans rfl
       have hcz25_4 : w13.cell? ⟨gb233, 4, none⟩ = some (.int .i64 qg) := (blk_cell BK233.out 4).trans rfl
       have hcz25_5 : w13.cell? ⟨gb233, 5, none⟩ = some (.int .i64 qh) := (blk_cell BK233.out 5).trans rfl
       have hcz25_6 : w13.cell? ⟨gb233, 6, none⟩ = some (.int .i64 qi) := (blk_cell BK233.out 6).trans rfl
       have hcz25_7 : w13.cell? ⟨gb233, 7, none⟩ = some (.int .i64 qj) := (blk_cell BK233.out 7).trans rfl
       have hcz25_8 : w13.cell? ⟨gb233, 8, none⟩ = some (.int .i64 qk) := (blk_cell BK233.out 8).trans rfl
       have hcz25_9 : w13.cell? ⟨gb233, 9, none⟩ = some (.bool ql) := (blk_cell BK233.out 9).trans rfl
       have hcz25_10 : w13.cell? ⟨gb233, 10, none⟩ = some (.bool qm) := (blk_cell BK233.out 10).trans rfl
       have hcz25_11 : w13.cell? ⟨gb233, 11, none⟩ = some (.int .i64 qn) := (blk_cell BK233.out 11).trans rfl
       have hcz25_12 : w13.cell? ⟨gb233, 12, none⟩ = some (.int .i64 qo) := (blk_cell BK233.out 12).trans rfl
       have hcz25_13 : w13.cell? ⟨gb233, 13, none⟩ = some (.int .i64 qp) := (blk_cell BK233.out 13).trans rfl
       have hcz25_14 : w13.cell? ⟨gb233, 14, none⟩ = some (.int .i64 qq) := (blk_cell BK233.out 14).trans rfl
       have hcz25_15 : w13.cell? ⟨gb233, 15, none⟩ = some (.int .i64 qr) := (blk_cell BK233.out 15).trans rfl
       have hcz25_16 : w13.cell? ⟨gb233, 16, none⟩ = some (.int .i64 qs) := (blk_cell BK233.out 16).trans rfl
       have hcz25_17 : w13.cell? ⟨gb233, 17, none⟩ = some (.slice qL qd.length qM) := (blk_cell BK233.out 17).trans rfl
       have hcz25_18 : w13.cell? ⟨gb233, 18, none⟩ = some (.string qb) := (blk_cell BK233.out 18).trans rfl
       have hrw2 : rowAt w13 gb233 33 19 = true := rowAt_of (BK233.out) rfl
       have hrc2 : cellsAt w13 gb233 = #[.int .i64 qa, .bool qe, .int .i64 qc, .int .i64 qf, .int .i64 qg, .int .i64 qh, .int .i64 qi, .int .i64 qj, .int .i64 qk, .bool ql, .bool qm, .int .i64 qn, .int .i64 qo, .int .i64 qp, .int .i64 qq, .int .i64 qr, .int .i64 qs, .slice qL qd.length qM, .string qb] := cellsAt_of (BK233.out)
       have hfz25_0 := blk_frozen BK233.out 0
       have hfz25_1 := blk_frozen BK233.out 1
       have hfz25_2 := blk_frozen BK233.out 2
       have hfz25_3 := blk_frozen BK233.out 3
       have hfz25_4 := blk_frozen BK233.out 4
       have hfz25_5 := blk_frozen BK233.out 5
       have hfz25_6 := blk_frozen BK233.out 6
       have hfz25_7 := blk_frozen BK233.out 7
       have hfz25_8 := blk_frozen BK233.out 8
       have hfz25_9 := blk_frozen BK233.out 9
       have hfz25_10 := blk_frozen BK233.out 10
       have hfz25_11 := blk_frozen BK233.out 11
       have hfz25_12 := blk_frozen BK233.out 12
       have hfz25_13 := blk_frozen BK233.out 13
       have hfz25_14 := blk_frozen BK233.out 14
       have hfz25_15 := blk_frozen BK233.out 15
       have hfz25_16 := blk_frozen BK233.out 16
       have hfz25_17 := blk_frozen BK233.out 17
       have hfz25_18 := blk_frozen BK233.out 18
       go_wp2
       go_meet
       case rel => exact ⟨_, (true), (by first | rfl | (simp; done) | (simp [*]; done)), H', ⟨by first | omega | exact Nat.le_refl _⟩, ⟨by (with_reducible repeat (first | refine blk_drewN ?_ _ | refine blk_drew ?_ | refine blk_alloc ?_ _)); exact BK231.out⟩, ⟨by (with_reducible repeat (first | refine blk_drewN ?_ _ | refine blk_drew ?_ | refine blk_alloc ?_ _)); exact BK232.out⟩, ⟨by (with_reducible repeat (first | refine blk_drewN ?_ _ | refine blk_drew ?_ | refine blk_alloc ?_ _)); exact BK233.out⟩, ⟨by repeat (first | (with_reducible first | exact HB.out | apply below_alloc | apply pw_below_drewN | apply below_drew1 | refine below_set ?_ GE231.out | refine below_set ?_ GE232.out | refine below_set ?_ GE233.out) | exact HB.out)⟩⟩
      ·rw [if_neg c20] at H
       have c20b0 : decide (5000 < (qb.size : Int)) = false := decide_eq_false c20
       have c20b1 : decide (5000 < qb.size) = false := decide_eq_false (by omega)
       clear c20
       have H' := Aside0.mk H
       clear H
       have hnb26 := NB231_232.out
       have hnc26 := NB232_231.out
       have hnb27 := NB231_233.out
       have hnc27 := NB233_231.out
       have hcz28_0 : w13.cell? ⟨gb231, 0, none⟩ = some (.int .i64 qu) := (blk_cell BK231.out 0).trans rfl
       have hcz28_1 : w13.cell? ⟨gb231, 1, none⟩ = some (.int .i64 qv) := (blk_cell BK231.out 1).trans rfl
       have hcz28_2 : w13.cell? ⟨gb231, 2, none⟩ = some (.int .i64 qw) := (blk_cell BK231.out 2).trans rfl
       have hcz28_3 : w13.cell? ⟨gb231, 3, none⟩ = some (.int .i64 qx) := (blk_cell BK231.out 3).trans rfl
       have hcz28_4 : w13.cell? ⟨gb231, 4, none⟩ = some (.bool qy) := (blk_cell BK231.out 4).trans rfl
       have hcz28_5 : w13.cell? ⟨gb231, 5, none⟩ = some (.bool qz) := (blk_cell BK231.out 5).trans rfl
       have hcz28_6 : w13.cell? ⟨gb231, 6, none⟩ = some (.int .i64 qA) := (blk_cell BK231.out 6).trans rfl
       have hcz28_7 : w13.cell? ⟨gb231, 7, none⟩ = some (.int .i64 qB) := (blk_cell BK231.out 7).trans rfl
       have hcz28_8 : w13.cell? ⟨gb231, 8, none⟩ = some (.int .i64 qC) := (blk_cell BK231.out 8).trans rfl
       have hcz28_9 : w13.cell? ⟨gb231, 9, none⟩ = some (.int .i64 qD) := (blk_cell BK231.out 9).trans rfl
       have hcz28_10 : w13.cell? ⟨gb231, 10, none⟩ = some (.int .i64 qE) := (blk_cell BK231.out 10).trans rfl
       have hcz28_11 : w13.cell? ⟨gb231, 11, none⟩ = some (.int .i64 qF) := (blk_cell BK231.out 11).trans rfl
       have hcz28_12 : w13.cell? ⟨gb231, 12, none⟩ = some (.string qt) := (blk_cell BK231.out 12).trans rfl
       have hrw3 : rowAt w13 gb231 26 13 = true := rowAt_of (BK231.out) rfl
       have hrc3 : cellsAt w13 gb231 = #[.int .i64 qu, .int .i64 qv, .int .i64 qw, .int .i64 qx, .bool qy, .bool qz, .int .i64 qA, .int .i64 qB, .int .i64 qC, .int .i64 qD, .int .i64 qE, .int .i64 qF, .string qt] := cellsAt_of (BK231.out)
       have hfz28_0 := blk_frozen BK231.out 0
       have hfz28_1 := blk_frozen BK231.out 1
       have hfz28_2 := blk_frozen BK231.out 2
       have hfz28_3 := blk_frozen BK231.out 3
       have hfz28_4 := blk_frozen BK231.out 4
       have hfz28_5 := blk_frozen BK231.out 5
       have hfz28_6 := blk_frozen BK231.out 6
       have hfz28_7 := blk_frozen BK231.out 7
       have hfz28_8 := blk_frozen BK231.out 8
       have hfz28_9 := blk_frozen BK231.out 9
       have hfz28_10 := blk_frozen BK231.out 10
       have hfz28_11 := blk_frozen BK231.out 11
       have hfz28_12 := blk_frozen BK231.out 12
       have hnb29 := NB233_232.out
       have hnc29 := NB232_233.out
       have hcz30_0 : w13.cell? ⟨gb233, 0, none⟩ = some (.int .i64 qa) := (blk_cell BK233.out 0).trans rfl
       have hcz30_1 : w13.cell? ⟨gb233, 1, none⟩ = some (.bool qe) := (blk_cell BK233.out 1).trans rfl
       have hcz30_2 : w13.cell? ⟨gb233, 2, none⟩ = some (.int .i64 qc) := (blk_cell BK233.out 2).trans rfl
       have hcz30_3 : w13.cell? ⟨gb233, 3, none⟩ = some (.int .i64 qf) := (blk_cell BK233.out 3).trans rfl
       have hcz30_4 : w13.cell? ⟨gb233, 4, none⟩ = some (.int .i64 qg) := (blk_cell BK233.out 4).trans rfl
       have hcz30_5 : w13.cell? ⟨gb233, 5, none⟩ = some (.int .i64 qh) := (blk_cell BK233.out 5).trans rfl
       have hcz30_6 : w13.cell? ⟨gb233, 6, none⟩ = some (.int .i64 qi) := (blk_cell BK233.out 6).trans rfl
       have hcz30_7 : w13.cell? ⟨gb233, 7, none⟩ = some (.int .i64 qj) := (blk_cell BK233.out 7).trans rfl
       have hcz30_8 : w13.cell? ⟨gb233, 8, none⟩ = some (.int .i64 qk) := (blk_cell BK233.out 8).trans rfl
       have hcz30_9 : w13.cell? ⟨gb233, 9, none⟩ = some (.bool ql) := (blk_cell BK233.out 9).trans rfl
       have hcz30_10 : w13.cell? ⟨gb233, 10, none⟩ = some (.bool qm) := (blk_cell BK233.out 10).trans rfl
       have hcz30_11 : w13.cell? ⟨gb233, 11, none⟩ = some (.int .i64 qn) := (blk_cell BK233.out 11).trans rfl
       have hcz30_12 : w13.cell? ⟨gb233, 12, none⟩ = some (.int .i64 qo) := (blk_cell BK233.out 12).trans rfl
       have hcz30_13 : w13.cell? ⟨gb233, 13, none⟩ = some (.int .i64 qp) := (blk_cell BK233.out 13).trans rfl
       have hcz30_14 : w13.cell? ⟨gb233, 14, none⟩ = some (.int .i64 qq) := (blk_cell BK233.out 14).trans rfl
       have hcz30_15 : w13.cell? ⟨gb233, 15, none⟩ = some (.int .i64 qr) := (blk_cell BK233.out 15).trans rfl
       have hcz30_16 : w13.cell? ⟨gb233, 16, none⟩ = some (.int .i64 qs) := (blk_cell BK233.out 16).trans rfl
       have hcz30_17 : w13.cell? ⟨gb233, 17, none⟩ = some (.slice qL qd.length qM) := (blk_cell BK233.out 17).trans rfl
       have hcz30_18 : w13.cell? ⟨gb233, 18, none⟩ = some (.string qb) := (blk_cell BK233.out 18).trans rfl
       have hrw4 : rowAt w13 gb233 33 19 = true := rowAt_of (BK233.out) rfl
       have hrc4 : cellsAt w13 gb233 = #[.int .i64 qa, .bool qe, .int .i64 qc, .int .i64 qf, .int .i64 qg, .int .i64 qh, .int .i64 qi, .int .i64 qj, .int .i64 qk, .bool ql, .bool qm, .int .i64 qn, .int .i64 qo, .int .i64 qp, .int .i64 qq, .int .i64 qr, .int .i64 qs, .slice qL qd.length qM, .string qb] := cellsAt_of (BK233.out)
       have hfz30_0 := blk_frozen BK233.out 0
       have hfz30_1 := blk_frozen BK233.out 1
       have hfz30_2 := blk_frozen BK233.out 2
       have hfz30_3 := blk_frozen BK233.out 3
       have hfz30_4 := blk_frozen BK233.out 4
       have hfz30_5 := blk_frozen BK233.out 5
       have hfz30_6 := blk_frozen BK233.out 6
       have hfz30_7 := blk_frozen BK233.out 7
       have hfz30_8 := blk_frozen BK233.out 8
       have hfz30_9 := blk_frozen BK233.out 9
       have hfz30_10 := blk_frozen BK233.out 10
       have hfz30_11 := blk_frozen BK233.out 11
       have hfz30_12 := blk_frozen BK233.out 12
       have hfz30_13 := blk_frozen BK233.out 13
       have hfz30_14 := blk_frozen BK233.out 14
       have hfz30_15 := blk_frozen BK233.out 15
       have hfz30_16 := blk_frozen BK233.out 16
       have hfz30_17 := blk_frozen BK233.out 17
       have hfz30_18 := blk_frozen BK233.out 18
       go_wp2
       go_meet
       case rel => exact ⟨_, (decide ((a5.size : Int) > 5000)), (by first | rfl | (simp; done) | (simp [*]; done)), H', ⟨by first | omega | exact Nat.le_refl _⟩, ⟨by (with_reducible repeat (first | refine blk_drewN ?_ _ | refine blk_drew ?_ | refine blk_alloc ?_ _)); exact BK231.out⟩, ⟨by (with_reducible repeat (first | refine blk_drewN ?_ _ | refine blk_drew ?_ | refine blk_alloc ?_ _)); exact BK232.out⟩, ⟨by (with_reducible repeat (first | refine blk_drewN ?_ _ | refine blk_drew ?_ | refine blk_alloc ?_ _)); exact BK233.out⟩, ⟨by repeat (first | (with_reducible first | exact HB.out | apply below_alloc | apply pw_below_drewN | apply below_drew1 | refine below_set ?_ GE231.out | refine below_set ?_ GE232.out | refine below_set ?_ GE233.out) | exact HB.out)⟩⟩
  case rest =>
   clear HC9
   try clear c1
   try clear c2
   try clear p2
   try clear c4
   try clear c7
   try clear c8
   try clear c14
   try clear c14b0
   try clear c14b1
   try clear c15
   try clear c15b0
   try clear c15b1
   try clear c16
   try clear c16b0
   try clear c16b1
   try clear c17
   try clear c18
   try clear c20
   try clear c20b0
   try clear c20b1
   try clear c21
   try clear c22
   try clear c24
   try clear c26
   try clear c27
   try clear c29
   try clear hcz19_0
   try clear hcz19_1
   try clear hcz19_10
   try clear hcz19_11
   try clear hcz19_12
   try clear hcz19_2
   try clear hcz19_3
   try clear hcz19_4
   try clear hcz19_5
   try clear hcz19_6
   try clear hcz19_7
   try clear hcz19_8
   try clear hcz19_9
   try clear hcz23_0
   try clear hcz23_1
   try clear hcz23_10
   try clear hcz23_11
   try clear hcz23_12
   try clear hcz23_2
   try clear hcz23_3
   try clear hcz23_4
   try clear hcz23_5
   try clear hcz23_6
   try clear hcz23_7
   try clear hcz23_8
   try clear hcz23_9
   try clear hcz25_0
   try clear hcz25_1
   try clear hcz25_10
   try clear hcz25_11
   try clear hcz25_12
   try clear hcz25_13
   try clear hcz25_14
   try clear hcz25_15
   try clear hcz25_16
   try clear hcz25_17
   try clear hcz25_18
   try clear hcz25_2
   try clear hcz25_3
   try clear hcz25_4
   try clear hcz25_5
   try clear hcz25_6
   try clear hcz25_7
   try clear hcz25_8
   try clear hcz25_9
   try clear hcz28_0
   try clear hcz28_1
   try clear hcz28_10
   try clear hcz28_11
   try clear hcz28_12
   try clear hcz28_2
   try clear hcz28_3
   try clear hcz28_4
   try clear hcz28_5
   try clear hcz28_6
   try clear hcz28_7
   try clear hcz28_8
   try clear hcz28_9
   try clear hcz30_0
   try clear hcz30_1
   try clear hcz30_10
   try clear hcz30_11
   try clear hcz30_12
   try clear hcz30_13
   try clear hcz30_14
   try clear hcz30_15
   try clear hcz30_16
   try clear hcz30_17
   try clear hcz30_18
   try clear hcz30_2
   try clear hcz30_3
   try clear hcz30_4
   try clear hcz30_5
   try clear hcz30_6
   try clear hcz30_7
   try clear hcz30_8
   try clear hcz30_9
   try clear hfz19_0
   try clear hfz19_1
   try clear hfz19_10
   try clear hfz19_11
   try clear hfz19_12
   try clear hfz19_2
   try clear hfz19_3
   try clear hfz19_4
   try clear hfz19_5
   try clear hfz19_6
   try clear hfz19_7
   try clear hfz19_8
   try clear hfz19_9
   try clear hfz23_0
   try clear hfz23_1
   try clear hfz23_10
   try clear hfz23_11
   try clear hfz23_12
   try clear hfz23_2
   try clear hfz23_3
   try clear hfz23_4
   try clear hfz23_5
   try clear hfz23_6
   try clear hfz23_7
   try clear hfz23_8
   try clear hfz23_9
   try clear hfz25_0
   try clear hfz25_1
   try clear hfz25_10
   try clear hfz25_11
   try clear hfz25_12
   try clear hfz25_13
   try clear hfz25_14
   try clear hfz25_15
   try clear hfz25_16
   try clear hfz25_17
   try clear hfz25_18
   try clear hfz25_2
   try clear hfz25_3
   try clear hfz25_4
   try clear hfz25_5
   try clear hfz25_6
   try clear hfz25_7
   try clear hfz25_8
   try clear hfz25_9
   try clear hfz28_0
   try clear hfz28_1
   try clear hfz28_10
   try clear hfz28_11
   try clear hfz28_12
   try clear hfz28_2
   try clear hfz28_3
   try clear hfz28_4
   try clear hfz28_5
   try clear hfz28_6
   try clear hfz28_7
   try clear hfz28_8
   try clear hfz28_9
   try clear hfz30_0
   try clear hfz30_1
   try clear hfz30_10
   try clear hfz30_11
   try clear hfz30_12
   try clear hfz30_13
   try clear hfz30_14
   try clear hfz30_15
   try clear hfz30_16
   try clear hfz30_17
   try clear hfz30_18
   try clear hfz30_2
   try clear hfz30_3
   try clear hfz30_4
   try clear hfz30_5
   try clear hfz30_6
   try clear hfz30_7
   try clear hfz30_8
   try clear hfz30_9
   obtain ⟨kq, x60_8, rfl, HA, HJ8, BK231, BK232, BK233, HB⟩ := hcut
   cases kq with
   | zero => exact absurd HA.out (by simp [miradorlaw23_ServermsgBack.j0])
   | succ kj8 =>
    have H := HA.out
    clear HA
    simp only [miradorlaw23_ServermsgBack.j0] at H
    by_cases c31 : x60_8 = true
    ·subst c31
     have H1 : (some true) = some r := by rw [if_pos rfl] at H; exact H
     clear H
     have H := H1
     clear H1
     obtain rfl := Option.some.inj H
     go_wp2
     go_ret
     exact ⟨by first | rfl | (simp [errW_none, errW_some] <;> rfl) | (simp [*, errW_none, errW_some] <;> rfl), by repeat (first | (with_reducible first | exact HB.out | apply below_alloc | apply pw_below_drewN | apply below_drew1 | refine below_set ?_ GE231.out | refine below_set ?_ GE232.out | refine below_set ?_ GE233.out) | exact HB.out)⟩
    ·replace c31 := Bool.eq_false_iff.mpr c31
     subst c31
     have H1 : ((servermsg_Kinds.f l0).bind fun bt235 => (if bt235.2 = 0 then (if bt235.1.size + a5.size ≤ 9223372036854775807 then ((servermsg_KindsOf.f (bt235.1 ++ a5)).bind fun bt237 => ((miradorref12_Row.f kj8 bt237.1 l0).bind fun t243 => (if t243 = true then (if bt237.2.2.1 = (bt235.1.size : Int) then (if bt237.2.2.2 = 0 then (miradorlaw23_ServermsgBack.j1 kj8 a1 a5 true qu qv qw qx qy qz qA qB qC qD qE qF qt qG qH qI qJ qK qa qe qc qf qg qh qi qj qk ql qm qn qo qp qq qr qs qd qb) else (some false)) else (some false)) else (some false)))) else (none)) else (miradorlaw23_ServermsgBack.j1 kj8 a1 a5 true qu qv qw qx qy qz qA qB qC qD qE qF qt qG qH qI qJ qK qa qe qc qf qg qh qi qj qk ql qm qn qo qp qq qr qs qd qb))) = some r := by rw [if_neg (show ¬ (false = true) by decide)] at H; exact H
     clear H
     have H := H1
     clear H1
     replace H := Option.bind_eq_some_iff.mp H
     obtain ⟨⟨t235, t236⟩, A320, H⟩ := H
     replace H : (if t236 = 0 then (if t235.size + a5.size ≤ 9223372036854775807 then ((servermsg_KindsOf.f (t235 ++ a5)).bind fun bt237 => ((miradorref12_Row.f kj8 bt237.1 l0).bind fun t243 => (if t243 = true then (if bt237.2.2.1 = (t235.size : Int) then (if bt237.2.2.2 = 0 then (miradorlaw23_ServermsgBack.j1 kj8 a1 a5 true qu qv qw qx qy qz qA qB qC qD qE qF qt qG qH qI qJ qK qa qe qc qf qg qh qi qj qk ql qm qn qo qp qq qr qs qd qb) else (some false)) else (some false)) else (some false)))) else (none)) else (miradorlaw23_ServermsgBack.j1 kj8 a1 a5 true qu qv qw qx qy qz qA qB qC qD qE qF qt qG qH qI qJ qK qa qe qc qf qg qh qi qj qk ql qm qn qo qp qq qr qs qd qb)) = some r := H
     have A32 := Aside0.mk A320
     clear A320
     have HC33 := Aside0.mk H
     clear H
     go_upto_if 68 with (first | ((with_reducible refine gate_callee (f := 9) rfl ?_); refine goesL_ (some 64) rfl rfl Try.func9 (by kernel_rfl) rfl #[.slice A0 l0.length c0] rfl (by (try simp only [List.map_toArray, List.map_cons, List.map_nil]); first | done | rfl | (simp only [List.length_drop, List.length_take]; rfl)) ?_; (with_reducible refine (servermsg_Kinds.calls _ _ l0 t235 t236 _ ?side1 ?side2 A32.out).mono ?_); (case side1 => repeat (first | exact (Kd.C_below HR0.out HB.out) | (with_reducible refine Kd.C_alloc ?_ _) | (with_reducible refine Kd.C_drewN ?_ _) | (with_reducible refine Kd.C_drew ?_))); (case side2 => exact HC0.out); rintro e w34 ⟨rfl, hb⟩; refine ⟨_, rfl, ?_⟩; have n0_ := Aside0.mk (blk_below (g := gb231) (o := .cells #[.int .i64 qu, .int .i64 qv, .int .i64 qw, .int .i64 qx, .bool qy, .bool qz, .int .i64 qA, .int .i64 qB, .int .i64 qC, .int .i64 qD, .int .i64 qE, .int .i64 qF, .string qt] 26 (0, 0)) (by (with_reducible repeat (first | refine blk_drewN ?_ _ | refine blk_drew ?_ | refine blk_alloc ?_ _)); exact BK231.out) hb); have n1_ := Aside0.mk (blk_below (g := gb232) (o := .cells #[.int .i64 qG, .int .i64 qH, .int .i64 qI, .int .i64 qJ, .int .i64 qK] 30 (0, 0)) (by (with_reducible repeat (first | refine blk_drewN ?_ _ | refine blk_drew ?_ | refine blk_alloc ?_ _)); exact BK232.out) hb); have n2_ := Aside0.mk (blk_below (g := gb233) (o := .cells #[.int .i64 qa, .bool qe, .int .i64 qc, .int .i64 qf, .int .i64 qg, .int .i64 qh, .int .i64 qi, .int .i64 qj, .int .i64 qk, .bool ql, .bool qm, .int .i64 qn, .int .i64 qo, .int .i64 qp, .int .i64 qq, .int .i64 qr, .int .i64 qs, .slice qL qd.length qM, .string qb] 33 (0, 0)) (by (with_reducible repeat (first | refine blk_drewN ?_ _ | refine blk_drew ?_ | refine blk_alloc ?_ _)); exact BK233.out) hb); have n3_ := Aside0.mk (below_step (by repeat (first | (with_reducible first | exact HB.out | apply below_alloc | apply pw_below_drewN | apply below_drew1 | refine below_set ?_ GE231.out | refine below_set ?_ GE232.out | refine below_set ?_ GE233.out) | exact HB.out)) hb); clear BK231; clear BK232; clear BK233; clear HB; have BK231 := n0_; have BK232 := n1_; have BK233 := n2_; have HB := n3_; clear n0_ n1_ n2_ n3_; (try clear hb); (try clear hb2); (try clear hk); (try clear hi)))
     (try simp only [Act.put, List.setIfInBounds_toArray, List.set_cons_zero, List.set_cons_succ])
     go_cut [] (fun wc => ∃ (kq : Nat), Aside0 (miradorlaw23_ServermsgBack.j1 kq a1 a5 true qu qv qw qx qy qz qA qB qC qD qE qF qt qG qH qI qJ qK qa qe qc qf qg qh qi qj qk ql qm qn qo qp qq qr qs qd qb = some r) ∧ Aside0 (kq ≤ kj8) ∧ Aside0 (wc.heap[gb231]? = some (.cells #[.int .i64 qu, .int .i64 qv, .int .i64 qw, .int .i64 qx, .bool qy, .bool qz, .int .i64 qA, .int .i64 qB, .int .i64 qC, .int .i64 qD, .int .i64 qE, .int .i64 qF, .string qt] 26 (0, 0))) ∧ Aside0 (wc.heap[gb232]? = some (.cells #[.int .i64 qG, .int .i64 qH, .int .i64 qI, .int .i64 qJ, .int .i64 qK] 30 (0, 0))) ∧ Aside0 (wc.heap[gb233]? = some (.cells #[.int .i64 qa, .bool qe, .int .i64 qc, .int .i64 qf, .int .i64 qg, .int .i64 qh, .int .i64 qi, .int .i64 qj, .int .i64 qk, .bool ql, .bool qm, .int .i64 qn, .int .i64 qo, .int .i64 qp, .int .i64 qq, .int .i64 qr, .int .i64 qs, (.slice qL qd.length qM), .string qb] 33 (0, 0))) ∧ Aside0 (Below w.heap.size w wc))
     case first => as_aux_lemma =>
      have H := HC33.out
      clear HC33
      by_cases c35 : t236 = 0
      ·rw [if_pos c35] at H
       have c35b0 : (t236 == 0) = true := beq_iff_eq.mpr c35
       have c35b1 : (t236 != 0) = false := bne_eq_false_iff_eq.mpr c35
       clear c35
       (first | rw [c35b0] | (simp only [i64_w, i32_w]; rw [c35b0]) | skip)
       by_cases c36 : t235.size + a5.size ≤ 9223372036854775807
       ·rw [if_pos c36] at H
        have c36b0 := eq_true c36
        have c36b1 : decide (t235.size + a5.size ≤ 9223372036854775807) = true := decide_eq_true c36
        try have c36b2 : (9223372036854775807 < t235.size + a5.size) = False := eq_false (Nat.not_lt.2 c36)
        replace H := Option.bind_eq_some_iff.mp H
        obtain ⟨⟨t237, t238, t239, t240⟩, A370, H⟩ := H
        replace H : ((miradorref12_Row.f kj8 t237 l0).bind fun t243 => (if t243 = true then (if t239 = (t235.size : Int) then (if t240 = 0 then (miradorlaw23_ServermsgBack.j1 kj8 a1 a5 true qu qv qw qx qy qz qA qB qC qD qE qF qt qG qH qI qJ qK qa qe qc qf qg qh qi qj qk ql qm qn qo qp qq qr qs qd qb) else (some false)) else (some false)) else (some false))) = some r := H
        have A37 := Aside0.mk A370
        clear A370
        replace H := Option.bind_eq_some_iff.mp H
        obtain ⟨t243, A380, H⟩ := H
        replace H : (if t243 = true then (if t239 = (t235.size : Int) then (if t240 = 0 then (miradorlaw23_ServermsgBack.j1 kj8 a1 a5 true qu qv qw qx qy qz qA qB qC qD qE qF qt qG qH qI qJ qK qa qe qc qf qg qh qi qj qk ql qm qn qo qp qq qr qs qd qb) else (some false)) else (some false)) else (some false)) = some r := H
        have A38 := Aside0.mk A380
        clear A380
        by_cases c39 : t243 = true
        ·subst c39
         have H1 : (if t239 = (t235.size : Int) then (if t240 = 0 then (miradorlaw23_ServermsgBack.j1 kj8 a1 a5 true qu qv qw qx qy qz qA qB qC qD qE qF qt qG qH qI qJ qK qa qe qc qf qg qh qi qj qk ql qm qn qo qp qq qr qs qd qb) else (some false)) else (some false)) = some r := by rw [if_pos rfl] at H; exact H
         clear H
         have H := H1
         clear H1
         by_cases c40 : t239 = (t235.size : Int)
         ·rw [if_pos c40] at H
          have c40b0 : (t239 == (t235.size : Int)) = true := beq_iff_eq.mpr c40
          have c40b1 : (t239 != (t235.size : Int)) = false := bne_eq_false_iff_eq.mpr c40
          clear c40
          by_cases c41 : t240 = 0
          ·as_aux_lemma =>
           rw [if_pos c41] at H
           have c41b0 : (t240 == 0) = true := beq_iff_eq.mpr c41
           have c41b1 : (t240 != 0) = false := bne_eq_false_iff_eq.mpr c41
           clear c41
           have H' := Aside0.mk H
           clear H
           go_wp2_with (first | ((with_reducible refine gate_callee (f := 20) rfl ?_); refine goesL_ (some 73) rfl rfl Try.func20 (by kernel_rfl) rfl #[.string (t235 ++ a5)] rfl (by (try simp only [List.map_toArray, List.map_cons, List.map_nil]); first | done | rfl | (simp only [List.length_drop, List.length_take]; rfl)) ?_; (with_reducible refine (servermsg_KindsOf.calls (t235 ++ a5) t237 t238 t239 t240 _ A37.out).mono ?_); rintro e w42 ⟨v241, rfl, ho0, hb⟩; refine ⟨_, rfl, ?_⟩; have n0_ := Aside0.mk (Kd.R_lower ho0 (below_size (by repeat (first | (with_reducible first | exact HB.out | apply below_alloc | apply pw_below_drewN | apply below_drew1 | refine below_set ?_ GE231.out | refine below_set ?_ GE232.out | refine below_set ?_ GE233.out) | exact HB.out)))); have n1_ := Aside0.mk (blk_below (g := gb231) (o := .cells #[.int .i64 qu, .int .i64 qv, .int .i64 qw, .int .i64 qx, .bool qy, .bool qz, .int .i64 qA, .int .i64 qB, .int .i64 qC, .int .i64 qD, .int .i64 qE, .int .i64 qF, .string qt] 26 (0, 0)) (by (with_reducible repeat (first | refine blk_drewN ?_ _ | refine blk_drew ?_ | refine blk_alloc ?_ _)); exact BK231.out) hb); have n2_ := Aside0.mk (blk_below (g := gb232) (o := .cells #[.int .i64 qG, .int .i64 qH, .int .i64 qI, .int .i64 qJ, .int .i64 qK] 30 (0, 0)) (by (with_reducible repeat (first | refine blk_drewN ?_ _ | refine blk_drew ?_ | refine blk_alloc ?_ _)); exact BK232.out) hb); have n3_ := Aside0.mk (blk_below (g := gb233) (o := .cells #[.int .i64 qa, .bool qe, .int .i64 qc, .int .i64 qf, .int .i64 qg, .int .i64 qh, .int .i64 qi, .int .i64 qj, .int .i64 qk, .bool ql, .bool qm, .int .i64 qn, .int .i64 qo, .int .i64 qp, .int .i64 qq, .int .i64 qr, .int .i64 qs, .slice qL qd.length qM, .string qb] 33 (0, 0)) (by (with_reducible repeat (first | refine blk_drewN ?_ _ | refine blk_drew ?_ | refine blk_alloc ?_ _)); exact BK233.out) hb); have n4_ := Aside0.mk (below_step (by repeat (first | (with_reducible first | exact HB.out | apply below_alloc | apply pw_below_drewN | apply below_drew1 | refine below_set ?_ GE231.out | refine below_set ?_ GE232.out | refine below_set ?_ GE233.out) | exact HB.out)) hb); clear BK231; clear BK232; clear BK233; clear HB; have HO242 := n0_; have BK231 := n1_; have BK232 := n2_; have BK233 := n3_; have HB := n4_; clear n0_ n1_ n2_ n3_ n4_; (try clear hb); (try clear hb2); (try clear hk); (try clear hi); (try clear ho0); obtain ⟨Ao43, co43, eo43⟩ := Kd.R_slice HO242.out; subst eo43) | ((with_reducible refine gate_callee (f := 22) rfl ?_); refine goesL_ (some 80) rfl rfl Try.func22 (by kernel_rfl) rfl #[.slice Ao43 t237.length co43, .slice A0 l0.length c0] rfl (by (try simp only [List.map_toArray, List.map_cons, List.map_nil]); first | done | rfl | (simp only [List.length_drop, List.length_take]; rfl)) ?_; (with_reducible refine (miradorref12_Row.calls kj8 _ _ t237 _ _ l0 true _ ?side1 ?side2 ?side3 ?side4 A38.out).mono ?_); (case side1 => repeat (first | exact (Kd.R_reads' HO242.out).2.2 | (with_reducible refine Kd.C_alloc ?_ _) | (with_reducible refine Kd.C_drewN ?_ _) | (with_reducible refine Kd.C_drew ?_))); (case side2 => exact (Kd.R_reads' HO242.out).2.1); (case side3 => repeat (first | exact (Kd.C_below HR0.out HB.out) | (with_reducible refine Kd.C_alloc ?_ _) | (with_reducible refine Kd.C_drewN ?_ _) | (with_reducible refine Kd.C_drew ?_))); (case side4 => exact HC0.out); rintro e w44 ⟨rfl, hb⟩; refine ⟨_, rfl, ?_⟩; have n0_ := Aside0.mk (Kd.R_below (by (with_reducible repeat (first | apply Kd.R_alloc | apply Kd.R_drewN | apply Kd.R_drew)); exact HO242.out) hb); have n1_ := Aside0.mk (blk_below (g := gb231) (o := .cells #[.int .i64 qu, .int .i64 qv, .int .i64 qw, .int .i64 qx, .bool qy, .bool qz, .int .i64 qA, .int .i64 qB, .int .i64 qC, .int .i64 qD, .int .i64 qE, .int .i64 qF, .string qt] 26 (0, 0)) (by (with_reducible repeat (first | refine blk_drewN ?_ _ | refine blk_drew ?_ | refine blk_alloc ?_ _)); exact BK231.out) hb); have n2_ := Aside0.mk (blk_below (g := gb232) (o := .cells #[.int .i64 qG, .int .i64 qH, .int .i64 qI, .int .i64 qJ, .int .i64 qK] 30 (0, 0)) (by (with_reducible repeat (first | refine blk_drewN ?_ _ | refine blk_drew ?_ | refine blk_alloc ?_ _)); exact BK232.out) hb); have n3_ := Aside0.mk (blk_below (g := gb233) (o := .cells #[.int .i64 qa, .bool qe, .int .i64 qc, .int .i64 qf, .int .i64 qg, .int .i64 qh, .int .i64 qi, .int .i64 qj, .int .i64 qk, .bool ql, .bool qm, .int .i64 qn, .int .i64 qo, .int .i64 qp, .int .i64 qq, .int .i64 qr, .int .i64 qs, .slice qL qd.length qM, .string qb] 33 (0, 0)) (by (with_reducible repeat (first | refine blk_drewN ?_ _ | refine blk_drew ?_ | refine blk_alloc ?_ _)); exact BK233.out) hb); have n4_ := Aside0.mk (below_step (by repeat (first | (with_reducible first | exact HB.out | apply below_alloc | apply pw_below_drewN | apply below_drew1 | refine below_set ?_ GE231.out | refine below_set ?_ GE232.out | refine below_set ?_ GE233.out) | exact HB.out)) hb); clear HO242; clear BK231; clear BK232; clear BK233; clear HB; have HO242 := n0_; have BK231 := n1_; have BK232 := n2_; have BK233 := n3_; have HB := n4_; clear n0_ n1_ n2_ n3_ n4_; (try clear hb); (try clear hb2); (try clear hk); (try clear hi)))
           go_meet
           case rel => exact ⟨_, H', ⟨by have := HJ8.out; first | omega | exact Nat.le_refl _⟩, ⟨by (with_reducible repeat (first | refine blk_drewN ?_ _ | refine blk_drew ?_ | refine blk_alloc ?_ _)); exact BK231.out⟩, ⟨by (with_reducible repeat (first | refine blk_drewN ?_ _ | refine blk_drew ?_ | refine blk_alloc ?_ _)); exact BK232.out⟩, ⟨by (with_reducible repeat (first | refine blk_drewN ?_ _ | refine blk_drew ?_ | refine blk_alloc ?_ _)); exact BK233.out⟩, ⟨by repeat (first | (with_reducible first | exact HB.out | apply below_alloc | apply pw_below_drewN | apply below_drew1 | refine below_set ?_ GE231.out | refine below_set ?_ GE232.out | refine below_set ?_ GE233.out) | exact HB.out)⟩⟩
          ·rw [if_neg c41] at H
           have c41b0 : (t240 == 0) = false := beq_eq_false_iff_ne.mpr c41
           have c41b1 : (t240 != 0) = true := bne_iff_ne.mpr c41
           rw [HRT.out] at H
           exact absurd (Option.some.inj H) (by decide)
         ·rw [if_neg c40] at H
          have c40b0 : (t239 == (t235.size : Int)) = false := beq_eq_false_iff_ne.mpr c40
          have c40b1 : (t239 != (t235.size : Int)) = true := bne_iff_ne.mpr c40
          rw [HRT.out] at H
          exact absurd (Option.some.inj H) (by decide)
        ·replace c39 := Bool.eq_false_iff.mpr c39
         subst c39
         have H1 : (some false) = some r := by rw [if_neg (show ¬ (false = true) by decide)] at H; exact H
         clear H
         have H := H1
         clear H1
         rw [HRT.out] at H
         exact absurd (Option.some.inj H) (by decide)
       ·rw [if_neg c36] at H
        exact absurd H (by simp)
      ·rw [if_neg c35] at H
       have c35b0 : (t236 == 0) = false := beq_eq_false_iff_ne.mpr c35
       have c35b1 : (t236 != 0) = true := bne_iff_ne.mpr c35
       (first | rw [c35b0] | (simp only [i64_w, i32_w]; rw [c35b0]) | skip)
       have H' := Aside0.mk H
       clear H
       go_wp2
       go_meet
       case rel => exact ⟨_, H', ⟨by have := HJ8.out; first | omega | exact Nat.le_refl _⟩, ⟨by (with_reducible repeat (first | refine blk_drewN ?_ _ | refine blk_drew ?_ | refine blk_alloc ?_ _)); exact BK231.out⟩, ⟨by (with_reducible repeat (first | refine blk_drewN ?_ _ | refine blk_drew ?_ | refine blk_alloc ?_ _)); exact BK232.out⟩, ⟨by (with_reducible repeat (first | refine blk_drewN ?_ _ | refine blk_drew ?_ | refine blk_alloc ?_ _)); exact BK233.out⟩, ⟨by repeat (first | (with_reducible first | exact HB.out | apply below_alloc | apply pw_below_drewN | apply below_drew1 | refine below_set ?_ GE231.out | refine below_set ?_ GE232.out | refine below_set ?_ GE233.out) | exact HB.out)⟩⟩
     case rest =>
      clear HC33
      try clear c1
      try clear c2
      try clear p2
      try clear c3
      try clear c4
      try clear c7
      try clear c8
      try clear c9
      try clear c14
      try clear c14b0
      try clear c14b1
      try clear c15
      try clear c15b0
      try clear c15b1
      try clear c16
      try clear c16b0
      try clear c16b1
      try clear c17
      try clear c18
      try clear c20
      try clear c20b0
      try clear c20b1
      try clear c21
      try clear c22
      try clear c24
      try clear c26
      try clear c27
      try clear c29
      try clear c31
      try clear c35
      try clear c35b0
      try clear c35b1
      try clear c36
      try clear c36b0
      try clear c36b1
      try clear c36b2
      try clear c39
      try clear c40
      try clear c40b0
      try clear c40b1
      try clear c41
      try clear c41b0
      try clear c41b1
      try clear hcz19_0
      try clear hcz19_1
      try clear hcz19_10
      try clear hcz19_11
      try clear hcz19_12
      try clear hcz19_2
      try clear hcz19_3
      try clear hcz19_4
      try clear hcz19_5
      try clear hcz19_6
      try clear hcz19_7
      try clear hcz19_8
      try clear hcz19_9
      try clear hcz23_0
      try clear hcz23_1
      try clear hcz23_10
      try clear hcz23_11
      try clear hcz23_12
      try clear hcz23_2
      try clear hcz23_3
      try clear hcz23_4
      try clear hcz23_5
      try clear hcz23_6
      try clear hcz23_7
      try clear hcz23_8
      try clear hcz23_9
      try clear hcz25_0
      try clear hcz25_1
      try clear hcz25_10
      try clear hcz25_11
      try clear hcz25_12
      try clear hcz25_13
      try clear hcz25_14
      try clear hcz25_15
      try clear hcz25_16
      try clear hcz25_17
      try clear hcz25_18
      try clear hcz25_2
      try clear hcz25_3
      try clear hcz25_4
      try clear hcz25_5
      try clear hcz25_6
      try clear hcz25_7
      try clear hcz25_8
      try clear hcz25_9
      try clear hcz28_0
      try clear hcz28_1
      try clear hcz28_10
      try clear hcz28_11
      try clear hcz28_12
      try clear hcz28_2
      try clear hcz28_3
      try clear hcz28_4
      try clear hcz28_5
      try clear hcz28_6
      try clear hcz28_7
      try clear hcz28_8
      try clear hcz28_9
      try clear hcz30_0
      try clear hcz30_1
      try clear hcz30_10
      try clear hcz30_11
      try clear hcz30_12
      try clear hcz30_13
      try clear hcz30_14
      try clear hcz30_15
      try clear hcz30_16
      try clear hcz30_17
      try clear hcz30_18
      try clear hcz30_2
      try clear hcz30_3
      try clear hcz30_4
      try clear hcz30_5
      try clear hcz30_6
      try clear hcz30_7
      try clear hcz30_8
      try clear hcz30_9
      try clear hfz19_0
      try clear hfz19_1
      try clear hfz19_10
      try clear hfz19_11
      try clear hfz19_12
      try clear hfz19_2
      try clear hfz19_3
      try clear hfz19_4
      try clear hfz19_5
      try clear hfz19_6
      try clear hfz19_7
      try clear hfz19_8
      try clear hfz19_9
      try clear hfz23_0
      try clear hfz23_1
      try clear hfz23_10
      try clear hfz23_11
      try clear hfz23_12
      try clear hfz23_2
      try clear hfz23_3
      try clear hfz23_4
      try clear hfz23_5
      try clear hfz23_6
      try clear hfz23_7
      try clear hfz23_8
      try clear hfz23_9
      try clear hfz25_0
      try clear hfz25_1
      try clear hfz25_10
      try clear hfz25_11
      try clear hfz25_12
      try clear hfz25_13
      try clear hfz25_14
      try clear hfz25_15
      try clear hfz25_16
      try clear hfz25_17
      try clear hfz25_18
      try clear hfz25_2
      try clear hfz25_3
      try clear hfz25_4
      try clear hfz25_5
      try clear hfz25_6
      try clear hfz25_7
      try clear hfz25_8
      try clear hfz25_9
      try clear hfz28_0
      try clear hfz28_1
      try clear hfz28_10
      try clear hfz28_11
      try clear hfz28_12
      try clear hfz28_2
      try clear hfz28_3
      try clear hfz28_4
      try clear hfz28_5
      try clear hfz28_6
      try clear hfz28_7
      try clear hfz28_8
      try clear hfz28_9
      try clear hfz30_0
      try clear hfz30_1
      try clear hfz30_10
      try clear hfz30_11
      try clear hfz30_12
      try clear hfz30_13
      try clear hfz30_14
      try clear hfz30_15
      try clear hfz30_16
      try clear hfz30_17
      try clear hfz30_18
      try clear hfz30_2
      try clear hfz30_3
      try clear hfz30_4
      try clear hfz30_5
      try clear hfz30_6
      try clear hfz30_7
      try clear hfz30_8
      try clear hfz30_9
      try clear p2
      obtain ⟨kq, HA, HJ32, BK231, BK232, BK233, HB⟩ := hcut
      cases kq with
      | zero => exact absurd HA.out (by simp [miradorlaw23_ServermsgBack.j1])
      | succ kj32 =>
       have H := HA.out
       clear HA
       simp only [miradorlaw23_ServermsgBack.j1] at H
       replace H := Option.bind_eq_some_iff.mp H
       obtain ⟨t244, A450, H⟩ := H
       replace H : (if t244.size + a5.size ≤ 9223372036854775807 then ((servermsg_ResultOf.f (t244 ++ a5)).bind fun bt245 => (if bt245.1.toList = a1.toList then (if bt245.2.1 = (t244.size : Int) then (miradorlaw23_ServermsgBack.j2 kj32 a5 true (bt245.2.2 != 0) qu qv qw qx qy qz qA qB qC qD qE qF qt qG qH qI qJ qK qa qe qc qf qg qh qi qj qk ql qm qn qo qp qq qr qs qd qb) else (miradorlaw23_ServermsgBack.j2 kj32 a5 true true qu qv qw qx qy qz qA qB qC qD qE qF qt qG qH qI qJ qK qa qe qc qf qg qh qi qj qk ql qm qn qo qp qq qr qs qd qb)) else (miradorlaw23_ServermsgBack.j2 kj32 a5 true true qu qv qw qx qy qz qA qB qC qD qE qF qt qG qH qI qJ qK qa qe qc qf qg qh qi qj qk ql qm qn qo qp qq qr qs qd qb))) else (none)) = some r := H
       have A45 := Aside0.mk A450
       clear A450
       by_cases c46 : t244.size + a5.size ≤ 9223372036854775807
       ·rw [if_pos c46] at H
        have c46b0 := eq_true c46
        have c46b1 : decide (t244.size + a5.size ≤ 9223372036854775807) = true := decide_eq_true c46
        try have c46b2 : (9223372036854775807 < t244.size + a5.size) = False := eq_false (Nat.not_lt.2 c46)
        replace H := Option.bind_eq_some_iff.mp H
        obtain ⟨⟨t245, t246, t247⟩, A470, H⟩ := H
        replace H : (if t245.toList = a1.toList then (if t246 = (t244.size : Int) then (miradorlaw23_ServermsgBack.j2 kj32 a5 true (t247 != 0) qu qv qw qx qy qz qA qB qC qD qE qF qt qG qH qI qJ qK qa qe qc qf qg qh qi qj qk ql qm qn qo qp qq qr qs qd qb) else (miradorlaw23_ServermsgBack.j2 kj32 a5 true true qu qv qw qx qy qz qA qB qC qD qE qF qt qG qH qI qJ qK qa qe qc qf qg qh qi qj qk ql qm qn qo qp qq qr qs qd qb)) else (miradorlaw23_ServermsgBack.j2 kj32 a5 true true qu qv qw qx qy qz qA qB qC qD qE qF qt qG qH qI qJ qK qa qe qc qf qg qh qi qj qk ql qm qn qo qp qq qr qs qd qb)) = some r := H
        have A47 := Aside0.mk A470
        clear A470
        have HC48 := Aside0.mk H
        clear H
        go_upto_region 14 with (first | ((with_reducible refine gate_callee (f := 17) rfl ?_); refine goesL_ (some 94) rfl rfl Try.func17 (by kernel_rfl) rfl #[.string a1] rfl (by (try simp only [List.map_toArray, List.map_cons, List.map_nil]); first | done | rfl | (simp only [List.length_drop, List.length_take]; rfl)) ?_; (with_reducible refine (servermsg_Result.calls a1 t244 _ A45.out).mono ?_); rintro e w49 ⟨rfl, hb⟩; refine ⟨_, rfl, ?_⟩; have n0_ := Aside0.mk (blk_below (g := gb231) (o := .cells #[.int .i64 qu, .int .i64 qv, .int .i64 qw, .int .i64 qx, .bool qy, .bool qz, .int .i64 qA, .int .i64 qB, .int .i64 qC, .int .i64 qD, .int .i64 qE, .int .i64 qF, .string qt] 26 (0, 0)) (by (with_reducible repeat (first | refine blk_drewN ?_ _ | refine blk_drew ?_ | refine blk_alloc ?_ _)); exact BK231.out) hb); have n1_ := Aside0.mk (blk_below (g := gb232) (o := .cells #[.int .i64 qG, .int .i64 qH, .int .i64 qI, .int .i64 qJ, .int .i64 qK] 30 (0, 0)) (by (with_reducible repeat (first | refine blk_drewN ?_ _ | refine blk_drew ?_ | refine blk_alloc ?_ _)); exact BK232.out) hb); have n2_ := Aside0.mk (blk_below (g := gb233) (o := .cells #[.int .i64 qa, .bool qe, .int .i64 qc, .int .i64 qf, .int .i64 qg, .int .i64 qh, .int .i64 qi, .int .i64 qj, .int .i64 qk, .bool ql, .bool qm, .int .i64 qn, .int .i64 qo, .int .i64 qp, .int .i64 qq, .int .i64 qr, .int .i64 qs, .slice qL qd.length qM, .string qb] 33 (0, 0)) (by (with_reducible repeat (first | refine blk_drewN ?_ _ | refine blk_drew ?_ | refine blk_alloc ?_ _)); exact BK233.out) hb); have n3_ := Aside0.mk (below_step (by repeat (first | (with_reducible first | exact HB.out | apply below_alloc | apply pw_below_drewN | apply below_drew1 | refine below_set ?_ GE231.out | refine below_set ?_ GE232.out | refine below_set ?_ GE233.out) | exact HB.out)) hb); clear BK231; clear BK232; clear BK233; clear HB; have BK231 := n0_; have BK232 := n1_; have BK233 := n2_; have HB := n3_; clear n0_ n1_ n2_ n3_; (try clear hb); (try clear hb2); (try clear hk); (try clear hi)) | ((with_reducible refine gate_callee (f := 23) rfl ?_); refine goesL_ (some 99) rfl rfl Try.func23 (by kernel_rfl) rfl #[.string (t244 ++ a5)] rfl (by (try simp only [List.map_toArray, List.map_cons, List.map_nil]); first | done | rfl | (simp only [List.length_drop, List.length_take]; rfl)) ?_; (with_reducible refine (servermsg_ResultOf.calls (t244 ++ a5) t245 t246 t247 _ A47.out).mono ?_); rintro e w50 ⟨rfl, hb⟩; refine ⟨_, rfl, ?_⟩; have n0_ := Aside0.mk (blk_below (g := gb231) (o := .cells #[.int .i64 qu, .int .i64 qv, .int .i64 qw, .int .i64 qx, .bool qy, .bool qz, .int .i64 qA, .int .i64 qB, .int .i64 qC, .int .i64 qD, .int .i64 qE, .int .i64 qF, .string qt] 26 (0, 0)) (by (with_reducible repeat (first | refine blk_drewN ?_ _ | refine blk_drew ?_ | refine blk_alloc ?_ _)); exact BK231.out) hb); have n1_ := Aside0.mk (blk_below (g := gb232) (o := .cells #[.int .i64 qG, .int .i64 qH, .int .i64 qI, .int .i64 qJ, .int .i64 qK] 30 (0, 0)) (by (with_reducible repeat (first | refine blk_drewN ?_ _ | refine blk_drew ?_ | refine blk_alloc ?_ _)); exact BK232.out) hb); have n2_ := Aside0.mk (blk_below (g := gb233) (o := .cells #[.int .i64 qa, .bool qe, .int .i64 qc, .int .i64 qf, .int .i64 qg, .int .i64 qh, .int .i64 qi, .int .i64 qj, .int .i64 qk, .bool ql, .bool qm, .int .i64 qn, .int .i64 qo, .int .i64 qp, .int .i64 qq, .int .i64 qr, .int .i64 qs, .slice qL qd.length qM, .string qb] 33 (0, 0)) (by (with_reducible repeat (first | refine blk_drewN ?_ _ | refine blk_drew ?_ | refine blk_alloc ?_ _)); exact BK233.out) hb); have n3_ := Aside0.mk (below_step (by repeat (first | (with_reducible first | exact HB.out | apply below_alloc | apply pw_below_drewN | apply below_drew1 | refine below_set ?_ GE231.out | refine below_set ?_ GE232.out | refine below_set ?_ GE233.out) | exact HB.out)) hb); clear BK231; clear BK232; clear BK233; clear HB; have BK231 := n0_; have BK232 := n1_; have BK233 := n2_; have HB := n3_; clear n0_ n1_ n2_ n3_; (try clear hb); (try clear hb2); (try clear hk); (try clear hi)))
        (try simp only [Act.put, List.setIfInBounds_toArray, List.set_cons_zero, List.set_cons_succ])
        go_cut [115] (fun v115 wc => ∃ (kq : Nat) (x115_47 : Bool), v115 = .bool x115_47 ∧ Aside0 (miradorlaw23_ServermsgBack.j2 kq a5 true x115_47 qu qv qw qx qy qz qA qB qC qD qE qF qt qG qH qI qJ qK qa qe qc qf qg qh qi qj qk ql qm qn qo qp qq qr qs qd qb = some r) ∧ Aside0 (kq ≤ kj32) ∧ Aside0 (wc.heap[gb231]? = some (.cells #[.int .i64 qu, .int .i64 qv, .int .i64 qw, .int .i64 qx, .bool qy, .bool qz, .int .i64 qA, .int .i64 qB, .int .i64 qC, .int .i64 qD, .int .i64 qE, .int .i64 qF, .string qt] 26 (0, 0))) ∧ Aside0 (wc.heap[gb232]? = some (.cells #[.int .i64 qG, .int .i64 qH, .int .i64 qI, .int .i64 qJ, .int .i64 qK] 30 (0, 0))) ∧ Aside0 (wc.heap[gb233]? = some (.cells #[.int .i64 qa, .bool qe, .int .i64 qc, .int .i64 qf, .int .i64 qg, .int .i64 qh, .int .i64 qi, .int .i64 qj, .int .i64 qk, .bool ql, .bool qm, .int .i64 qn, .int .i64 qo, .int .i64 qp, .int .i64 qq, .int .i64 qr, .int .i64 qs, (.slice qL qd.length qM), .string qb] 33 (0, 0))) ∧ Aside0 (Below w.heap.size w wc))
        case first => as_aux_lemma =>
         have H := HC48.out
         clear HC48
         by_cases c51 : t245.toList = a1.toList
         ·rw [if_pos c51] at H
          have c51b0 : (t245.toList == a1.toList) = true := beq_iff_eq.mpr c51
          have c51b1 : (t245.toList != a1.toList) = false := bne_eq_false_iff_eq.mpr c51
          clear c51
          (first | rw [c51b0] | (simp only [i64_w, i32_w]; rw [c51b0]) | skip)
          by_cases c52 : t246 = (t244.size : Int)
          ·rw [if_pos c52] at H
           have c52b0 : (t246 == (t244.size : Int)) = true := beq_iff_eq.mpr c52
           have c52b1 : (t246 != (t244.size : Int)) = false := bne_eq_false_iff_eq.mpr c52
           clear c52
           have H' := Aside0.mk H
           clear H
           go_wp2
           go_meet
           case rel => exact ⟨_, ((t247 != 0)), (by first | rfl | (simp; done) | (simp [*]; done)), H', ⟨by have := HJ8.out; have := HJ32.out; first | omega | exact Nat.le_refl _⟩, ⟨by (with_reducible repeat (first | refine blk_drewN ?_ _ | refine blk_drew ?_ | refine blk_alloc ?_ _)); exact BK231.out⟩, ⟨by (with_reducible repeat (first | refine blk_drewN ?_ _ | refine blk_drew ?_ | refine blk_alloc ?_ _)); exact BK232.out⟩, ⟨by (with_reducible repeat (first | refine blk_drewN ?_ _ | refine blk_drew ?_ | refine blk_alloc ?_ _)); exact BK233.out⟩, ⟨by repeat (first | (with_reducible first | exact HB.out | apply below_alloc | apply pw_below_drewN | apply below_drew1 | refine below_set ?_ GE231.out | refine below_set ?_ GE232.out | refine below_set ?_ GE233.out) | exact HB.out)⟩⟩
          ·rw [if_neg c52] at H
           have c52b0 : (t246 == (t244.size : Int)) = false := beq_eq_false_iff_ne.mpr c52
           have c52b1 : (t246 != (t244.size : Int)) = true := bne_iff_ne.mpr c52
           have H' := Aside0.mk H
           clear H
           go_wp2
           go_meet
           case rel => exact ⟨_, (true), (by first | rfl | (simp; done) | (simp [*]; done)), H', ⟨by have := HJ8.out; have := HJ32.out; first | omega | exact Nat.le_refl _⟩, ⟨by (with_reducible repeat (first | refine blk_drewN ?_ _ | refine blk_drew ?_ | refine blk_alloc ?_ _)); exact BK231.out⟩, ⟨by (with_reducible repeat (first | refine blk_drewN ?_ _ | refine blk_drew ?_ | refine blk_alloc ?_ _)); exact BK232.out⟩, ⟨by (with_reducible repeat (first | refine blk_drewN ?_ _ | refine blk_drew ?_ | refine blk_alloc ?_ _)); exact BK233.out⟩, ⟨by repeat (first | (with_reducible first | exact HB.out | apply below_alloc | apply pw_below_drewN | apply below_drew1 | refine below_set ?_ GE231.out | refine below_set ?_ GE232.out | refine below_set ?_ GE233.out) | exact HB.out)⟩⟩
         ·rw [if_neg c51] at H
          have c51b0 : (t245.toList == a1.toList) = false := beq_eq_false_iff_ne.mpr c51
          have c51b1 : (t245.toList != a1.toList) = true := bne_iff_ne.mpr c51
          (first | rw [c51b0] | (simp only [i64_w, i32_w]; rw [c51b0]) | skip)
          have H' := Aside0.mk H
          clear H
          go_wp2
          go_meet
          case rel => exact ⟨_, (true), (by first | rfl | (simp; done) | (simp [*]; done)), H', ⟨by have := HJ8.out; have := HJ32.out; first | omega | exact Nat.le_refl _⟩, ⟨by (with_reducible repeat (first | refine blk_drewN ?_ _ | refine blk_drew ?_ | refine blk_alloc ?_ _)); exact BK231.out⟩, ⟨by (with_reducible repeat (first | refine blk_drewN ?_ _ | refine blk_drew ?_ | refine blk_alloc ?_ _)); exact BK232.out⟩, ⟨by (with_reducible repeat (first | refine blk_drewN ?_ _ | refine blk_drew ?_ | refine blk_alloc ?_ _)); exact BK233.out⟩, ⟨by repeat (first | (with_reducible first | exact HB.out | apply below_alloc | apply pw_below_drewN | apply below_drew1 | refine below_set ?_ GE231.out | refine below_set ?_ GE232.out | refine below_set ?_ GE233.out) | exact HB.out)⟩⟩
        case rest =>
         clear HC48
         try clear c1
         try clear c2
         try clear p2
         try clear c3
         try clear c4
         try clear c5
         try clear c7
         try clear c8
         try clear c9
         try clear c14
         try clear c14b0
         try clear c14b1
         try clear c15
         try clear c15b0
         try clear c15b1
         try clear c16
         try clear c16b0
         try clear c16b1
         try clear c17
         try clear c18
         try clear c20
         try clear c20b0
         try clear c20b1
         try clear c21
         try clear c22
         try clear c23
         try clear c24
         try clear c26
         try clear c27
         try clear c29
         try clear c31
         try clear c35
         try clear c35b0
         try clear c35b1
         try clear c36
         try clear c36b0
         try clear c36b1
         try clear c36b2
         try clear c39
         try clear c40
         try clear c40b0
         try clear c40b1
         try clear c41
         try clear c41b0
         try clear c41b1
         try clear c46
         try clear c46b0
         try clear c46b1
         try clear c46b2
         try clear c51
         try clear c51b0
         try clear c51b1
         try clear c52
         try clear c52b0
         try clear c52b1
         try clear hcz19_0
         try clear hcz19_1
         try clear hcz19_10
         try clear hcz19_11
         try clear hcz19_12
         try clear hcz19_2
         try clear hcz19_3
         try clear hcz19_4
         try clear hcz19_5
         try clear hcz19_6
         try clear hcz19_7
         try clear hcz19_8
         try clear hcz19_9
         try clear hcz23_0
         try clear hcz23_1
         try clear hcz23_10
         try clear hcz23_11
         try clear hcz23_12
         try clear hcz23_2
         try clear hcz23_3
         try clear hcz23_4
         try clear hcz23_5
         try clear hcz23_6
         try clear hcz23_7
         try clear hcz23_8
         try clear hcz23_9
         try clear hcz25_0
         try clear hcz25_1
         try clear hcz25_10
         try clear hcz25_11
         try clear hcz25_12
         try clear hcz25_13
         try clear hcz25_14
         try clear hcz25_15
         try clear hcz25_16
         try clear hcz25_17
         try clear hcz25_18
         try clear hcz25_2
         try clear hcz25_3
         try clear hcz25_4
         try clear hcz25_5
         try clear hcz25_6
         try clear hcz25_7
         try clear hcz25_8
         try clear hcz25_9
         try clear hcz28_0
         try clear hcz28_1
         try clear hcz28_10
         try clear hcz28_11
         try clear hcz28_12
         try clear hcz28_2
         try clear hcz28_3
         try clear hcz28_4
         try clear hcz28_5
         try clear hcz28_6
         try clear hcz28_7
         try clear hcz28_8
         try clear hcz28_9
         try clear hcz30_0
         try clear hcz30_1
         try clear hcz30_10
         try clear hcz30_11
         try clear hcz30_12
         try clear hcz30_13
         try clear hcz30_14
         try clear hcz30_15
         try clear hcz30_16
         try clear hcz30_17
         try clear hcz30_18
         try clear hcz30_2
         try clear hcz30_3
         try clear hcz30_4
         try clear hcz30_5
         try clear hcz30_6
         try clear hcz30_7
         try clear hcz30_8
         try clear hcz30_9
         try clear hfz19_0
         try clear hfz19_1
         try clear hfz19_10
         try clear hfz19_11
         try clear hfz19_12
         try clear hfz19_2
         try clear hfz19_3
         try clear hfz19_4
         try clear hfz19_5
         try clear hfz19_6
         try clear hfz19_7
         try clear hfz19_8
         try clear hfz19_9
         try clear hfz23_0
         try clear hfz23_1
         try clear hfz23_10
         try clear hfz23_11
         try clear hfz23_12
         try clear hfz23_2
         try clear hfz23_3
         try clear hfz23_4
         try clear hfz23_5
         try clear hfz23_6
         try clear hfz23_7
         try clear hfz23_8
         try clear hfz23_9
         try clear hfz25_0
         try clear hfz25_1
         try clear hfz25_10
         try clear hfz25_11
         try clear hfz25_12
         try clear hfz25_13
         try clear hfz25_14
         try clear hfz25_15
         try clear hfz25_16
         try clear hfz25_17
         try clear hfz25_18
         try clear hfz25_2
         try clear hfz25_3
         try clear hfz25_4
         try clear hfz25_5
         try clear hfz25_6
         try clear hfz25_7
         try clear hfz25_8
         try clear hfz25_9
         try clear hfz28_0
         try clear hfz28_1
         try clear hfz28_10
         try clear hfz28_11
         try clear hfz28_12
         try clear hfz28_2
         try clear hfz28_3
         try clear hfz28_4
         try clear hfz28_5
         try clear hfz28_6
         try clear hfz28_7
         try clear hfz28_8
         try clear hfz28_9
         try clear hfz30_0
         try clear hfz30_1
         try clear hfz30_10
         try clear hfz30_11
         try clear hfz30_12
         try clear hfz30_13
         try clear hfz30_14
         try clear hfz30_15
         try clear hfz30_16
         try clear hfz30_17
         try clear hfz30_18
         try clear hfz30_2
         try clear hfz30_3
         try clear hfz30_4
         try clear hfz30_5
         try clear hfz30_6
         try clear hfz30_7
         try clear hfz30_8
         try clear hfz30_9
         try clear p2
         obtain ⟨kq, x115_47, rfl, HA, HJ47, BK231, BK232, BK233, HB⟩ := hcut
         cases kq with
         | zero => exact absurd HA.out (by simp [miradorlaw23_ServermsgBack.j2])
         | succ kj47 =>
          have H := HA.out
          clear HA
          simp only [miradorlaw23_ServermsgBack.j2] at H
          by_cases c53 : x115_47 = true
          ·subst c53
           have H1 : (some false) = some r := by rw [if_pos rfl] at H; exact H
           clear H
           have H := H1
           clear H1
           rw [HRT.out] at H
           exact absurd (Option.some.inj H) (by decide)
          ·replace c53 := Bool.eq_false_iff.mpr c53
           subst c53
           have H1 : ((servermsg_Bytes.f qu qv qw qx qy qz qA qB qC qD qE qF qt).bind fun bt248 => (if bt248.2 = 0 then (if bt248.1.size + a5.size ≤ 9223372036854775807 then ((servermsg_StartOf.f (bt248.1 ++ a5)).bind fun bt250 => (if (!(bt250.1 == qu) || (!(bt250.2.1 == qv) || ((!(bt250.2.2.1 == qw) || (!(bt250.2.2.2.1 == qx) || (!(bt250.2.2.2.2.1 == qy) || (!(bt250.2.2.2.2.2.1 == qz) || (!(bt250.2.2.2.2.2.2.1 == qA) || (!(bt250.2.2.2.2.2.2.2.1 == qB) || (!(bt250.2.2.2.2.2.2.2.2.1 == qC) || (!(bt250.2.2.2.2.2.2.2.2.2.1 == qD) || (!(bt250.2.2.2.2.2.2.2.2.2.2.1 == qE) || (!(bt250.2.2.2.2.2.2.2.2.2.2.2.1 == qF))))))))))) || (!(bt250.2.2.2.2.2.2.2.2.2.2.2.2.1.toList == qt.toList))))) = true then (some false) else (if bt250.2.2.2.2.2.2.2.2.2.2.2.2.2.1 = (bt248.1.size : Int) then (if bt250.2.2.2.2.2.2.2.2.2.2.2.2.2.2 = 0 then (miradorlaw23_ServermsgBack.j3 kj47 a5 true qG qH qI qJ qK qa qe qc qf qg qh qi qj qk ql qm qn qo qp qq qr qs qd qb) else (some false)) else (some false)))) else (none)) else (miradorlaw23_ServermsgBack.j3 kj47 a5 true qG qH qI qJ qK qa qe qc qf qg qh qi qj qk ql qm qn qo qp qq qr qs qd qb))) = some r := by rw [if_neg (show ¬ (false = true) by decide)] at H; exact H
           clear H
           have H := H1
           clear H1
           replace H := Option.bind_eq_some_iff.mp H
           obtain ⟨⟨t248, t249⟩, A540, H⟩ := H
           replace H : (if t249 = 0 then (if t248.size + a5.size ≤ 9223372036854775807 then ((servermsg_StartOf.f (t248 ++ a5)).bind fun bt250 => (if (!(bt250.1 == qu) || (!(bt250.2.1 == qv) || ((!(bt250.2.2.1 == qw) || (!(bt250.2.2.2.1 == qx) || (!(bt250.2.2.2.2.1 == qy) || (!(bt250.2.2.2.2.2.1 == qz) || (!(bt250.2.2.2.2.2.2.1 == qA) || (!(bt250.2.2.2.2.2.2.2.1 == qB) || (!(bt250.2.2.2.2.2.2.2.2.1 == qC) || (!(bt250.2.2.2.2.2.2.2.2.2.1 == qD) || (!(bt250.2.2.2.2.2.2.2.2.2.2.1 == qE) || (!(bt250.2.2.2.2.2.2.2.2.2.2.2.1 == qF))))))))))) || (!(bt250.2.2.2.2.2.2.2.2.2.2.2.2.1.toList == qt.toList))))) = true then (some false) else (if bt250.2.2.2.2.2.2.2.2.2.2.2.2.2.1 = (t248.size : Int) then (if bt250.2.2.2.2.2.2.2.2.2.2.2.2.2.2 = 0 then (miradorlaw23_ServermsgBack.j3 kj47 a5 true qG qH qI qJ qK qa qe qc qf qg qh qi qj qk ql qm qn qo qp qq qr qs qd qb) else (some false)) else (some false)))) else (none)) else (miradorlaw23_ServermsgBack.j3 kj47 a5 true qG qH qI qJ qK qa qe qc qf qg qh qi qj qk ql qm qn qo qp qq qr qs qd qb)) = some r := H
           have A54 := Aside0.mk A540
           clear A540
           have HC55 := Aside0.mk H
           clear H
           have hnb56 := NB231_232.out
           have hnc56 := NB232_231.out
           have hnb57 := NB231_233.out
           have hnc57 := NB233_231.out
           have hcz58_0 : wc.cell? ⟨gb231, 0, none⟩ = some (.int .i64 qu) := (blk_cell BK231.out 0).trans rfl
           have hcz58_1 : wc.cell? ⟨gb231, 1, none⟩ = some (.int .i64 qv) := (blk_cell BK231.out 1).trans rfl
           have hcz58_2 : wc.cell? ⟨gb231, 2, none⟩ = some (.int .i64 qw) := (blk_cell BK231.out 2).trans rfl
           have hcz58_3 : wc.cell? ⟨gb231, 3, none⟩ = some (.int .i64 qx) := (blk_cell BK231.out 3).trans rfl
           have hcz58_4 : wc.cell? ⟨gb231, 4, none⟩ = some (.bool qy) := (blk_cell BK231.out 4).trans rfl
           have hcz58_5 : wc.cell? ⟨gb231, 5, none⟩ = some (.bool qz) := (blk_cell BK231.out 5).trans rfl
           have hcz58_6 : wc.cell? ⟨gb231, 6, none⟩ = some (.int .i64 qA) := (blk_cell BK231.out 6).trans rfl
           have hcz58_7 : wc.cell? ⟨gb231, 7, none⟩ = some (.int .i64 qB) := (blk_cell BK231.out 7).trans rfl
           have hcz58_8 : wc.cell? ⟨gb231, 8, none⟩ = some (.int .i64 qC) := (blk_cell BK231.out 8).trans rfl
           have hcz58_9 : wc.cell? ⟨gb231, 9, none⟩ = some (.int .i64 qD) := (blk_cell BK231.out 9).trans rfl
           have hcz58_10 : wc.cell? ⟨gb231, 10, none⟩ = some (.int .i64 qE) := (blk_cell BK231.out 10).trans rfl
           have hcz58_11 : wc.cell? ⟨gb231, 11, none⟩ = some (.int .i64 qF) := (blk_cell BK231.out 11).trans rfl
           have hcz58_12 : wc.cell? ⟨gb231, 12, none⟩ = some (.string qt) := (blk_cell BK231.out 12).trans rfl
           have hrw5 : rowAt wc gb231 26 13 = true := rowAt_of (BK231.out) rfl
           have hrc5 : cellsAt wc gb231 = #[.int .i64 qu, .int .i64 qv, .int .i64 qw, .int .i64 qx, .bool qy, .bool qz, .int .i64 qA, .int .i64 qB, .int .i64 qC, .int .i64 qD, .int .i64 qE, .int .i64 qF, .string qt] := cellsAt_of (BK231.out)
           have hfz58_0 := blk_frozen BK231.out 0
           have hfz58_1 := blk_frozen BK231.out 1
           have hfz58_2 := blk_frozen BK231.out 2
           have hfz58_3 := blk_frozen BK231.out 3
           have hfz58_4 := blk_frozen BK231.out 4
           have hfz58_5 := blk_frozen BK231.out 5
           have hfz58_6 := blk_frozen BK231.out 6
           have hfz58_7 := blk_frozen BK231.out 7
           have hfz58_8 := blk_frozen BK231.out 8
           have hfz58_9 := blk_frozen BK231.out 9
           have hfz58_10 := blk_frozen BK231.out 10
           have hfz58_11 := blk_frozen BK231.out 11
           have hfz58_12 := blk_frozen BK231.out 12
           go_upto_if 122 with (first | ((with_reducible refine gate_callee (f := 11) rfl ?_); refine goesL_ (some 118) rfl rfl Try.func11 (by kernel_rfl) rfl #[.agg #[.int .i64 qu, .int .i64 qv, .int .i64 qw, .int .i64 qx, .bool qy, .bool qz, .int .i64 qA, .int .i64 qB, .int .i64 qC, .int .i64 qD, .int .i64 qE, .int .i64 qF, .string qt]] rfl (by (try simp only [List.map_toArray, List.map_cons, List.map_nil]); first | done | rfl | (simp only [List.length_drop, List.length_take]; rfl)) ?_; (with_reducible refine (servermsg_Bytes.calls qu qv qw qx qy qz qA qB qC qD qE qF qt t248 t249 _ A54.out).mono ?_); rintro e w59 ⟨rfl, hb⟩; refine ⟨_, rfl, ?_⟩; have n0_ := Aside0.mk (blk_below (g := gb231) (o := .cells #[.int .i64 qu, .int .i64 qv, .int .i64 qw, .int .i64 qx, .bool qy, .bool qz, .int .i64 qA, .int .i64 qB, .int .i64 qC, .int .i64 qD, .int .i64 qE, .int .i64 qF, .string qt] 26 (0, 0)) (by (with_reducible repeat (first | refine blk_drewN ?_ _ | refine blk_drew ?_ | refine blk_alloc ?_ _)); exact BK231.out) hb); have n1_ := Aside0.mk (blk_below (g := gb232) (o := .cells #[.int .i64 qG, .int .i64 qH, .int .i64 qI, .int .i64 qJ, .int .i64 qK] 30 (0, 0)) (by (with_reducible repeat (first | refine blk_drewN ?_ _ | refine blk_drew ?_ | refine blk_alloc ?_ _)); exact BK232.out) hb); have n2_ := Aside0.mk (blk_below (g := gb233) (o := .cells #[.int .i64 qa, .bool qe, .int .i64 qc, .int .i64 qf, .int .i64 qg, .int .i64 qh, .int .i64 qi, .int .i64 qj, .int .i64 qk, .bool ql, .bool qm, .int .i64 qn, .int .i64 qo, .int .i64 qp, .int .i64 qq, .int .i64 qr, .int .i64 qs, .slice qL qd.length qM, .string qb] 33 (0, 0)) (by (with_reducible repeat (first | refine blk_drewN ?_ _ | refine blk_drew ?_ | refine blk_alloc ?_ _)); exact BK233.out) hb); have n3_ := Aside0.mk (below_step (by repeat (first | (with_reducible first | exact HB.out | apply below_alloc | apply pw_below_drewN | apply below_drew1 | refine below_set ?_ GE231.out | refine below_set ?_ GE232.out | refine below_set ?_ GE233.out) | exact HB.out)) hb); clear BK231; clear BK232; clear BK233; clear HB; have BK231 := n0_; have BK232 := n1_; have BK233 := n2_; have HB := n3_; clear n0_ n1_ n2_ n3_; (try clear hb); (try clear hb2); (try clear hk); (try clear hi)))
           (try simp only [Act.put, List.setIfInBounds_toArray, List.set_cons_zero, List.set_cons_succ])
           go_cut [] (fun wc => ∃ (kq : Nat), Aside0 (miradorlaw23_ServermsgBack.j3 kq a5 true qG qH qI qJ qK qa qe qc qf qg qh qi qj qk ql qm qn qo qp qq qr qs qd qb = some r) ∧ Aside0 (kq ≤ kj47) ∧ Aside0 (wc.heap[gb231]? = some (.cells #[.int .i64 qu, .int .i64 qv, .int .i64 qw, .int .i64 qx, .bool qy, .bool qz, .int .i64 qA, .int .i64 qB, .int .i64 qC, .int .i64 qD, .int .i64 qE, .int .i64 qF, .string qt] 26 (0, 0))) ∧ Aside0 (wc.heap[gb232]? = some (.cells #[.int .i64 qG, .int .i64 qH, .int .i64 qI, .int .i64 qJ, .int .i64 qK] 30 (0, 0))) ∧ Aside0 (wc.heap[gb233]? = some (.cells #[.int .i64 qa, .bool qe, .int .i64 qc, .int .i64 qf, .int .i64 qg, .int .i64 qh, .int .i64 qi, .int .i64 qj, .int .i64 qk, .bool ql, .bool qm, .int .i64 qn, .int .i64 qo, .int .i64 qp, .int .i64 qq, .int .i64 qr, .int .i64 qs, (.slice qL qd.length qM), .string qb] 33 (0, 0))) ∧ Aside0 (Below w.heap.size w wc))
           case first => as_aux_lemma =>
            have H := HC55.out
            clear HC55
            by_cases c60 : t249 = 0
            ·rw [if_pos c60] at H
             have c60b0 : (t249 == 0) = true := beq_iff_eq.mpr c60
             have c60b1 : (t249 != 0) = false := bne_eq_false_iff_eq.mpr c60
             clear c60
             (first | rw [c60b0] | (simp only [i64_w, i32_w]; rw [c60b0]) | skip)
             by_cases c61 : t248.size + a5.size ≤ 9223372036854775807
             ·rw [if_pos c61] at H
              have c61b0 := eq_true c61
              have c61b1 : decide (t248.size + a5.size ≤ 9223372036854775807) = true := decide_eq_true c61
              try have c61b2 : (9223372036854775807 < t248.size + a5.size) = False := eq_false (Nat.not_lt.2 c61)
              replace H := Option.bind_eq_some_iff.mp H
              obtain ⟨⟨t250, t251, t252, t253, t254, t255, t256, t257, t258, t259, t260, t261, t262, t263, t264⟩, A620, H⟩ := H
              replace H : (if (!(t250 == qu) || (!(t251 == qv) || ((!(t252 == qw) || (!(t253 == qx) || (!(t254 == qy) || (!(t255 == qz) || (!(t256 == qA) || (!(t257 == qB) || (!(t258 == qC) || (!(t259 == qD) || (!(t260 == qE) || (!(t261 == qF))))))))))) || (!(t262.toList == qt.toList))))) = true then (some false) else (if t263 = (t248.size : Int) then (if t264 = 0 then (miradorlaw23_ServermsgBack.j3 kj47 a5 true qG qH qI qJ qK qa qe qc qf qg qh qi qj qk ql qm qn qo qp qq qr qs qd qb) else (some false)) else (some false))) = some r := H
              have A62 := Aside0.mk A620
              clear A620
              by_cases c63 : (!(t250 == qu) || (!(t251 == qv) || ((!(t252 == qw) || (!(t253 == qx) || (!(t254 == qy) || (!(t255 == qz) || (!(t256 == qA) || (!(t257 == qB) || (!(t258 == qC) || (!(t259 == qD) || (!(t260 == qE) || (!(t261 == qF))))))))))) || (!(t262.toList == qt.toList))))) = true
              ·rw [if_pos c63] at H
               have c63b0 : (!(t250 == qu) || (!(t251 == qv) || ((!(t252 == qw) || (!(t253 == qx) || (!(t254 == qy) || (!(t255 == qz) || (!(t256 == qA) || (!(t257 == qB) || (!(t258 == qC) || (!(t259 == qD) || (!(t260 == qE) || (!(t261 == qF))))))))))) || (!(t262.toList == qt.toList))))) = true := c63
               clear c63
               rw [HRT.out] at H
               exact absurd (Option.some.inj H) (by decide)
              ·rw [if_neg c63] at H
               have c63b0 : (!(t250 == qu) || (!(t251 == qv) || ((!(t252 == qw) || (!(t253 == qx) || (!(t254 == qy) || (!(t255 == qz) || (!(t256 == qA) || (!(t257 == qB) || (!(t258 == qC) || (!(t259 == qD) || (!(t260 == qE) || (!(t261 == qF))))))))))) || (!(t262.toList == qt.toList))))) = false := by simpa using c63
               clear c63
               by_cases c64 : t263 = (t248.size : Int)
               ·rw [if_pos c64] at H
                have c64b0 : (t263 == (t248.size : Int)) = true := beq_iff_eq.mpr c64
                have c64b1 : (t263 != (t248.size : Int)) = false := bne_eq_false_iff_eq.mpr c64
                clear c64
                by_cases c65 : t264 = 0
                ·as_aux_lemma =>
                 rw [if_pos c65] at H
                 have c65b0 : (t264 == 0) = true := beq_iff_eq.mpr c65
                 have c65b1 : (t264 != 0) = false := bne_eq_false_iff_eq.mpr c65
                 clear c65
                 have H' := Aside0.mk H
                 clear H
                 go_wp2_with (first | ((with_reducible refine gate_callee (f := 25) rfl ?_); refine goesL_ (some 127) rfl rfl Try.func25 (by kernel_rfl) rfl #[.string (t248 ++ a5)] rfl (by (try simp only [List.map_toArray, List.map_cons, List.map_nil]); first | done | rfl | (simp only [List.length_drop, List.length_take]; rfl)) ?_; (with_reducible refine (servermsg_StartOf.calls (t248 ++ a5) t250 t251 t252 t253 t254 t255 t256 t257 t258 t259 t260 t261 t262 t263 t264 _ A62.out).mono ?_); rintro e w66 ⟨rfl, hb⟩; refine ⟨_, rfl, ?_⟩; have n0_ := Aside0.mk (blk_below (g := gb231) (o := .cells #[.int .i64 qu, .int .i64 qv, .int .i64 qw, .int .i64 qx, .bool qy, .bool qz, .int .i64 qA, .int .i64 qB, .int .i64 qC, .int .i64 qD, .int .i64 qE, .int .i64 qF, .string qt] 26 (0, 0)) (by (with_reducible repeat (first | refine blk_drewN ?_ _ | refine blk_drew ?_ | refine blk_alloc ?_ _)); exact BK231.out) hb); have n1_ := Aside0.mk (blk_below (g := gb232) (o := .cells #[.int .i64 qG, .int .i64 qH, .int .i64 qI, .int .i64 qJ, .int .i64 qK] 30 (0, 0)) (by (with_reducible repeat (first | refine blk_drewN ?_ _ | refine blk_drew ?_ | refine blk_alloc ?_ _)); exact BK232.out) hb); have n2_ := Aside0.mk (blk_below (g := gb233) (o := .cells #[.int .i64 qa, .bool qe, .int .i64 qc, .int .i64 qf, .int .i64 qg, .int .i64 qh, .int .i64 qi, .int .i64 qj, .int .i64 qk, .bool ql, .bool qm, .int .i64 qn, .int .i64 qo, .int .i64 qp, .int .i64 qq, .int .i64 qr, .int .i64 qs, .slice qL qd.length qM, .string qb] 33 (0, 0)) (by (with_reducible repeat (first | refine blk_drewN ?_ _ | refine blk_drew ?_ | refine blk_alloc ?_ _)); exact BK233.out) hb); have n3_ := Aside0.mk (below_step (by repeat (first | (with_reducible first | exact HB.out | apply below_alloc | apply pw_below_drewN | apply below_drew1 | refine below_set ?_ GE231.out | refine below_set ?_ GE232.out | refine below_set ?_ GE233.out) | exact HB.out)) hb); clear BK231; clear BK232; clear BK233; clear HB; have BK231 := n0_; have BK232 := n1_; have BK233 := n2_; have HB := n3_; clear n0_ n1_ n2_ n3_; (try clear hb); (try clear hb2); (try clear hk); (try clear hi)) | ((with_reducible refine gate_dst (N := 24) rfl ?_); (try (refine gate_guard (by rfl) ?_; dsimp only)); refine box_event ?hg (N := 24) ?hd (cs := #[.int .i64 0, .int .i64 0, .int .i64 0, .int .i64 0, .bool false, .bool false, .int .i64 0, .int .i64 0, .int .i64 0, .int .i64 0, .int .i64 0, .int .i64 0, .string (⟨#[]⟩ : ByteArray)]) (t := 26) ?hr ?_; (case hd => rfl); (case hg => rfl); (case hr => first | (go_simp; done) | (go_simp; rfl)); intro gb265 hg w67 hbox hb; have n0_ := Aside0.mk (blk_below (g := gb231) (o := .cells #[.int .i64 qu, .int .i64 qv, .int .i64 qw, .int .i64 qx, .bool qy, .bool qz, .int .i64 qA, .int .i64 qB, .int .i64 qC, .int .i64 qD, .int .i64 qE, .int .i64 qF, .string qt] 26 (0, 0)) (by (with_reducible repeat (first | refine blk_drewN ?_ _ | refine blk_drew ?_ | refine blk_alloc ?_ _)); exact BK231.out) hb); have n1_ := Aside0.mk (blk_below (g := gb232) (o := .cells #[.int .i64 qG, .int .i64 qH, .int .i64 qI, .int .i64 qJ, .int .i64 qK] 30 (0, 0)) (by (with_reducible repeat (first | refine blk_drewN ?_ _ | refine blk_drew ?_ | refine blk_alloc ?_ _)); exact BK232.out) hb); have n2_ := Aside0.mk (blk_below (g := gb233) (o := .cells #[.int .i64 qa, .bool qe, .int .i64 qc, .int .i64 qf, .int .i64 qg, .int .i64 qh, .int .i64 qi, .int .i64 qj, .int .i64 qk, .bool ql, .bool qm, .int .i64 qn, .int .i64 qo, .int .i64 qp, .int .i64 qq, .int .i64 qr, .int .i64 qs, .slice qL qd.length qM, .string qb] 33 (0, 0)) (by (with_reducible repeat (first | refine blk_drewN ?_ _ | refine blk_drew ?_ | refine blk_alloc ?_ _)); exact BK233.out) hb); have n3_ := Aside0.mk (below_step (by repeat (first | (with_reducible first | exact HB.out | apply below_alloc | apply pw_below_drewN | apply below_drew1 | refine below_set ?_ GE231.out | refine below_set ?_ GE232.out | refine below_set ?_ GE233.out) | exact HB.out)) hb); have n4_ := Aside0.mk (hbox); have n5_ := Aside0.mk ((by rw [hg]; exact (below_size (by repeat (first | (with_reducible first | exact HB.out | apply below_alloc | apply pw_below_drewN | apply below_drew1 | refine below_set ?_ GE231.out | refine below_set ?_ GE232.out | refine below_set ?_ GE233.out) | exact HB.out))) : w.heap.size ≤ gb265)); have n6_ := Aside0.mk ((by rw [hg]; exact (below_size (by repeat (first | (with_reducible first | exact HB.out | apply below_alloc | apply pw_below_drewN | apply below_drew1 | refine below_set ?_ GE231.out | refine below_set ?_ GE232.out | refine below_set ?_ GE233.out) | exact HB.out))) : w.heap.size ≤ gb265)); have n7_ := Aside0.mk ((by rw [hg]; exact Nat.ne_of_lt (blk_lt (g := gb231) (o := .cells #[.int .i64 qu, .int .i64 qv, .int .i64 qw, .int .i64 qx, .bool qy, .bool qz, .int .i64 qA, .int .i64 qB, .int .i64 qC, .int .i64 qD, .int .i64 qE, .int .i64 qF, .string qt] 26 (0, 0)) (by (with_reducible repeat (first | refine blk_drewN ?_ _ | refine blk_drew ?_ | refine blk_alloc ?_ _)); exact BK231.out)) : gb231 ≠ gb265)); have n8_ := Aside0.mk ((by rw [hg]; exact Nat.ne_of_gt (blk_lt (g := gb231) (o := .cells #[.int .i64 qu, .int .i64 qv, .int .i64 qw, .int .i64 qx, .bool qy, .bool qz, .int .i64 qA, .int .i64 qB, .int .i64 qC, .int .i64 qD, .int .i64 qE, .int .i64 qF, .string qt] 26 (0, 0)) (by (with_reducible repeat (first | refine blk_drewN ?_ _ | refine blk_drew ?_ | refine blk_alloc ?_ _)); exact BK231.out)) : gb265 ≠ gb231)); have n9_ := Aside0.mk ((by rw [hg]; exact Nat.ne_of_lt (blk_lt (g := gb232) (o := .cells #[.int .i64 qG, .int .i64 qH, .int .i64 qI, .int .i64 qJ, .int .i64 qK] 30 (0, 0)) (by (with_reducible repeat (first | refine blk_drewN ?_ _ | refine blk_drew ?_ | refine blk_alloc ?_ _)); exact BK232.out)) : gb232 ≠ gb265)); have n10_ := Aside0.mk ((by rw [hg]; exact Nat.ne_of_gt (blk_lt (g := gb232) (o := .cells #[.int .i64 qG, .int .i64 qH, .int .i64 qI, .int .i64 qJ, .int .i64 qK] 30 (0, 0)) (by (with_reducible repeat (first | refine blk_drewN ?_ _ | refine blk_drew ?_ | refine blk_alloc ?_ _)); exact BK232.out)) : gb265 ≠ gb232)); have n11_ := Aside0.mk ((by rw [hg]; exact Nat.ne_of_lt (blk_lt (g := gb233) (o := .cells #[.int .i64 qa, .bool qe, .int .i64 qc, .int .i64 qf, .int .i64 qg, .int .i64 qh, .int .i64 qi, .int .i64 qj, .int .i64 qk, .bool ql, .bool qm, .int .i64 qn, .int .i64 qo, .int .i64 qp, .int .i64 qq, .int .i64 qr, .int .i64 qs, .slice qL qd.length qM, .string qb] 33 (0, 0)) (by (with_reducible repeat (first | refine blk_drewN ?_ _ | refine blk_drew ?_ | refine blk_alloc ?_ _)); exact BK233.out)) : gb233 ≠ gb265)); have n12_ := Aside0.mk ((by rw [hg]; exact Nat.ne_of_gt (blk_lt (g := gb233) (o := .cells #[.int .i64 qa, .bool qe, .int .i64 qc, .int .i64 qf, .int .i64 qg, .int .i64 qh, .int .i64 qi, .int .i64 qj, .int .i64 qk, .bool ql, .bool qm, .int .i64 qn, .int .i64 qo, .int .i64 qp, .int .i64 qq, .int .i64 qr, .int .i64 qs, .slice qL qd.length qM, .string qb] 33 (0, 0)) (by (with_reducible repeat (first | refine blk_drewN ?_ _ | refine blk_drew ?_ | refine blk_alloc ?_ _)); exact BK233.out)) : gb265 ≠ gb233)); clear BK231; clear BK232; clear BK233; clear HB; have BK231 := n0_; have BK232 := n1_; have BK233 := n2_; have HB := n3_; have BK265 := n4_; have GW265 := n5_; have GE265 := n6_; have NB231_265 := n7_; have NB265_231 := n8_; have NB232_265 := n9_; have NB265_232 := n10_; have NB233_265 := n11_; have NB265_233 := n12_; clear n0_ n1_ n2_ n3_ n4_ n5_ n6_ n7_ n8_ n9_ n10_ n11_ n12_; clear hb hbox hg; have hnb68 := NB265_231.out; have hnc68 := NB231_265.out; have hnb69 := NB265_232.out; have hnc69 := NB232_265.out; have hnb70 := NB265_233.out; have hnc70 := NB233_265.out; have hcz71_0 : w67.cell? ⟨gb265, 0, none⟩ = some (.int .i64 0) := (blk_cell BK265.out 0).trans rfl; have hcz71_1 : w67.cell? ⟨gb265, 1, none⟩ = some (.int .i64 0) := (blk_cell BK265.out 1).trans rfl; have hcz71_2 : w67.cell? ⟨gb265, 2, none⟩ = some (.int .i64 0) := (blk_cell BK265.out 2).trans rfl; have hcz71_3 : w67.cell? ⟨gb265, 3, none⟩ = some (.int .i64 0) := (blk_cell BK265.out 3).trans rfl; have hcz71_4 : w67.cell? ⟨gb265, 4, none⟩ = some (.bool false) := (blk_cell BK265.out 4).trans rfl; have hcz71_5 : w67.cell? ⟨gb265, 5, none⟩ = some (.bool false) := (blk_cell BK265.out 5).trans rfl; have hcz71_6 : w67.cell? ⟨gb265, 6, none⟩ = some (.int .i64 0) := (blk_cell BK265.out 6).trans rfl; have hcz71_7 : w67.cell? ⟨gb265, 7, none⟩ = some (.int .i64 0) := (blk_cell BK265.out 7).trans rfl; have hcz71_8 : w67.cell? ⟨gb265, 8, none⟩ = some (.int .i64 0) := (blk_cell BK265.out 8).trans rfl; have hcz71_9 : w67.cell? ⟨gb265, 9, none⟩ = some (.int .i64 0) := (blk_cell BK265.out 9).trans rfl; have hcz71_10 : w67.cell? ⟨gb265, 10, none⟩ = some (.int .i64 0) := (blk_cell BK265.out 10).trans rfl; have hcz71_11 : w67.cell? ⟨gb265, 11, none⟩ = some (.int .i64 0) := (blk_cell BK265.out 11).trans rfl; have hcz71_12 : w67.cell? ⟨gb265, 12, none⟩ = some (.string (⟨#[]⟩ : ByteArray)) := (blk_cell BK265.out 12).trans rfl; have hrw6 : rowAt w67 gb265 26 13 = true := rowAt_of (BK265.out) rfl; have hrc6 : cellsAt w67 gb265 = #[.int .i64 0, .int .i64 0, .int .i64 0, .int .i64 0, .bool false, .bool false, .int .i64 0, .int .i64 0, .int .i64 0, .int .i64 0, .int .i64 0, .int .i64 0, .string (⟨#[]⟩ : ByteArray)] := cellsAt_of (BK265.out); have hfz71_0 := blk_frozen BK265.out 0; have hfz71_1 := blk_frozen BK265.out 1; have hfz71_2 := blk_frozen BK265.out 2; have hfz71_3 := blk_frozen BK265.out 3; have hfz71_4 := blk_frozen BK265.out 4; have hfz71_5 := blk_frozen BK265.out 5; have hfz71_6 := blk_frozen BK265.out 6; have hfz71_7 := blk_frozen BK265.out 7; have hfz71_8 := blk_frozen BK265.out 8; have hfz71_9 := blk_frozen BK265.out 9; have hfz71_10 := blk_frozen BK265.out 10; have hfz71_11 := blk_frozen BK265.out 11; have hfz71_12 := blk_frozen BK265.out 12; have hnb72 := NB231_232.out; have hnc72 := NB232_231.out; have hnb73 := NB231_233.out; have hnc73 := NB233_231.out; have hcz74_0 : w67.cell? ⟨gb231, 0, none⟩ = some (.int .i64 qu) := (blk_cell BK231.out 0).trans rfl; have hcz74_1 : w67.cell? ⟨gb231, 1, none⟩ = some (.int .i64 qv) := (blk_cell BK231.out 1).trans rfl; have hcz74_2 : w67.cell? ⟨gb231, 2, none⟩ = some (.int .i64 qw) := (blk_cell BK231.out 2).trans rfl; have hcz74_3 : w67.cell? ⟨gb231, 3, none⟩ = some (.int .i64 qx) := (blk_cell BK231.out 3).trans rfl; have hcz74_4 : w67.cell? ⟨gb231, 4, none⟩ = some (.bool qy) := (blk_cell BK231.out 4).trans rfl; have hcz74_5 : w67.cell? ⟨gb231, 5, none⟩ = some (.bool qz) := (blk_cell BK231.out 5).trans rfl; have hcz74_6 : w67.cell? ⟨gb231, 6, none⟩ = some (.int .i64 qA) := (blk_cell BK231.out 6).trans rfl; have hcz74_7 : w67.cell? ⟨gb231, 7, none⟩ = some (.int .i64 qB) := (blk_cell BK231.out 7).trans rfl; have hcz74_8 : w67.cell? ⟨gb231, 8, none⟩ = some (.int .i64 qC) := (blk_cell BK231.out 8).trans rfl; have hcz74_9 : w67.cell? ⟨gb231, 9, none⟩ = some (.int .i64 qD) := (blk_cell BK231.out 9).trans rfl; have hcz74_10 : w67.cell? ⟨gb231, 10, none⟩ = some (.int .i64 qE) := (blk_cell BK231.out 10).trans rfl; have hcz74_11 : w67.cell? ⟨gb231, 11, none⟩ = some (.int .i64 qF) := (blk_cell BK231.out 11).trans rfl; have hcz74_12 : w67.cell? ⟨gb231, 12, none⟩ = some (.string qt) := (blk_cell BK231.out 12).trans rfl; have hrw7 : rowAt w67 gb231 26 13 = true := rowAt_of (BK231.out) rfl; have hrc7 : cellsAt w67 gb231 = #[.int .i64 qu, .int .i64 qv, .int .i64 qw, .int .i64 qx, .bool qy, .bool qz, .int .i64 qA, .int .i64 qB, .int .i64 qC, .int .i64 qD, .int .i64 qE, .int .i64 qF, .string qt] := cellsAt_of (BK231.out); have hfz74_0 := blk_frozen BK231.out 0; have hfz74_1 := blk_frozen BK231.out 1; have hfz74_2 := blk_frozen BK231.out 2; have hfz74_3 := blk_frozen BK231.out 3; have hfz74_4 := blk_frozen BK231.out 4; have hfz74_5 := blk_frozen BK231.out 5; have hfz74_6 := blk_frozen BK231.out 6; have hfz74_7 := blk_frozen BK231.out 7; have hfz74_8 := blk_frozen BK231.out 8; have hfz74_9 := blk_frozen BK231.out 9; have hfz74_10 := blk_frozen BK231.out 10; have hfz74_11 := blk_frozen BK231.out 11; have hfz74_12 := blk_frozen BK231.out 12))
                 go_meet
                 case rel => exact ⟨_, H', ⟨by have := HJ8.out; have := HJ32.out; have := HJ47.out; first | omega | exact Nat.le_refl _⟩, ⟨by refine blk_row ?_ NB231_265.out; (with_reducible repeat (first | refine blk_drewN ?_ _ | refine blk_drew ?_ | refine blk_alloc ?_ _)); exact BK231.out⟩, ⟨by refine blk_row ?_ NB232_265.out; (with_reducible repeat (first | refine blk_drewN ?_ _ | refine blk_drew ?_ | refine blk_alloc ?_ _)); exact BK232.out⟩, ⟨by refine blk_row ?_ NB233_265.out; (with_reducible repeat (first | refine blk_drewN ?_ _ | refine blk_drew ?_ | refine blk_alloc ?_ _)); exact BK233.out⟩, ⟨by repeat (first | (with_reducible first | exact HB.out | apply below_alloc | apply pw_below_drewN | apply below_drew1 | refine below_set ?_ GE231.out | refine below_set ?_ GE232.out | refine below_set ?_ GE233.out | refine below_row ?_ GE265.out _) | exact HB.out)⟩⟩
                ·rw [if_neg c65] at H
                 have c65b0 : (t264 == 0) = false := beq_eq_false_iff_ne.mpr c65
                 have c65b1 : (t264 != 0) = true := bne_iff_ne.mpr c65
                 rw [HRT.out] at H
                 exact absurd (Option.some.inj H) (by decide)
               ·rw [if_neg c64] at H
                have c64b0 : (t263 == (t248.size : Int)) = false := beq_eq_false_iff_ne.mpr c64
                have c64b1 : (t263 != (t248.size : Int)) = true := bne_iff_ne.mpr c64
                rw [HRT.out] at H
                exact absurd (Option.some.inj H) (by decide)
             ·rw [if_neg c61] at H
              exact absurd H (by simp)
            ·rw [if_neg c60] at H
             have c60b0 : (t249 == 0) = false := beq_eq_false_iff_ne.mpr c60
             have c60b1 : (t249 != 0) = true := bne_iff_ne.mpr c60
             (first | rw [c60b0] | (simp only [i64_w, i32_w]; rw [c60b0]) | skip)
             have H' := Aside0.mk H
             clear H
             go_wp2
             go_meet
             case rel => exact ⟨_, H', ⟨by have := HJ8.out; have := HJ32.out; have := HJ47.out; first | omega | exact Nat.le_refl _⟩, ⟨by (with_reducible repeat (first | refine blk_drewN ?_ _ | refine blk_drew ?_ | refine blk_alloc ?_ _)); exact BK231.out⟩, ⟨by (with_reducible repeat (first | refine blk_drewN ?_ _ | refine blk_drew ?_ | refine blk_alloc ?_ _)); exact BK232.out⟩, ⟨by (with_reducible repeat (first | refine blk_drewN ?_ _ | refine blk_drew ?_ | refine blk_alloc ?_ _)); exact BK233.out⟩, ⟨by repeat (first | (with_reducible first | exact HB.out | apply below_alloc | apply pw_below_drewN | apply below_drew1 | refine below_set ?_ GE231.out | refine below_set ?_ GE232.out | refine below_set ?_ GE233.out) | exact HB.out)⟩⟩
           case rest =>
            clear HC55
            try clear c1
            try clear c2
            try clear p2
            try clear c3
            try clear c4
            try clear c5
            try clear c6
            try clear c7
            try clear c8
            try clear c9
            try clear c11
            try clear c14
            try clear c14b0
            try clear c14b1
            try clear c15
            try clear c15b0
            try clear c15b1
            try clear c16
            try clear c16b0
            try clear c16b1
            try clear c17
            try clear c18
            try clear c20
            try clear c20b0
            try clear c20b1
            try clear c21
            try clear c22
            try clear c23
            try clear c24
            try clear c25
            try clear c26
            try clear c27
            try clear c29
            try clear c31
            try clear c35
            try clear c35b0
            try clear c35b1
            try clear c36
            try clear c36b0
            try clear c36b1
            try clear c36b2
            try clear c39
            try clear c40
            try clear c40b0
            try clear c40b1
            try clear c41
            try clear c41b0
            try clear c41b1
            try clear c46
            try clear c46b0
            try clear c46b1
            try clear c46b2
            try clear c51
            try clear c51b0
            try clear c51b1
            try clear c52
            try clear c52b0
            try clear c52b1
            try clear c53
            try clear c56
            try clear c57
            try clear c60
            try clear c60b0
            try clear c60b1
            try clear c61
            try clear c61b0
            try clear c61b1
            try clear c61b2
            try clear c63
            try clear c63b0
            try clear c64
            try clear c64b0
            try clear c64b1
            try clear c65
            try clear c65b0
            try clear c65b1
            try clear c68
            try clear c69
            try clear c70
            try clear c72
            try clear c73
            try clear hcz19_0
            try clear hcz19_1
            try clear hcz19_10
            try clear hcz19_11
            try clear hcz19_12
            try clear hcz19_2
            try clear hcz19_3
            try clear hcz19_4
            try clear hcz19_5
            try clear hcz19_6
            try clear hcz19_7
            try clear hcz19_8
            try clear hcz19_9
            try clear hcz23_0
            try clear hcz23_1
            try clear hcz23_10
            try clear hcz23_11
            try clear hcz23_12
            try clear hcz23_2
            try clear hcz23_3
            try clear hcz23_4
            try clear hcz23_5
            try clear hcz23_6
            try clear hcz23_7
            try clear hcz23_8
            try clear hcz23_9
            try clear hcz25_0
            try clear hcz25_1
            try clear hcz25_10
            try clear hcz25_11
            try clear hcz25_12
            try clear hcz25_13
            try clear hcz25_14
            try clear hcz25_15
            try clear hcz25_16
            try clear hcz25_17
            try clear hcz25_18
            try clear hcz25_2
            try clear hcz25_3
            try clear hcz25_4
            try clear hcz25_5
            try clear hcz25_6
            try clear hcz25_7
            try clear hcz25_8
            try clear hcz25_9
            try clear hcz28_0
            try clear hcz28_1
            try clear hcz28_10
            try clear hcz28_11
            try clear hcz28_12
            try clear hcz28_2
            try clear hcz28_3
            try clear hcz28_4
            try clear hcz28_5
            try clear hcz28_6
            try clear hcz28_7
            try clear hcz28_8
            try clear hcz28_9
            try clear hcz30_0
            try clear hcz30_1
            try clear hcz30_10
            try clear hcz30_11
            try clear hcz30_12
            try clear hcz30_13
            try clear hcz30_14
            try clear hcz30_15
            try clear hcz30_16
            try clear hcz30_17
            try clear hcz30_18
            try clear hcz30_2
            try clear hcz30_3
            try clear hcz30_4
            try clear hcz30_5
            try clear hcz30_6
            try clear hcz30_7
            try clear hcz30_8
            try clear hcz30_9
            try clear hcz58_0
            try clear hcz58_1
            try clear hcz58_10
            try clear hcz58_11
            try clear hcz58_12
            try clear hcz58_2
            try clear hcz58_3
            try clear hcz58_4
            try clear hcz58_5
            try clear hcz58_6
            try clear hcz58_7
            try clear hcz58_8
            try clear hcz58_9
            try clear hcz71_0
            try clear hcz71_1
            try clear hcz71_10
            try clear hcz71_11
            try clear hcz71_12
            try clear hcz71_2
            try clear hcz71_3
            try clear hcz71_4
            try clear hcz71_5
            try clear hcz71_6
            try clear hcz71_7
            try clear hcz71_8
            try clear hcz71_9
            try clear hcz74_0
            try clear hcz74_1
            try clear hcz74_10
            try clear hcz74_11
            try clear hcz74_12
            try clear hcz74_2
            try clear hcz74_3
            try clear hcz74_4
            try clear hcz74_5
            try clear hcz74_6
            try clear hcz74_7
            try clear hcz74_8
            try clear hcz74_9
            try clear hfz19_0
            try clear hfz19_1
            try clear hfz19_10
            try clear hfz19_11
            try clear hfz19_12
            try clear hfz19_2
            try clear hfz19_3
            try clear hfz19_4
            try clear hfz19_5
            try clear hfz19_6
            try clear hfz19_7
            try clear hfz19_8
            try clear hfz19_9
            try clear hfz23_0
            try clear hfz23_1
            try clear hfz23_10
            try clear hfz23_11
            try clear hfz23_12
            try clear hfz23_2
            try clear hfz23_3
            try clear hfz23_4
            try clear hfz23_5
            try clear hfz23_6
            try clear hfz23_7
            try clear hfz23_8
            try clear hfz23_9
            try clear hfz25_0
            try clear hfz25_1
            try clear hfz25_10
            try clear hfz25_11
            try clear hfz25_12
            try clear hfz25_13
            try clear hfz25_14
            try clear hfz25_15
            try clear hfz25_16
            try clear hfz25_17
            try clear hfz25_18
            try clear hfz25_2
            try clear hfz25_3
            try clear hfz25_4
            try clear hfz25_5
            try clear hfz25_6
            try clear hfz25_7
            try clear hfz25_8
            try clear hfz25_9
            try clear hfz28_0
            try clear hfz28_1
            try clear hfz28_10
            try clear hfz28_11
            try clear hfz28_12
            try clear hfz28_2
            try clear hfz28_3
            try clear hfz28_4
            try clear hfz28_5
            try clear hfz28_6
            try clear hfz28_7
            try clear hfz28_8
            try clear hfz28_9
            try clear hfz30_0
            try clear hfz30_1
            try clear hfz30_10
            try clear hfz30_11
            try clear hfz30_12
            try clear hfz30_13
            try clear hfz30_14
            try clear hfz30_15
            try clear hfz30_16
            try clear hfz30_17
            try clear hfz30_18
            try clear hfz30_2
            try clear hfz30_3
            try clear hfz30_4
            try clear hfz30_5
            try clear hfz30_6
            try clear hfz30_7
            try clear hfz30_8
            try clear hfz30_9
            try clear hfz58_0
            try clear hfz58_1
            try clear hfz58_10
            try clear hfz58_11
            try clear hfz58_12
            try clear hfz58_2
            try clear hfz58_3
            try clear hfz58_4
            try clear hfz58_5
            try clear hfz58_6
            try clear hfz58_7
            try clear hfz58_8
            try clear hfz58_9
            try clear hfz71_0
            try clear hfz71_1
            try clear hfz71_10
            try clear hfz71_11
            try clear hfz71_12
            try clear hfz71_2
            try clear hfz71_3
            try clear hfz71_4
            try clear hfz71_5
            try clear hfz71_6
            try clear hfz71_7
            try clear hfz71_8
            try clear hfz71_9
            try clear hfz74_0
            try clear hfz74_1
            try clear hfz74_10
            try clear hfz74_11
            try clear hfz74_12
            try clear hfz74_2
            try clear hfz74_3
            try clear hfz74_4
            try clear hfz74_5
            try clear hfz74_6
            try clear hfz74_7
            try clear hfz74_8
            try clear hfz74_9
            try clear p2
            obtain ⟨kq, HA, HJ54, BK231, BK232, BK233, HB⟩ := hcut
            cases kq with
            | zero => exact absurd HA.out (by simp [miradorlaw23_ServermsgBack.j3])
            | succ kj54 =>
             have H := HA.out
             clear HA
             simp only [miradorlaw23_ServermsgBack.j3] at H
             replace H := Option.bind_eq_some_iff.mp H
             obtain ⟨⟨t266, t267⟩, A750, H⟩ := H
             replace H : (if t267 = 0 then (if t266.size + a5.size ≤ 9223372036854775807 then ((servermsg_HeadOf.f (t266 ++ a5)).bind fun bt268 => (if ((!(bt268.1 == qG) || (!(bt268.2.1 == qH) || (!(bt268.2.2.1 == qI) || (!(bt268.2.2.2.1 == qJ))))) || (!(bt268.2.2.2.2.1 == qK))) = true then (some false) else (if bt268.2.2.2.2.2.1 = (t266.size : Int) then (if bt268.2.2.2.2.2.2 = 0 then (miradorlaw23_ServermsgBack.j4 kj54 a5 true qa qe qc qf qg qh qi qj qk ql qm qn qo qp qq qr qs qd qb) else (some false)) else (some false)))) else (none)) else (miradorlaw23_ServermsgBack.j4 kj54 a5 true qa qe qc qf qg qh qi qj qk ql qm qn qo qp qq qr qs qd qb)) = some r := H
             have A75 := Aside0.mk A750
             clear A750
             have HC76 := Aside0.mk H
             clear H
             have hnb77 := NB232_231.out
             have hnc77 := NB231_232.out
             have hnb78 := NB232_233.out
             have hnc78 := NB233_232.out
             have hcz79_0 : wc.cell? ⟨gb232, 0, none⟩ = some (.int .i64 qG) := (blk_cell BK232.out 0).trans rfl
             have hcz79_1 : wc.cell? ⟨gb232, 1, none⟩ = some (.int .i64 qH) := (blk_cell BK232.out 1).trans rfl
             have hcz79_2 : wc.cell? ⟨gb232, 2, none⟩ = some (.int .i64 qI) := (blk_cell BK232.out 2).trans rfl
             have hcz79_3 : wc.cell? ⟨gb232, 3, none⟩ = some (.int .i64 qJ) := (blk_cell BK232.out 3).trans rfl
             have hcz79_4 : wc.cell? ⟨gb232, 4, none⟩ = some (.int .i64 qK) := (blk_cell BK232.out 4).trans rfl
             have hrw8 : rowAt wc gb232 30 5 = true := rowAt_of (BK232.out) rfl
             have hrc8 : cellsAt wc gb232 = #[.int .i64 qG, .int .i64 qH, .int .i64 qI, .int .i64 qJ, .int .i64 qK] := cellsAt_of (BK232.out)
             have hfz79_0 := blk_frozen BK232.out 0
             have hfz79_1 := blk_frozen BK232.out 1
             have hfz79_2 := blk_frozen BK232.out 2
             have hfz79_3 := blk_frozen BK232.out 3
             have hfz79_4 := blk_frozen BK232.out 4
             go_upto_if 150 with (first | ((with_reducible refine gate_callee (f := 13) rfl ?_); refine goesL_ (some 146) rfl rfl Try.func13 (by kernel_rfl) rfl #[.agg #[.int .i64 qG, .int .i64 qH, .int .i64 qI, .int .i64 qJ, .int .i64 qK]] rfl (by (try simp only [List.map_toArray, List.map_cons, List.map_nil]); first | done | rfl | (simp only [List.length_drop, List.length_take]; rfl)) ?_; (with_reducible refine (servermsg_Put.calls qG qH qI qJ qK t266 t267 _ A75.out).mono ?_); rintro e w80 ⟨rfl, hb⟩; refine ⟨_, rfl, ?_⟩; have n0_ := Aside0.mk (blk_below (g := gb231) (o := .cells #[.int .i64 qu, .int .i64 qv, .int .i64 qw, .int .i64 qx, .bool qy, .bool qz, .int .i64 qA, .int .i64 qB, .int .i64 qC, .int .i64 qD, .int .i64 qE, .int .i64 qF, .string qt] 26 (0, 0)) (by (with_reducible repeat (first | refine blk_drewN ?_ _ | refine blk_drew ?_ | refine blk_alloc ?_ _)); exact BK231.out) hb); have n1_ := Aside0.mk (blk_below (g := gb232) (o := .cells #[.int .i64 qG, .int .i64 qH, .int .i64 qI, .int .i64 qJ, .int .i64 qK] 30 (0, 0)) (by (with_reducible repeat (first | refine blk_drewN ?_ _ | refine blk_drew ?_ | refine blk_alloc ?_ _)); exact BK232.out) hb); have n2_ := Aside0.mk (blk_below (g := gb233) (o := .cells #[.int .i64 qa, .bool qe, .int .i64 qc, .int .i64 qf, .int .i64 qg, .int .i64 qh, .int .i64 qi, .int .i64 qj, .int .i64 qk, .bool ql, .bool qm, .int .i64 qn, .int .i64 qo, .int .i64 qp, .int .i64 qq, .int .i64 qr, .int .i64 qs, .slice qL qd.length qM, .string qb] 33 (0, 0)) (by (with_reducible repeat (first | refine blk_drewN ?_ _ | refine blk_drew ?_ | refine blk_alloc ?_ _)); exact BK233.out) hb); have n3_ := Aside0.mk (below_step (by repeat (first | (with_reducible first | exact HB.out | apply below_alloc | apply pw_below_drewN | apply below_drew1 | refine below_set ?_ GE231.out | refine below_set ?_ GE232.out | refine below_set ?_ GE233.out) | exact HB.out)) hb); clear BK231; clear BK232; clear BK233; clear HB; have BK231 := n0_; have BK232 := n1_; have BK233 := n2_; have HB := n3_; clear n0_ n1_ n2_ n3_; (try clear hb); (try clear hb2); (try clear hk); (try clear hi)))
             (try simp only [Act.put, List.setIfInBounds_toArray, List.set_cons_zero, List.set_cons_succ])
             go_cut [] (fun wc => ∃ (kq : Nat), Aside0 (miradorlaw23_ServermsgBack.j4 kq a5 true qa qe qc qf qg qh qi qj qk ql qm qn qo qp qq qr qs qd qb = some r) ∧ Aside0 (kq ≤ kj54) ∧ Aside0 (wc.heap[gb231]? = some (.cells #[.int .i64 qu, .int .i64 qv, .int .i64 qw, .int .i64 qx, .bool qy, .bool qz, .int .i64 qA, .int .i64 qB, .int .i64 qC, .int .i64 qD, .int .i64 qE, .int .i64 qF, .string qt] 26 (0, 0))) ∧ Aside0 (wc.heap[gb232]? = some (.cells #[.int .i64 qG, .int .i64 qH, .int .i64 qI, .int .i64 qJ, .int .i64 qK] 30 (0, 0))) ∧ Aside0 (wc.heap[gb233]? = some (.cells #[.int .i64 qa, .bool qe, .int .i64 qc, .int .i64 qf, .int .i64 qg, .int .i64 qh, .int .i64 qi, .int .i64 qj, .int .i64 qk, .bool ql, .bool qm, .int .i64 qn, .int .i64 qo, .int .i64 qp, .int .i64 qq, .int .i64 qr, .int .i64 qs, (.slice qL qd.length qM), .string qb] 33 (0, 0))) ∧ Aside0 (Below w.heap.size w wc))
             case first => as_aux_lemma =>
              have H := HC76.out
              clear HC76
              by_cases c81 : t267 = 0
              ·rw [if_pos c81] at H
               have c81b0 : (t267 == 0) = true := beq_iff_eq.mpr c81
               have c81b1 : (t267 != 0) = false := bne_eq_false_iff_eq.mpr c81
               clear c81
               (first | rw [c81b0] | (simp only [i64_w, i32_w]; rw [c81b0]) | skip)
               by_cases c82 : t266.size + a5.size ≤ 9223372036854775807
               ·rw [if_pos c82] at H
                have c82b0 := eq_true c82
                have c82b1 : decide (t266.size + a5.size ≤ 9223372036854775807) = true := decide_eq_true c82
                try have c82b2 : (9223372036854775807 < t266.size + a5.size) = False := eq_false (Nat.not_lt.2 c82)
                replace H := Option.bind_eq_some_iff.mp H
                obtain ⟨⟨t268, t269, t270, t271, t272, t273, t274⟩, A830, H⟩ := H
                replace H : (if ((!(t268 == qG) || (!(t269 == qH) || (!(t270 == qI) || (!(t271 == qJ))))) || (!(t272 == qK))) = true then (some false) else (if t273 = (t266.size : Int) then (if t274 = 0 then (miradorlaw23_ServermsgBack.j4 kj54 a5 true qa qe qc qf qg qh qi qj qk ql qm qn qo qp qq qr qs qd qb) else (some false)) else (some false))) = some r := H
                have A83 := Aside0.mk A830
                clear A830
                by_cases c84 : ((!(t268 == qG) || (!(t269 == qH) || (!(t270 == qI) || (!(t271 == qJ))))) || (!(t272 == qK))) = true
                ·rw [if_pos c84] at H
                 have c84b0 : ((!(t268 == qG) || (!(t269 == qH) || (!(t270 == qI) || (!(t271 == qJ))))) || (!(t272 == qK))) = true := c84
                 clear c84
                 rw [HRT.out] at H
                 exact absurd (Option.some.inj H) (by decide)
                ·rw [if_neg c84] at H
                 have c84b0 : ((!(t268 == qG) || (!(t269 == qH) || (!(t270 == qI) || (!(t271 == qJ))))) || (!(t272 == qK))) = false := by simpa using c84
                 clear c84
                 by_cases c85 : t273 = (t266.size : Int)
                 ·rw [if_pos c85] at H
                  have c85b0 : (t273 == (t266.size : Int)) = true := beq_iff_eq.mpr c85
                  have c85b1 : (t273 != (t266.size : Int)) = false := bne_eq_false_iff_eq.mpr c85
                  clear c85
                  by_cases c86 : t274 = 0
                  ·as_aux_lemma =>
                   rw [if_pos c86] at H
                   have c86b0 : (t274 == 0) = true := beq_iff_eq.mpr c86
                   have c86b1 : (t274 != 0) = false := bne_eq_false_iff_eq.mpr c86
                   clear c86
                   have H' := Aside0.mk H
                   clear H
                   go_wp2_with (first | ((with_reducible refine gate_callee (f := 27) rfl ?_); refine goesL_ (some 155) rfl rfl Try.func27 (by kernel_rfl) rfl #[.string (t266 ++ a5)] rfl (by (try simp only [List.map_toArray, List.map_cons, List.map_nil]); first | done | rfl | (simp only [List.length_drop, List.length_take]; rfl)) ?_; (with_reducible refine (servermsg_HeadOf.calls (t266 ++ a5) t268 t269 t270 t271 t272 t273 t274 _ A83.out).mono ?_); rintro e w87 ⟨rfl, hb⟩; refine ⟨_, rfl, ?_⟩; have n0_ := Aside0.mk (blk_below (g := gb231) (o := .cells #[.int .i64 qu, .int .i64 qv, .int .i64 qw, .int .i64 qx, .bool qy, .bool qz, .int .i64 qA, .int .i64 qB, .int .i64 qC, .int .i64 qD, .int .i64 qE, .int .i64 qF, .string qt] 26 (0, 0)) (by (with_reducible repeat (first | refine blk_drewN ?_ _ | refine blk_drew ?_ | refine blk_alloc ?_ _)); exact BK231.out) hb); have n1_ := Aside0.mk (blk_below (g := gb232) (o := .cells #[.int .i64 qG, .int .i64 qH, .int .i64 qI, .int .i64 qJ, .int .i64 qK] 30 (0, 0)) (by (with_reducible repeat (first | refine blk_drewN ?_ _ | refine blk_drew ?_ | refine blk_alloc ?_ _)); exact BK232.out) hb); have n2_ := Aside0.mk (blk_below (g := gb233) (o := .cells #[.int .i64 qa, .bool qe, .int .i64 qc, .int .i64 qf, .int .i64 qg, .int .i64 qh, .int .i64 qi, .int .i64 qj, .int .i64 qk, .bool ql, .bool qm, .int .i64 qn, .int .i64 qo, .int .i64 qp, .int .i64 qq, .int .i64 qr, .int .i64 qs, .slice qL qd.length qM, .string qb] 33 (0, 0)) (by (with_reducible repeat (first | refine blk_drewN ?_ _ | refine blk_drew ?_ | refine blk_alloc ?_ _)); exact BK233.out) hb); have n3_ := Aside0.mk (below_step (by repeat (first | (with_reducible first | exact HB.out | apply below_alloc | apply pw_below_drewN | apply below_drew1 | refine below_set ?_ GE231.out | refine below_set ?_ GE232.out | refine below_set ?_ GE233.out) | exact HB.out)) hb); clear BK231; clear BK232; clear BK233; clear HB; have BK231 := n0_; have BK232 := n1_; have BK233 := n2_; have HB := n3_; clear n0_ n1_ n2_ n3_; (try clear hb); (try clear hb2); (try clear hk); (try clear hi)) | ((with_reducible refine gate_dst (N := 27) rfl ?_); (try (refine gate_guard (by rfl) ?_; dsimp only)); refine box_event ?hg (N := 27) ?hd (cs := #[.int .i64 0, .int .i64 0, .int .i64 0, .int .i64 0, .int .i64 0]) (t := 30) ?hr ?_; (case hd => rfl); (case hg => rfl); (case hr => first | (go_simp; done) | (go_simp; rfl)); intro gb275 hg w88 hbox hb; have n0_ := Aside0.mk (blk_below (g := gb231) (o := .cells #[.int .i64 qu, .int .i64 qv, .int .i64 qw, .int .i64 qx, .bool qy, .bool qz, .int .i64 qA, .int .i64 qB, .int .i64 qC, .int .i64 qD, .int .i64 qE, .int .i64 qF, .string qt] 26 (0, 0)) (by (with_reducible repeat (first | refine blk_drewN ?_ _ | refine blk_drew ?_ | refine blk_alloc ?_ _)); exact BK231.out) hb); have n1_ := Aside0.mk (blk_below (g := gb232) (o := .cells #[.int .i64 qG, .int .i64 qH, .int .i64 qI, .int .i64 qJ, .int .i64 qK] 30 (0, 0)) (by (with_reducible repeat (first | refine blk_drewN ?_ _ | refine blk_drew ?_ | refine blk_alloc ?_ _)); exact BK232.out) hb); have n2_ := Aside0.mk (blk_below (g := gb233) (o := .cells #[.int .i64 qa, .bool qe, .int .i64 qc, .int .i64 qf, .int .i64 qg, .int .i64 qh, .int .i64 qi, .int .i64 qj, .int .i64 qk, .bool ql, .bool qm, .int .i64 qn, .int .i64 qo, .int .i64 qp, .int .i64 qq, .int .i64 qr, .int .i64 qs, .slice qL qd.length qM, .string qb] 33 (0, 0)) (by (with_reducible repeat (first | refine blk_drewN ?_ _ | refine blk_drew ?_ | refine blk_alloc ?_ _)); exact BK233.out) hb); have n3_ := Aside0.mk (below_step (by repeat (first | (with_reducible first | exact HB.out | apply below_alloc | apply pw_below_drewN | apply below_drew1 | refine below_set ?_ GE231.out | refine below_set ?_ GE232.out | refine below_set ?_ GE233.out) | exact HB.out)) hb); have n4_ := Aside0.mk (hbox); have n5_ := Aside0.mk ((by rw [hg]; exact (below_size (by repeat (first | (with_reducible first | exact HB.out | apply below_alloc | apply pw_below_drewN | apply below_drew1 | refine below_set ?_ GE231.out | refine below_set ?_ GE232.out | refine below_set ?_ GE233.out) | exact HB.out))) : w.heap.size ≤ gb275)); have n6_ := Aside0.mk ((by rw [hg]; exact (below_size (by repeat (first | (with_reducible first | exact HB.out | apply below_alloc | apply pw_below_drewN | apply below_drew1 | refine below_set ?_ GE231.out | refine below_set ?_ GE232.out | refine below_set ?_ GE233.out) | exact HB.out))) : w.heap.size ≤ gb275)); have n7_ := Aside0.mk ((by rw [hg]; exact Nat.ne_of_lt (blk_lt (g := gb231) (o := .cells #[.int .i64 qu, .int .i64 qv, .int .i64 qw, .int .i64 qx, .bool qy, .bool qz, .int .i64 qA, .int .i64 qB, .int .i64 qC, .int .i64 qD, .int .i64 qE, .int .i64 qF, .string qt] 26 (0, 0)) (by (with_reducible repeat (first | refine blk_drewN ?_ _ | refine blk_drew ?_ | refine blk_alloc ?_ _)); exact BK231.out)) : gb231 ≠ gb275)); have n8_ := Aside0.mk ((by rw [hg]; exact Nat.ne_of_gt (blk_lt (g := gb231) (o := .cells #[.int .i64 qu, .int .i64 qv, .int .i64 qw, .int .i64 qx, .bool qy, .bool qz, .int .i64 qA, .int .i64 qB, .int .i64 qC, .int .i64 qD, .int .i64 qE, .int .i64 qF, .string qt] 26 (0, 0)) (by (with_reducible repeat (first | refine blk_drewN ?_ _ | refine blk_drew ?_ | refine blk_alloc ?_ _)); exact BK231.out)) : gb275 ≠ gb231)); have n9_ := Aside0.mk ((by rw [hg]; exact Nat.ne_of_lt (blk_lt (g := gb232) (o := .cells #[.int .i64 qG, .int .i64 qH, .int .i64 qI, .int .i64 qJ, .int .i64 qK] 30 (0, 0)) (by (with_reducible repeat (first | refine blk_drewN ?_ _ | refine blk_drew ?_ | refine blk_alloc ?_ _)); exact BK232.out)) : gb232 ≠ gb275)); have n10_ := Aside0.mk ((by rw [hg]; exact Nat.ne_of_gt (blk_lt (g := gb232) (o := .cells #[.int .i64 qG, .int .i64 qH, .int .i64 qI, .int .i64 qJ, .int .i64 qK] 30 (0, 0)) (by (with_reducible repeat (first | refine blk_drewN ?_ _ | refine blk_drew ?_ | refine blk_alloc ?_ _)); exact BK232.out)) : gb275 ≠ gb232)); have n11_ := Aside0.mk ((by rw [hg]; exact Nat.ne_of_lt (blk_lt (g := gb233) (o := .cells #[.int .i64 qa, .bool qe, .int .i64 qc, .int .i64 qf, .int .i64 qg, .int .i64 qh, .int .i64 qi, .int .i64 qj, .int .i64 qk, .bool ql, .bool qm, .int .i64 qn, .int .i64 qo, .int .i64 qp, .int .i64 qq, .int .i64 qr, .int .i64 qs, .slice qL qd.length qM, .string qb] 33 (0, 0)) (by (with_reducible repeat (first | refine blk_drewN ?_ _ | refine blk_drew ?_ | refine blk_alloc ?_ _)); exact BK233.out)) : gb233 ≠ gb275)); have n12_ := Aside0.mk ((by rw [hg]; exact Nat.ne_of_gt (blk_lt (g := gb233) (o := .cells #[.int .i64 qa, .bool qe, .int .i64 qc, .int .i64 qf, .int .i64 qg, .int .i64 qh, .int .i64 qi, .int .i64 qj, .int .i64 qk, .bool ql, .bool qm, .int .i64 qn, .int .i64 qo, .int .i64 qp, .int .i64 qq, .int .i64 qr, .int .i64 qs, .slice qL qd.length qM, .string qb] 33 (0, 0)) (by (with_reducible repeat (first | refine blk_drewN ?_ _ | refine blk_drew ?_ | refine blk_alloc ?_ _)); exact BK233.out)) : gb275 ≠ gb233)); clear BK231; clear BK232; clear BK233; clear HB; have BK231 := n0_; have BK232 := n1_; have BK233 := n2_; have HB := n3_; have BK275 := n4_; have GW275 := n5_; have GE275 := n6_; have NB231_275 := n7_; have NB275_231 := n8_; have NB232_275 := n9_; have NB275_232 := n10_; have NB233_275 := n11_; have NB275_233 := n12_; clear n0_ n1_ n2_ n3_ n4_ n5_ n6_ n7_ n8_ n9_ n10_ n11_ n12_; clear hb hbox hg; have hnb89 := NB275_231.out; have hnc89 := NB231_275.out; have hnb90 := NB275_232.out; have hnc90 := NB232_275.out; have hnb91 := NB275_233.out; have hnc91 := NB233_275.out; have hcz92_0 : w88.cell? ⟨gb275, 0, none⟩ = some (.int .i64 0) := (blk_cell BK275.out 0).trans rfl; have hcz92_1 : w88.cell? ⟨gb275, 1, none⟩ = some (.int .i64 0) := (blk_cell BK275.out 1).trans rfl; have hcz92_2 : w88.cell? ⟨gb275, 2, none⟩ = some (.int .i64 0) := (blk_cell BK275.out 2).trans rfl; have hcz92_3 : w88.cell? ⟨gb275, 3, none⟩ = some (.int .i64 0) := (blk_cell BK275.out 3).trans rfl; have hcz92_4 : w88.cell? ⟨gb275, 4, none⟩ = some (.int .i64 0) := (blk_cell BK275.out 4).trans rfl; have hrw9 : rowAt w88 gb275 30 5 = true := rowAt_of (BK275.out) rfl; have hrc9 : cellsAt w88 gb275 = #[.int .i64 0, .int .i64 0, .int .i64 0, .int .i64 0, .int .i64 0] := cellsAt_of (BK275.out); have hfz92_0 := blk_frozen BK275.out 0; have hfz92_1 := blk_frozen BK275.out 1; have hfz92_2 := blk_frozen BK275.out 2; have hfz92_3 := blk_frozen BK275.out 3; have hfz92_4 := blk_frozen BK275.out 4; have hnb93 := NB232_231.out; have hnc93 := NB231_232.out; have hnb94 := NB232_233.out; have hnc94 := NB233_232.out; have hcz95_0 : w88.cell? ⟨gb232, 0, none⟩ = some (.int .i64 qG) := (blk_cell BK232.out 0).trans rfl; have hcz95_1 : w88.cell? ⟨gb232, 1, none⟩ = some (.int .i64 qH) := (blk_cell BK232.out 1).trans rfl; have hcz95_2 : w88.cell? ⟨gb232, 2, none⟩ = some (.int .i64 qI) := (blk_cell BK232.out 2).trans rfl; have hcz95_3 : w88.cell? ⟨gb232, 3, none⟩ = some (.int .i64 qJ) := (blk_cell BK232.out 3).trans rfl; have hcz95_4 : w88.cell? ⟨gb232, 4, none⟩ = some (.int .i64 qK) := (blk_cell BK232.out 4).trans rfl; have hrw10 : rowAt w88 gb232 30 5 = true := rowAt_of (BK232.out) rfl; have hrc10 : cellsAt w88 gb232 = #[.int .i64 qG, .int .i64 qH, .int .i64 qI, .int .i64 qJ, .int .i64 qK] := cellsAt_of (BK232.out); have hfz95_0 := blk_frozen BK232.out 0; have hfz95_1 := blk_frozen BK232.out 1; have hfz95_2 := blk_frozen BK232.out 2; have hfz95_3 := blk_frozen BK232.out 3; have hfz95_4 := blk_frozen BK232.out 4))
                   go_meet
                   case rel => exact ⟨_, H', ⟨by have := HJ8.out; have := HJ32.out; have := HJ47.out; have := HJ54.out; first | omega | exact Nat.le_refl _⟩, ⟨by refine blk_row ?_ NB231_275.out; (with_reducible repeat (first | refine blk_drewN ?_ _ | refine blk_drew ?_ | refine blk_alloc ?_ _)); exact BK231.out⟩, ⟨by refine blk_row ?_ NB232_275.out; (with_reducible repeat (first | refine blk_drewN ?_ _ | refine blk_drew ?_ | refine blk_alloc ?_ _)); exact BK232.out⟩, ⟨by refine blk_row ?_ NB233_275.out; (with_reducible repeat (first | refine blk_drewN ?_ _ | refine blk_drew ?_ | refine blk_alloc ?_ _)); exact BK233.out⟩, ⟨by repeat (first | (with_reducible first | exact HB.out | apply below_alloc | apply pw_below_drewN | apply below_drew1 | refine below_set ?_ GE231.out | refine below_set ?_ GE232.out | refine below_set ?_ GE233.out | refine below_row ?_ GE275.out _) | exact HB.out)⟩⟩
                  ·rw [if_neg c86] at H
                   have c86b0 : (t274 == 0) = false := beq_eq_false_iff_ne.mpr c86
                   have c86b1 : (t274 != 0) = true := bne_iff_ne.mpr c86
                   rw [HRT.out] at H
                   exact absurd (Option.some.inj H) (by decide)
                 ·rw [if_neg c85] at H
                  have c85b0 : (t273 == (t266.size : Int)) = false := beq_eq_false_iff_ne.mpr c85
                  have c85b1 : (t273 != (t266.size : Int)) = true := bne_iff_ne.mpr c85
                  rw [HRT.out] at H
                  exact absurd (Option.some.inj H) (by decide)
               ·rw [if_neg c82] at H
                exact absurd H (by simp)
              ·rw [if_neg c81] at H
               have c81b0 : (t267 == 0) = false := beq_eq_false_iff_ne.mpr c81
               have c81b1 : (t267 != 0) = true := bne_iff_ne.mpr c81
               (first | rw [c81b0] | (simp only [i64_w, i32_w]; rw [c81b0]) | skip)
               have H' := Aside0.mk H
               clear H
               go_wp2
               go_meet
               case rel => exact ⟨_, H', ⟨by have := HJ8.out; have := HJ32.out; have := HJ47.out; have := HJ54.out; first | omega | exact Nat.le_refl _⟩, ⟨by (with_reducible repeat (first | refine blk_drewN ?_ _ | refine blk_drew ?_ | refine blk_alloc ?_ _)); exact BK231.out⟩, ⟨by (with_reducible repeat (first | refine blk_drewN ?_ _ | refine blk_drew ?_ | refine blk_alloc ?_ _)); exact BK232.out⟩, ⟨by (with_reducible repeat (first | refine blk_drewN ?_ _ | refine blk_drew ?_ | refine blk_alloc ?_ _)); exact BK233.out⟩, ⟨by repeat (first | (with_reducible first | exact HB.out | apply below_alloc | apply pw_below_drewN | apply below_drew1 | refine below_set ?_ GE231.out | refine below_set ?_ GE232.out | refine below_set ?_ GE233.out) | exact HB.out)⟩⟩
             case rest =>
              clear HC76
              try clear c1
              try clear c2
              try clear p2
              try clear c3
              try clear c4
              try clear c5
              try clear c6
              try clear c7
              try clear c8
              try clear c9
              try clear c11
              try clear c13
              try clear c14
              try clear c14b0
              try clear c14b1
              try clear c15
              try clear c15b0
              try clear c15b1
              try clear c16
              try clear c16b0
              try clear c16b1
              try clear c17
              try clear c18
              try clear c20
              try clear c20b0
              try clear c20b1
              try clear c21
              try clear c22
              try clear c23
              try clear c24
              try clear c25
              try clear c26
              try clear c27
              try clear c29
              try clear c31
              try clear c35
              try clear c35b0
              try clear c35b1
              try clear c36
              try clear c36b0
              try clear c36b1
              try clear c36b2
              try clear c39
              try clear c40
              try clear c40b0
              try clear c40b1
              try clear c41
              try clear c41b0
              try clear c41b1
              try clear c46
              try clear c46b0
              try clear c46b1
              try clear c46b2
              try clear c51
              try clear c51b0
              try clear c51b1
              try clear c52
              try clear c52b0
              try clear c52b1
              try clear c53
              try clear c56
              try clear c57
              try clear c60
              try clear c60b0
              try clear c60b1
              try clear c61
              try clear c61b0
              try clear c61b1
              try clear c61b2
              try clear c63
              try clear c63b0
              try clear c64
              try clear c64b0
              try clear c64b1
              try clear c65
              try clear c65b0
              try clear c65b1
              try clear c68
              try clear c69
              try clear c70
              try clear c72
              try clear c73
              try clear c77
              try clear c78
              try clear c81
              try clear c81b0
              try clear c81b1
              try clear c82
              try clear c82b0
              try clear c82b1
              try clear c82b2
              try clear c84
              try clear c84b0
              try clear c85
              try clear c85b0
              try clear c85b1
              try clear c86
              try clear c86b0
              try clear c86b1
              try clear c89
              try clear c90
              try clear c91
              try clear c93
              try clear c94
              try clear hcz19_0
              try clear hcz19_1
              try clear hcz19_10
              try clear hcz19_11
              try clear hcz19_12
              try clear hcz19_2
              try clear hcz19_3
              try clear hcz19_4
              try clear hcz19_5
              try clear hcz19_6
              try clear hcz19_7
              try clear hcz19_8
              try clear hcz19_9
              try clear hcz23_0
              try clear hcz23_1
              try clear hcz23_10
              try clear hcz23_11
              try clear hcz23_12
              try clear hcz23_2
              try clear hcz23_3
              try clear hcz23_4
              try clear hcz23_5
              try clear hcz23_6
              try clear hcz23_7
              try clear hcz23_8
              try clear hcz23_9
              try clear hcz25_0
              try clear hcz25_1
              try clear hcz25_10
              try clear hcz25_11
              try clear hcz25_12
              try clear hcz25_13
              try clear hcz25_14
              try clear hcz25_15
              try clear hcz25_16
              try clear hcz25_17
              try clear hcz25_18
              try clear hcz25_2
              try clear hcz25_3
              try clear hcz25_4
              try clear hcz25_5
              try clear hcz25_6
              try clear hcz25_7
              try clear hcz25_8
              try clear hcz25_9
              try clear hcz28_0
              try clear hcz28_1
              try clear hcz28_10
              try clear hcz28_11
              try clear hcz28_12
              try clear hcz28_2
              try clear hcz28_3
              try clear hcz28_4
              try clear hcz28_5
              try clear hcz28_6
              try clear hcz28_7
              try clear hcz28_8
              try clear hcz28_9
              try clear hcz30_0
              try clear hcz30_1
              try clear hcz30_10
              try clear hcz30_11
              try clear hcz30_12
              try clear hcz30_13
              try clear hcz30_14
              try clear hcz30_15
              try clear hcz30_16
              try clear hcz30_17
              try clear hcz30_18
              try clear hcz30_2
              try clear hcz30_3
              try clear hcz30_4
              try clear hcz30_5
              try clear hcz30_6
              try clear hcz30_7
              try clear hcz30_8
              try clear hcz30_9
              try clear hcz58_0
              try clear hcz58_1
              try clear hcz58_10
              try clear hcz58_11
              try clear hcz58_12
              try clear hcz58_2
              try clear hcz58_3
              try clear hcz58_4
              try clear hcz58_5
              try clear hcz58_6
              try clear hcz58_7
              try clear hcz58_8
              try clear hcz58_9
              try clear hcz71_0
              try clear hcz71_1
              try clear hcz71_10
              try clear hcz71_11
              try clear hcz71_12
              try clear hcz71_2
              try clear hcz71_3
              try clear hcz71_4
              try clear hcz71_5
              try clear hcz71_6
              try clear hcz71_7
              try clear hcz71_8
              try clear hcz71_9
              try clear hcz74_0
              try clear hcz74_1
              try clear hcz74_10
              try clear hcz74_11
              try clear hcz74_12
              try clear hcz74_2
              try clear hcz74_3
              try clear hcz74_4
              try clear hcz74_5
              try clear hcz74_6
              try clear hcz74_7
              try clear hcz74_8
              try clear hcz74_9
              try clear hcz79_0
              try clear hcz79_1
              try clear hcz79_2
              try clear hcz79_3
              try clear hcz79_4
              try clear hcz92_0
              try clear hcz92_1
              try clear hcz92_2
              try clear hcz92_3
              try clear hcz92_4
              try clear hcz95_0
              try clear hcz95_1
              try clear hcz95_2
              try clear hcz95_3
              try clear hcz95_4
              try clear hfz19_0
              try clear hfz19_1
              try clear hfz19_10
              try clear hfz19_11
              try clear hfz19_12
              try clear hfz19_2
              try clear hfz19_3
              try clear hfz19_4
              try clear hfz19_5
              try clear hfz19_6
              try clear hfz19_7
              try clear hfz19_8
              try clear hfz19_9
              try clear hfz23_0
              try clear hfz23_1
              try clear hfz23_10
              try clear hfz23_11
              try clear hfz23_12
              try clear hfz23_2
              try clear hfz23_3
              try clear hfz23_4
              try clear hfz23_5
              try clear hfz23_6
              try clear hfz23_7
              try clear hfz23_8
              try clear hfz23_9
              try clear hfz25_0
              try clear hfz25_1
              try clear hfz25_10
              try clear hfz25_11
              try clear hfz25_12
              try clear hfz25_13
              try clear hfz25_14
              try clear hfz25_15
              try clear hfz25_16
              try clear hfz25_17
              try clear hfz25_18
              try clear hfz25_2
              try clear hfz25_3
              try clear hfz25_4
              try clear hfz25_5
              try clear hfz25_6
              try clear hfz25_7
              try clear hfz25_8
              try clear hfz25_9
              try clear hfz28_0
              try clear hfz28_1
              try clear hfz28_10
              try clear hfz28_11
              try clear hfz28_12
              try clear hfz28_2
              try clear hfz28_3
              try clear hfz28_4
              try clear hfz28_5
              try clear hfz28_6
              try clear hfz28_7
              try clear hfz28_8
              try clear hfz28_9
              try clear hfz30_0
              try clear hfz30_1
              try clear hfz30_10
              try clear hfz30_11
              try clear hfz30_12
              try clear hfz30_13
              try clear hfz30_14
              try clear hfz30_15
              try clear hfz30_16
              try clear hfz30_17
              try clear hfz30_18
              try clear hfz30_2
              try clear hfz30_3
              try clear hfz30_4
              try clear hfz30_5
              try clear hfz30_6
              try clear hfz30_7
              try clear hfz30_8
              try clear hfz30_9
              try clear hfz58_0
              try clear hfz58_1
              try clear hfz58_10
              try clear hfz58_11
              try clear hfz58_12
              try clear hfz58_2
              try clear hfz58_3
              try clear hfz58_4
              try clear hfz58_5
              try clear hfz58_6
              try clear hfz58_7
              try clear hfz58_8
              try clear hfz58_9
              try clear hfz71_0
              try clear hfz71_1
              try clear hfz71_10
              try clear hfz71_11
              try clear hfz71_12
              try clear hfz71_2
              try clear hfz71_3
              try clear hfz71_4
              try clear hfz71_5
              try clear hfz71_6
              try clear hfz71_7
              try clear hfz71_8
              try clear hfz71_9
              try clear hfz74_0
              try clear hfz74_1
              try clear hfz74_10
              try clear hfz74_11
              try clear hfz74_12
              try clear hfz74_2
              try clear hfz74_3
              try clear hfz74_4
              try clear hfz74_5
              try clear hfz74_6
              try clear hfz74_7
              try clear hfz74_8
              try clear hfz74_9
              try clear hfz79_0
              try clear hfz79_1
              try clear hfz79_2
              try clear hfz79_3
              try clear hfz79_4
              try clear hfz92_0
              try clear hfz92_1
              try clear hfz92_2
              try clear hfz92_3
              try clear hfz92_4
              try clear hfz95_0
              try clear hfz95_1
              try clear hfz95_2
              try clear hfz95_3
              try clear hfz95_4
              try clear p2
              obtain ⟨kq, HA, HJ75, BK231, BK232, BK233, HB⟩ := hcut
              cases kq with
              | zero => exact absurd HA.out (by simp [miradorlaw23_ServermsgBack.j4])
              | succ kj75 =>
               have H := HA.out
               clear HA
               simp only [miradorlaw23_ServermsgBack.j4] at H
               replace H := Option.bind_eq_some_iff.mp H
               obtain ⟨⟨t276, t277⟩, A960, H⟩ := H
               replace H : (if t277 = 0 then (if t276.size + a5.size ≤ 9223372036854775807 then ((servermsg_Parse.f (t276 ++ a5)).bind fun bt278 => (if bt278.1 = qa then (if qa = 6 then (if bt278.2.2.1 = qc then (if qa = 5 then (if bt278.2.2.2.2.2.2.2.2.2.2.2.2.2.2.2.2.2.2.1.toList = qb.toList then (if bt278.2.2.2.2.2.2.2.2.2.2.2.2.2.2.2.2.2.2.2.1 = (t276.size : Int) then (if bt278.2.2.2.2.2.2.2.2.2.2.2.2.2.2.2.2.2.2.2.2 = 0 then (some true) else (some false)) else (some false)) else (some false)) else (if bt278.2.2.2.2.2.2.2.2.2.2.2.2.2.2.2.2.2.2.2.1 = (t276.size : Int) then (if bt278.2.2.2.2.2.2.2.2.2.2.2.2.2.2.2.2.2.2.2.2 = 0 then (some true) else (some false)) else (some false))) else (some false)) else (if qa = 5 then (if bt278.2.2.2.2.2.2.2.2.2.2.2.2.2.2.2.2.2.2.1.toList = qb.toList then (if bt278.2.2.2.2.2.2.2.2.2.2.2.2.2.2.2.2.2.2.2.1 = (t276.size : Int) then (if bt278.2.2.2.2.2.2.2.2.2.2.2.2.2.2.2.2.2.2.2.2 = 0 then (some true) else (some false)) else (some false)) else (some false)) else (if bt278.2.2.2.2.2.2.2.2.2.2.2.2.2.2.2.2.2.2.2.1 = (t276.size : Int) then (if bt278.2.2.2.2.2.2.2.2.2.2.2.2.2.2.2.2.2.2.2.2 = 0 then (some true) else (some false)) else (some false)))) else (some false))) else (none)) else (some true)) = some r := H
               have A96 := Aside0.mk A960
               clear A960
               by_cases c97 : t277 = 0
               ·rw [if_pos c97] at H
                have c97b0 : (t277 == 0) = true := beq_iff_eq.mpr c97
                have c97b1 : (t277 != 0) = false := bne_eq_false_iff_eq.mpr c97
                clear c97
                by_cases c98 : t276.size + a5.size ≤ 9223372036854775807
                ·rw [if_pos c98] at H
                 have c98b0 := eq_true c98
                 have c98b1 : decide (t276.size + a5.size ≤ 9223372036854775807) = true := decide_eq_true c98
                 try have c98b2 : (9223372036854775807 < t276.size + a5.size) = False := eq_false (Nat.not_lt.2 c98)
                 replace H := Option.bind_eq_some_iff.mp H
                 obtain ⟨⟨t278, t279, t280, t281, t282, t283, t284, t285, t286, t287, t288, t289, t290, t291, t292, t293, t294, t295, t298, t299, t300⟩, A990, H⟩ := H
                 replace H : (if t278 = qa then (if qa = 6 then (if t280 = qc then (if qa = 5 then (if t298.toList = qb.toList then (if t299 = (t276.size : Int) then (if t300 = 0 then (some true) else (some false)) else (some false)) else (some false)) else (if t299 = (t276.size : Int) then (if t300 = 0 then (some true) else (some false)) else (some false))) else (some false)) else (if qa = 5 then (if t298.toList = qb.toList then (if t299 = (t276.size : Int) then (if t300 = 0 then (some true) else (some false)) else (some false)) else (some false)) else (if t299 = (t276.size : Int) then (if t300 = 0 then (some true) else (some false)) else (some false)))) else (some false)) = some r := H
                 have A99 := Aside0.mk A990
                 clear A990
                 by_cases c100 : t278 = qa
                 ·rw [if_pos c100] at H
                  have c100b0 : (t278 == qa) = true := beq_iff_eq.mpr c100
                  have c100b1 : (t278 != qa) = false := bne_eq_false_iff_eq.mpr c100
                  clear c100
                  by_cases c101 : qa = 6
                  ·rw [if_pos c101] at H
                   have c101b0 : (qa == 6) = true := beq_iff_eq.mpr c101
                   have c101b1 : (qa != 6) = false := bne_eq_false_iff_eq.mpr c101
                   clear c101
                   by_cases c102 : t280 = qc
                   ·rw [if_pos c102] at H
                    have c102b0 : (t280 == qc) = true := beq_iff_eq.mpr c102
                    have c102b1 : (t280 != qc) = false := bne_eq_false_iff_eq.mpr c102
                    clear c102
                    by_cases c103 : qa = 5
                    ·rw [if_pos c103] at H
                     have c103b0 : (qa == 5) = true := beq_iff_eq.mpr c103
                     have c103b1 : (qa != 5) = false := bne_eq_false_iff_eq.mpr c103
                     clear c103
                     by_cases c104 : t298.toList = qb.toList
                     ·rw [if_pos c104] at H
                      have c104b0 : (t298.toList == qb.toList) = true := beq_iff_eq.mpr c104
                      have c104b1 : (t298.toList != qb.toList) = false := bne_eq_false_iff_eq.mpr c104
                      clear c104
                      by_cases c105 : t299 = (t276.size : Int)
                      ·rw [if_pos c105] at H
                       have c105b0 : (t299 == (t276.size : Int)) = true := beq_iff_eq.mpr c105
                       have c105b1 : (t299 != (t276.size : Int)) = false := bne_eq_false_iff_eq.mpr c105
                       clear c105
                       by_cases c106 : t300 = 0
                       ·as_aux_lemma =>
                        rw [if_pos c106] at H
                        have c106b0 : (t300 == 0) = true := beq_iff_eq.mpr c106
                        have c106b1 : (t300 != 0) = false := bne_eq_false_iff_eq.mpr c106
                        clear c106
                        obtain rfl := Option.some.inj H
                        have hnb107 := NB233_231.out
                        have hnc107 := NB231_233.out
                        have hnb108 := NB233_232.out
                        have hnc108 := NB232_233.out
                        have hcz109_0 : wc.cell? ⟨gb233, 0, none⟩ = some (.int .i64 qa) := (blk_cell BK233.out 0).trans rfl
                        have hcz109_1 : wc.cell? ⟨gb233, 1, none⟩ = some (.bool qe) := (blk_cell BK233.out 1).trans rfl
                        have hcz109_2 : wc.cell? ⟨gb233, 2, none⟩ = some (.int .i64 qc) := (blk_cell BK233.out 2).trans rfl
                        have hcz109_3 : wc.cell? ⟨gb233, 3, none⟩ = some (.int .i64 qf) := (blk_cell BK233.out 3).trans rfl
                        have hcz109_4 : wc.cell? ⟨gb233, 4, none⟩ = some (.int .i64 qg) := (blk_cell BK233.out 4).trans rfl
                        have hcz109_5 : wc.cell? ⟨gb233, 5, none⟩ = some (.int .i64 qh) := (blk_cell BK233.out 5).trans rfl
                        have hcz109_6 : wc.cell? ⟨gb233, 6, none⟩ = some (.int .i64 qi) := (blk_cell BK233.out 6).trans rfl
                        have hcz109_7 : wc.cell? ⟨gb233, 7, none⟩ = some (.int .i64 qj) := (blk_cell BK233.out 7).trans rfl
                        have hcz109_8 : wc.cell? ⟨gb233, 8, none⟩ = some (.int .i64 qk) := (blk_cell BK233.out 8).trans rfl
                        have hcz109_9 : wc.cell? ⟨gb233, 9, none⟩ = some (.bool ql) := (blk_cell BK233.out 9).trans rfl
                        have hcz109_10 : wc.cell? ⟨gb233, 10, none⟩ = some (.bool qm) := (blk_cell BK233.out 10).trans rfl
                        have hcz109_11 : wc.cell? ⟨gb233, 11, none⟩ = some (.int .i64 qn) := (blk_cell BK233.out 11).trans rfl
                        have hcz109_12 : wc.cell? ⟨gb233, 12, none⟩ = some (.int .i64 qo) := (blk_cell BK233.out 12).trans rfl
                        have hcz109_13 : wc.cell? ⟨gb233, 13, none⟩ = some (.int .i64 qp) := (blk_cell BK233.out 13).trans rfl
                        have hcz109_14 : wc.cell? ⟨gb233, 14, none⟩ = some (.int .i64 qq) := (blk_cell BK233.out 14).trans rfl
                        have hcz109_15 : wc.cell? ⟨gb233, 15, none⟩ = some (.int .i64 qr) := (blk_cell BK233.out 15).trans rfl
                        have hcz109_16 : wc.cell? ⟨gb233, 16, none⟩ = some (.int .i64 qs) := (blk_cell BK233.out 16).trans rfl
                        have hcz109_17 : wc.cell? ⟨gb233, 17, none⟩ = some (.slice qL qd.length qM) := (blk_cell BK233.out 17).trans rfl
                        have hcz109_18 : wc.cell? ⟨gb233, 18, none⟩ = some (.string qb) := (blk_cell BK233.out 18).trans rfl
                        have hrw11 : rowAt wc gb233 33 19 = true := rowAt_of (BK233.out) rfl
                        have hrc11 : cellsAt wc gb233 = #[.int .i64 qa, .bool qe, .int .i64 qc, .int .i64 qf, .int .i64 qg, .int .i64 qh, .int .i64 qi, .int .i64 qj, .int .i64 qk, .bool ql, .bool qm, .int .i64 qn, .int .i64 qo, .int .i64 qp, .int .i64 qq, .int .i64 qr, .int .i64 qs, .slice qL qd.length qM, .string qb] := cellsAt_of (BK233.out)
                        have hfz109_0 := blk_frozen BK233.out 0
                        have hfz109_1 := blk_frozen BK233.out 1
                        have hfz109_2 := blk_frozen BK233.out 2
                        have hfz109_3 := blk_frozen BK233.out 3
                        have hfz109_4 := blk_frozen BK233.out 4
                        have hfz109_5 := blk_frozen BK233.out 5
                        have hfz109_6 := blk_frozen BK233.out 6
                        have hfz109_7 := blk_frozen BK233.out 7
                        have hfz109_8 := blk_frozen BK233.out 8
                        have hfz109_9 := blk_frozen BK233.out 9
                        have hfz109_10 := blk_frozen BK233.out 10
                        have hfz109_11 := blk_frozen BK233.out 11
                        have hfz109_12 := blk_frozen BK233.out 12
                        have hfz109_13 := blk_frozen BK233.out 13
                        have hfz109_14 := blk_frozen BK233.out 14
                        have hfz109_15 := blk_frozen BK233.out 15
                        have hfz109_16 := blk_frozen BK233.out 16
                        have hfz109_17 := blk_frozen BK233.out 17
                        have hfz109_18 := blk_frozen BK233.out 18
                        go_wp2_with (first | ((with_reducible refine gate_callee (f := 15) rfl ?_); refine goesL_ (some 174) rfl rfl Try.func15 (by kernel_rfl) rfl #[.agg #[.int .i64 qa, .bool qe, .int .i64 qc, .int .i64 qf, .int .i64 qg, .int .i64 qh, .int .i64 qi, .int .i64 qj, .int .i64 qk, .bool ql, .bool qm, .int .i64 qn, .int .i64 qo, .int .i64 qp, .int .i64 qq, .int .i64 qr, .int .i64 qs, .slice qL qd.length qM, .string qb]] rfl (by (try simp only [List.map_toArray, List.map_cons, List.map_nil]); first | done | rfl | (simp only [List.length_drop, List.length_take]; rfl)) ?_; (with_reducible refine (servermsg_Say.calls qa qe qc qf qg qh qi qj qk ql qm qn qo qp qq qr qs _ _ qd qb t276 t277 _ ?side1 ?side2 A96.out).mono ?_); (case side1 => repeat (first | exact (Kd.C_below HR4_17.out HB.out) | (with_reducible refine Kd.C_alloc ?_ _) | (with_reducible refine Kd.C_drewN ?_ _) | (with_reducible refine Kd.C_drew ?_))); (case side2 => exact HC4_17.out); rintro e w110 ⟨rfl, hb⟩; refine ⟨_, rfl, ?_⟩; have n0_ := Aside0.mk (blk_below (g := gb231) (o := .cells #[.int .i64 qu, .int .i64 qv, .int .i64 qw, .int .i64 qx, .bool qy, .bool qz, .int .i64 qA, .int .i64 qB, .int .i64 qC, .int .i64 qD, .int .i64 qE, .int .i64 qF, .string qt] 26 (0, 0)) (by (with_reducible repeat (first | refine blk_drewN ?_ _ | refine blk_drew ?_ | refine blk_alloc ?_ _)); exact BK231.out) hb); have n1_ := Aside0.mk (blk_below (g := gb232) (o := .cells #[.int .i64 qG, .int .i64 qH, .int .i64 qI, .int .i64 qJ, .int .i64 qK] 30 (0, 0)) (by (with_reducible repeat (first | refine blk_drewN ?_ _ | refine blk_drew ?_ | refine blk_alloc ?_ _)); exact BK232.out) hb); have n2_ := Aside0.mk (blk_below (g := gb233) (o := .cells #[.int .i64 qa, .bool qe, .int .i64 qc, .int .i64 qf, .int .i64 qg, .int .i64 qh, .int .i64 qi, .int .i64 qj, .int .i64 qk, .bool ql, .bool qm, .int .i64 qn, .int .i64 qo, .int .i64 qp, .int .i64 qq, .int .i64 qr, .int .i64 qs, .slice qL qd.length qM, .string qb] 33 (0, 0)) (by (with_reducible repeat (first | refine blk_drewN ?_ _ | refine blk_drew ?_ | refine blk_alloc ?_ _)); exact BK233.out) hb); have n3_ := Aside0.mk (below_step (by repeat (first | (with_reducible first | exact HB.out | apply below_alloc | apply pw_below_drewN | apply below_drew1 | refine below_set ?_ GE231.out | refine below_set ?_ GE232.out | refine below_set ?_ GE233.out) | exact HB.out)) hb); clear BK231; clear BK232; clear BK233; clear HB; have BK231 := n0_; have BK232 := n1_; have BK233 := n2_; have HB := n3_; clear n0_ n1_ n2_ n3_; (try clear hb); (try clear hb2); (try clear hk); (try clear hi)) | ((with_reducible refine gate_callee (f := 19) rfl ?_); refine goesL_ (some 183) rfl rfl Try.func19 (by kernel_rfl) rfl #[.string (t276 ++ a5)] rfl (by (try simp only [List.map_toArray, List.map_cons, List.map_nil]); first | done | rfl | (simp only [List.length_drop, List.length_take]; rfl)) ?_; (with_reducible refine (servermsg_Parse.calls (t276 ++ a5) t278 t279 t280 t281 t282 t283 t284 t285 t286 t287 t288 t289 t290 t291 t292 t293 t294 t295 t298 t299 t300 _ A99.out).mono ?_); rintro e w111 ⟨v296, rfl, ho0, hb⟩; refine ⟨_, rfl, ?_⟩; have n0_ := Aside0.mk (Kd.R_lower ho0 (below_size (by repeat (first | (with_reducible first | exact HB.out | apply below_alloc | apply pw_below_drewN | apply below_drew1 | refine below_set ?_ GE231.out | refine below_set ?_ GE232.out | refine below_set ?_ GE233.out) | exact HB.out)))); have n1_ := Aside0.mk (blk_below (g := gb231) (o := .cells #[.int .i64 qu, .int .i64 qv, .int .i64 qw, .int .i64 qx, .bool qy, .bool qz, .int .i64 qA, .int .i64 qB, .int .i64 qC, .int .i64 qD, .int .i64 qE, .int .i64 qF, .string qt] 26 (0, 0)) (by (with_reducible repeat (first | refine blk_drewN ?_ _ | refine blk_drew ?_ | refine blk_alloc ?_ _)); exact BK231.out) hb); have n2_ := Aside0.mk (blk_below (g := gb232) (o := .cells #[.int .i64 qG, .int .i64 qH, .int .i64 qI, .int .i64 qJ, .int .i64 qK] 30 (0, 0)) (by (with_reducible repeat (first | refine blk_drewN ?_ _ | refine blk_drew ?_ | refine blk_alloc ?_ _)); exact BK232.out) hb); have n3_ := Aside0.mk (blk_below (g := gb233) (o := .cells #[.int .i64 qa, .bool qe, .int .i64 qc, .int .i64 qf, .int .i64 qg, .int .i64 qh, .int .i64 qi, .int .i64 qj, .int .i64 qk, .bool ql, .bool qm, .int .i64 qn, .int .i64 qo, .int .i64 qp, .int .i64 qq, .int .i64 qr, .int .i64 qs, .slice qL qd.length qM, .string qb] 33 (0, 0)) (by (with_reducible repeat (first | refine blk_drewN ?_ _ | refine blk_drew ?_ | refine blk_alloc ?_ _)); exact BK233.out) hb); have n4_ := Aside0.mk (below_step (by repeat (first | (with_reducible first | exact HB.out | apply below_alloc | apply pw_below_drewN | apply below_drew1 | refine below_set ?_ GE231.out | refine below_set ?_ GE232.out | refine below_set ?_ GE233.out) | exact HB.out)) hb); clear BK231; clear BK232; clear BK233; clear HB; have HO297 := n0_; have BK231 := n1_; have BK232 := n2_; have BK233 := n3_; have HB := n4_; clear n0_ n1_ n2_ n3_ n4_; (try clear hb); (try clear hb2); (try clear hk); (try clear hi); (try clear ho0)) | ((with_reducible refine gate_dst (N := 30) rfl ?_); (try (refine gate_guard (by rfl) ?_; dsimp only)); refine box_event ?hg (N := 30) ?hd (cs := #[.int .i64 0, .bool false, .int .i64 0, .int .i64 0, .int .i64 0, .int .i64 0, .int .i64 0, .int .i64 0, .int .i64 0, .bool false, .bool false, .int .i64 0, .int .i64 0, .int .i64 0, .int .i64 0, .int .i64 0, .int .i64 0, .slice none 0 0, .string (⟨#[]⟩ : ByteArray)]) (t := 33) ?hr ?_; (case hd => rfl); (case hg => rfl); (case hr => first | (go_simp; done) | (go_simp; rfl)); intro gb301 hg w112 hbox hb; have n0_ := Aside0.mk (Kd.R_below (by (with_reducible repeat (first | apply Kd.R_alloc | apply Kd.R_drewN | apply Kd.R_drew)); exact HO297.out) hb); have n1_ := Aside0.mk (blk_below (g := gb231) (o := .cells #[.int .i64 qu, .int .i64 qv, .int .i64 qw, .int .i64 qx, .bool qy, .bool qz, .int .i64 qA, .int .i64 qB, .int .i64 qC, .int .i64 qD, .int .i64 qE, .int .i64 qF, .string qt] 26 (0, 0)) (by (with_reducible repeat (first | refine blk_drewN ?_ _ | refine blk_drew ?_ | refine blk_alloc ?_ _)); exact BK231.out) hb); have n2_ := Aside0.mk (blk_below (g := gb232) (o := .cells #[.int .i64 qG, .int .i64 qH, .int .i64 qI, .int .i64 qJ, .int .i64 qK] 30 (0, 0)) (by (with_reducible repeat (first | refine blk_drewN ?_ _ | refine blk_drew ?_ | refine blk_alloc ?_ _)); exact BK232.out) hb); have n3_ := Aside0.mk (blk_below (g := gb233) (o := .cells #[.int .i64 qa, .bool qe, .int .i64 qc, .int .i64 qf, .int .i64 qg, .int .i64 qh, .int .i64 qi, .int .i64 qj, .int .i64 qk, .bool ql, .bool qm, .int .i64 qn, .int .i64 qo, .int .i64 qp, .int .i64 qq, .int .i64 qr, .int .i64 qs, .slice qL qd.length qM, .string qb] 33 (0, 0)) (by (with_reducible repeat (first | refine blk_drewN ?_ _ | refine blk_drew ?_ | refine blk_alloc ?_ _)); exact BK233.out) hb); have n4_ := Aside0.mk (below_step (by repeat (first | (with_reducible first | exact HB.out | apply below_alloc | apply pw_below_drewN | apply below_drew1 | refine below_set ?_ GE231.out | refine below_set ?_ GE232.out | refine below_set ?_ GE233.out) | exact HB.out)) hb); have n5_ := Aside0.mk (hbox); have n6_ := Aside0.mk ((by rw [hg]; exact (below_size (by repeat (first | (with_reducible first | exact HB.out | apply below_alloc | apply pw_below_drewN | apply below_drew1 | refine below_set ?_ GE231.out | refine below_set ?_ GE232.out | refine below_set ?_ GE233.out) | exact HB.out))) : w.heap.size ≤ gb301)); have n7_ := Aside0.mk ((by rw [hg]; exact (below_size (by repeat (first | (with_reducible first | exact HB.out | apply below_alloc | apply pw_below_drewN | apply below_drew1 | refine below_set ?_ GE231.out | refine below_set ?_ GE232.out | refine below_set ?_ GE233.out) | exact HB.out))) : w.heap.size ≤ gb301)); have n8_ := Aside0.mk ((by rw [hg]; exact Nat.ne_of_lt (blk_lt (g := gb231) (o := .cells #[.int .i64 qu, .int .i64 qv, .int .i64 qw, .int .i64 qx, .bool qy, .bool qz, .int .i64 qA, .int .i64 qB, .int .i64 qC, .int .i64 qD, .int .i64 qE, .int .i64 qF, .string qt] 26 (0, 0)) (by (with_reducible repeat (first | refine blk_drewN ?_ _ | refine blk_drew ?_ | refine blk_alloc ?_ _)); exact BK231.out)) : gb231 ≠ gb301)); have n9_ := Aside0.mk ((by rw [hg]; exact Nat.ne_of_gt (blk_lt (g := gb231) (o := .cells #[.int .i64 qu, .int .i64 qv, .int .i64 qw, .int .i64 qx, .bool qy, .bool qz, .int .i64 qA, .int .i64 qB, .int .i64 qC, .int .i64 qD, .int .i64 qE, .int .i64 qF, .string qt] 26 (0, 0)) (by (with_reducible repeat (first | refine blk_drewN ?_ _ | refine blk_drew ?_ | refine blk_alloc ?_ _)); exact BK231.out)) : gb301 ≠ gb231)); have n10_ := Aside0.mk ((by rw [hg]; exact Nat.ne_of_lt (blk_lt (g := gb232) (o := .cells #[.int .i64 qG, .int .i64 qH, .int .i64 qI, .int .i64 qJ, .int .i64 qK] 30 (0, 0)) (by (with_reducible repeat (first | refine blk_drewN ?_ _ | refine blk_drew ?_ | refine blk_alloc ?_ _)); exact BK232.out)) : gb232 ≠ gb301)); have n11_ := Aside0.mk ((by rw [hg]; exact Nat.ne_of_gt (blk_lt (g := gb232) (o := .cells #[.int .i64 qG, .int .i64 qH, .int .i64 qI, .int .i64 qJ, .int .i64 qK] 30 (0, 0)) (by (with_reducible repeat (first | refine blk_drewN ?_ _ | refine blk_drew ?_ | refine blk_alloc ?_ _)); exact BK232.out)) : gb301 ≠ gb232)); have n12_ := Aside0.mk ((by rw [hg]; exact Nat.ne_of_lt (blk_lt (g := gb233) (o := .cells #[.int .i64 qa, .bool qe, .int .i64 qc, .int .i64 qf, .int .i64 qg, .int .i64 qh, .int .i64 qi, .int .i64 qj, .int .i64 qk, .bool ql, .bool qm, .int .i64 qn, .int .i64 qo, .int .i64 qp, .int .i64 qq, .int .i64 qr, .int .i64 qs, .slice qL qd.length qM, .string qb] 33 (0, 0)) (by (with_reducible repeat (first | refine blk_drewN ?_ _ | refine blk_drew ?_ | refine blk_alloc ?_ _)); exact BK233.out)) : gb233 ≠ gb301)); have n13_ := Aside0.mk ((by rw [hg]; exact Nat.ne_of_gt (blk_lt (g := gb233) (o := .cells #[.int .i64 qa, .bool qe, .int .i64 qc, .int .i64 qf, .int .i64 qg, .int .i64 qh, .int .i64 qi, .int .i64 qj, .int .i64 qk, .bool ql, .bool qm, .int .i64 qn, .int .i64 qo, .int .i64 qp, .int .i64 qq, .int .i64 qr, .int .i64 qs, .slice qL qd.length qM, .string qb] 33 (0, 0)) (by (with_reducible repeat (first | refine blk_drewN ?_ _ | refine blk_drew ?_ | refine blk_alloc ?_ _)); exact BK233.out)) : gb301 ≠ gb233)); clear HO297; clear BK231; clear BK232; clear BK233; clear HB; have HO297 := n0_; have BK231 := n1_; have BK232 := n2_; have BK233 := n3_; have HB := n4_; have BK301 := n5_; have GW301 := n6_; have GE301 := n7_; have NB231_301 := n8_; have NB301_231 := n9_; have NB232_301 := n10_; have NB301_232 := n11_; have NB233_301 := n12_; have NB301_233 := n13_; clear n0_ n1_ n2_ n3_ n4_ n5_ n6_ n7_ n8_ n9_ n10_ n11_ n12_ n13_; clear hb hbox hg; have hnb113 := NB301_231.out; have hnc113 := NB231_301.out; have hnb114 := NB301_232.out; have hnc114 := NB232_301.out; have hnb115 := NB301_233.out; have hnc115 := NB233_301.out; have hcz116_0 : w112.cell? ⟨gb301, 0, none⟩ = some (.int .i64 0) := (blk_cell BK301.out 0).trans rfl; have hcz116_1 : w112.cell? ⟨gb301, 1, none⟩ = some (.bool false) := (blk_cell BK301.out 1).trans rfl; have hcz116_2 : w112.cell? ⟨gb301, 2, none⟩ = some (.int .i64 0) := (blk_cell BK301.out 2).trans rfl; have hcz116_3 : w112.cell? ⟨gb301, 3, none⟩ = some (.int .i64 0) := (blk_cell BK301.out 3).trans rfl; have hcz116_4 : w112.cell? ⟨gb301, 4, none⟩ = some (.int .i64 0) := (blk_cell BK301.out 4).trans rfl; have hcz116_5 : w112.cell? ⟨gb301, 5, none⟩ = some (.int .i64 0) := (blk_cell BK301.out 5).trans rfl; have hcz116_6 : w112.cell? ⟨gb301, 6, none⟩ = some (.int .i64 0) := (blk_cell BK301.out 6).trans rfl; have hcz116_7 : w112.cell? ⟨gb301, 7, none⟩ = some (.int .i64 0) := (blk_cell BK301.out 7).trans rfl; have hcz116_8 : w112.cell? ⟨gb301, 8, none⟩ = some (.int .i64 0) := (blk_cell BK301.out 8).trans rfl; have hcz116_9 : w112.cell? ⟨gb301, 9, none⟩ = some (.bool false) := (blk_cell BK301.out 9).trans rfl; have hcz116_10 : w112.cell? ⟨gb301, 10, none⟩ = some (.bool false) := (blk_cell BK301.out 10).trans rfl; have hcz116_11 : w112.cell? ⟨gb301, 11, none⟩ = some (.int .i64 0) := (blk_cell BK301.out 11).trans rfl; have hcz116_12 : w112.cell? ⟨gb301, 12, none⟩ = some (.int .i64 0) := (blk_cell BK301.out 12).trans rfl; have hcz116_13 : w112.cell? ⟨gb301, 13, none⟩ = some (.int .i64 0) := (blk_cell BK301.out 13).trans rfl; have hcz116_14 : w112.cell? ⟨gb301, 14, none⟩ = some (.int .i64 0) := (blk_cell BK301.out 14).trans rfl; have hcz116_15 : w112.cell? ⟨gb301, 15, none⟩ = some (.int .i64 0) := (blk_cell BK301.out 15).trans rfl; have hcz116_16 : w112.cell? ⟨gb301, 16, none⟩ = some (.int .i64 0) := (blk_cell BK301.out 16).trans rfl; have hcz116_17 : w112.cell? ⟨gb301, 17, none⟩ = some (.slice none 0 0) := (blk_cell BK301.out 17).trans rfl; have hcz116_18 : w112.cell? ⟨gb301, 18, none⟩ = some (.string (⟨#[]⟩ : ByteArray)) := (blk_cell BK301.out 18).trans rfl; have hrw12 : rowAt w112 gb301 33 19 = true := rowAt_of (BK301.out) rfl; have hrc12 : cellsAt w112 gb301 = #[.int .i64 0, .bool false, .int .i64 0, .int .i64 0, .int .i64 0, .int .i64 0, .int .i64 0, .int .i64 0, .int .i64 0, .bool false, .bool false, .int .i64 0, .int .i64 0, .int .i64 0, .int .i64 0, .int .i64 0, .int .i64 0, .slice none 0 0, .string (⟨#[]⟩ : ByteArray)] := cellsAt_of (BK301.out); have hfz116_0 := blk_frozen BK301.out 0; have hfz116_1 := blk_frozen BK301.out 1; have hfz116_2 := blk_frozen BK301.out 2; have hfz116_3 := blk_frozen BK301.out 3; have hfz116_4 := blk_frozen BK301.out 4; have hfz116_5 := blk_frozen BK301.out 5; have hfz116_6 := blk_frozen BK301.out 6; have hfz116_7 := blk_frozen BK301.out 7; have hfz116_8 := blk_frozen BK301.out 8; have hfz116_9 := blk_frozen BK301.out 9; have hfz116_10 := blk_frozen BK301.out 10; have hfz116_11 := blk_frozen BK301.out 11; have hfz116_12 := blk_frozen BK301.out 12; have hfz116_13 := blk_frozen BK301.out 13; have hfz116_14 := blk_frozen BK301.out 14; have hfz116_15 := blk_frozen BK301.out 15; have hfz116_16 := blk_frozen BK301.out 16; have hfz116_17 := blk_frozen BK301.out 17; have hfz116_18 := blk_frozen BK301.out 18; obtain ⟨Ao117, co117, eo117⟩ := Kd.R_slice HO297.out; subst eo117; have hcz118_0 : w112.cell? ⟨gb233, 0, none⟩ = some (.int .i64 qa) := (blk_cell BK233.out 0).trans rfl; have hcz118_1 : w112.cell? ⟨gb233, 1, none⟩ = some (.bool qe) := (blk_cell BK233.out 1).trans rfl; have hcz118_2 : w112.cell? ⟨gb233, 2, none⟩ = some (.int .i64 qc) := (blk_cell BK233.out 2).trans rfl; have hcz118_3 : w112.cell? ⟨gb233, 3, none⟩ = some (.int .i64 qf) := (blk_cell BK233.out 3).trans rfl; have hcz118_4 : w112.cell? ⟨gb233, 4, none⟩ = some (.int .i64 qg) := (blk_cell BK233.out 4).trans rfl; have hcz118_5 : w112.cell? ⟨gb233, 5, none⟩ = some (.int .i64 qh) := (blk_cell BK233.out 5).trans rfl; have hcz118_6 : w112.cell? ⟨gb233, 6, none⟩ = some (.int .i64 qi) := (blk_cell BK233.out 6).trans rfl; have hcz118_7 : w112.cell? ⟨gb233, 7, none⟩ = some (.int .i64 qj) := (blk_cell BK233.out 7).trans rfl; have hcz118_8 : w112.cell? ⟨gb233, 8, none⟩ = some (.int .i64 qk) := (blk_cell BK233.out 8).trans rfl; have hcz118_9 : w112.cell? ⟨gb233, 9, none⟩ = some (.bool ql) := (blk_cell BK233.out 9).trans rfl; have hcz118_10 : w112.cell? ⟨gb233, 10, none⟩ = some (.bool qm) := (blk_cell BK233.out 10).trans rfl; have hcz118_11 : w112.cell? ⟨gb233, 11, none⟩ = some (.int .i64 qn) := (blk_cell BK233.out 11).trans rfl; have hcz118_12 : w112.cell? ⟨gb233, 12, none⟩ = some (.int .i64 qo) := (blk_cell BK233.out 12).trans rfl; have hcz118_13 : w112.cell? ⟨gb233, 13, none⟩ = some (.int .i64 qp) := (blk_cell BK233.out 13).trans rfl; have hcz118_14 : w112.cell? ⟨gb233, 14, none⟩ = some (.int .i64 qq) := (blk_cell BK233.out 14).trans rfl; have hcz118_15 : w112.cell? ⟨gb233, 15, none⟩ = some (.int .i64 qr) := (blk_cell BK233.out 15).trans rfl; have hcz118_16 : w112.cell? ⟨gb233, 16, none⟩ = some (.int .i64 qs) := (blk_cell BK233.out 16).trans rfl; have hcz118_17 : w112.cell? ⟨gb233, 17, none⟩ = some (.slice qL qd.length qM) := (blk_cell BK233.out 17).trans rfl; have hcz118_18 : w112.cell? ⟨gb233, 18, none⟩ = some (.string qb) := (blk_cell BK233.out 18).trans rfl; have hrw13 : rowAt w112 gb233 33 19 = true := rowAt_of (BK233.out) rfl; have hrc13 : cellsAt w112 gb233 = #[.int .i64 qa, .bool qe, .int .i64 qc, .int .i64 qf, .int .i64 qg, .int .i64 qh, .int .i64 qi, .int .i64 qj, .int .i64 qk, .bool ql, .bool qm, .int .i64 qn, .int .i64 qo, .int .i64 qp, .int .i64 qq, .int .i64 qr, .int .i64 qs, .slice qL qd.length qM, .string qb] := cellsAt_of (BK233.out); have hfz118_0 := blk_frozen BK233.out 0; have hfz118_1 := blk_frozen BK233.out 1; have hfz118_2 := blk_frozen BK233.out 2; have hfz118_3 := blk_frozen BK233.out 3; have hfz118_4 := blk_frozen BK233.out 4; have hfz118_5 := blk_frozen BK233.out 5; have hfz118_6 := blk_frozen BK233.out 6; have hfz118_7 := blk_frozen BK233.out 7; have hfz118_8 := blk_frozen BK233.out 8; have hfz118_9 := blk_frozen BK233.out 9; have hfz118_10 := blk_frozen BK233.out 10; have hfz118_11 := blk_frozen BK233.out 11; have hfz118_12 := blk_frozen BK233.out 12; have hfz118_13 := blk_frozen BK233.out 13; have hfz118_14 := blk_frozen BK233.out 14; have hfz118_15 := blk_frozen BK233.out 15; have hfz118_16 := blk_frozen BK233.out 16; have hfz118_17 := blk_frozen BK233.out 17; have hfz118_18 := blk_frozen BK233.out 18))
                        go_ret
                        exact ⟨by first | rfl | (simp [errW_none, errW_some] <;> rfl) | (simp [*, errW_none, errW_some] <;> rfl), by repeat (first | (with_reducible first | exact HB.out | apply below_alloc | apply pw_below_drewN | apply below_drew1 | refine below_set ?_ GE231.out | refine below_set ?_ GE232.out | refine below_set ?_ GE233.out | refine below_row ?_ GE301.out _) | exact HB.out)⟩
                       ·rw [if_neg c106] at H
                        have c106b0 : (t300 == 0) = false := beq_eq_false_iff_ne.mpr c106
                        have c106b1 : (t300 != 0) = true := bne_iff_ne.mpr c106
                        rw [HRT.out] at H
                        exact absurd (Option.some.inj H) (by decide)
                      ·rw [if_neg c105] at H
                       have c105b0 : (t299 == (t276.size : Int)) = false := beq_eq_false_iff_ne.mpr c105
                       have c105b1 : (t299 != (t276.size : Int)) = true := bne_iff_ne.mpr c105
                       rw [HRT.out] at H
                       exact absurd (Option.some.inj H) (by decide)
                     ·rw [if_neg c104] at H
                      have c104b0 : (t298.toList == qb.toList) = false := beq_eq_false_iff_ne.mpr c104
                      have c104b1 : (t298.toList != qb.toList) = true := bne_iff_ne.mpr c104
                      rw [HRT.out] at H
                      exact absurd (Option.some.inj H) (by decide)
                    ·rw [if_neg c103] at H
                     have c103b0 : (qa == 5) = false := beq_eq_false_iff_ne.mpr c103
                     have c103b1 : (qa != 5) = true := bne_iff_ne.mpr c103
                     by_cases c119 : t299 = (t276.size : Int)
                     ·rw [if_pos c119] at H
                      have c119b0 : (t299 == (t276.size : Int)) = true := beq_iff_eq.mpr c119
                      have c119b1 : (t299 != (t276.size : Int)) = false := bne_eq_false_iff_eq.mpr c119
                      clear c119
                      by_cases c120 : t300 = 0
                      ·as_aux_lemma =>
                       rw [if_pos c120] at H
                       have c120b0 : (t300 == 0) = true := beq_iff_eq.mpr c120
                       have c120b1 : (t300 != 0) = false := bne_eq_false_iff_eq.mpr c120
                       clear c120
                       obtain rfl := Option.some.inj H
                       have hnb121 := NB233_231.out
                       have hnc121 := NB231_233.out
                       have hnb122 := NB233_232.out
                       have hnc122 := NB232_233.out
                       have hcz123_0 : wc.cell? ⟨gb233, 0, none⟩ = some (.int .i64 qa) := (blk_cell BK233.out 0).trans rfl
                       have hcz123_1 : wc.cell? ⟨gb233, 1, none⟩ = some (.bool qe) := (blk_cell BK233.out 1).trans rfl
                       have hcz123_2 : wc.cell? ⟨gb233, 2, none⟩ = some (.int .i64 qc) := (blk_cell BK233.out 2).trans rfl
                       have hcz123_3 : wc.cell? ⟨gb233, 3, none⟩ = some (.int .i64 qf) := (blk_cell BK233.out 3).trans rfl
                       have hcz123_4 : wc.cell? ⟨gb233, 4, none⟩ = some (.int .i64 qg) := (blk_cell BK233.out 4).trans rfl
                       have hcz123_5 : wc.cell? ⟨gb233, 5, none⟩ = some (.int .i64 qh) := (blk_cell BK233.out 5).trans rfl
                       have hcz123_6 : wc.cell? ⟨gb233, 6, none⟩ = some (.int .i64 qi) := (blk_cell BK233.out 6).trans rfl
                       have hcz123_7 : wc.cell? ⟨gb233, 7, none⟩ = some (.int .i64 qj) := (blk_cell BK233.out 7).trans rfl
                       have hcz123_8 : wc.cell? ⟨gb233, 8, none⟩ = some (.int .i64 qk) := (blk_cell BK233.out 8).trans rfl
                       have hcz123_9 : wc.cell? ⟨gb233, 9, none⟩ = some (.bool ql) := (blk_cell BK233.out 9).trans rfl
                       have hcz123_10 : wc.cell? ⟨gb233, 10, none⟩ = some (.bool qm) := (blk_cell BK233.out 10).trans rfl
                       have hcz123_11 : wc.cell? ⟨gb233, 11, none⟩ = some (.int .i64 qn) := (blk_cell BK233.out 11).trans rfl
                       have hcz123_12 : wc.cell? ⟨gb233, 12, none⟩ = some (.int .i64 qo) := (blk_cell BK233.out 12).trans rfl
                       have hcz123_13 : wc.cell? ⟨gb233, 13, none⟩ = some (.int .i64 qp) := (blk_cell BK233.out 13).trans rfl
                       have hcz123_14 : wc.cell? ⟨gb233, 14, none⟩ = some (.int .i64 qq) := (blk_cell BK233.out 14).trans rfl
                       have hcz123_15 : wc.cell? ⟨gb233, 15, none⟩ = some (.int .i64 qr) := (blk_cell BK233.out 15).trans rfl
                       have hcz123_16 : wc.cell? ⟨gb233, 16, none⟩ = some (.int .i64 qs) := (blk_cell BK233.out 16).trans rfl
                       have hcz123_17 : wc.cell? ⟨gb233, 17, none⟩ = some (.slice qL qd.length qM) := (blk_cell BK233.out 17).trans rfl
                       have hcz123_18 : wc.cell? ⟨gb233, 18, none⟩ = some (.string qb) := (blk_cell BK233.out 18).trans rfl
                       have hrw14 : rowAt wc gb233 33 19 = true := rowAt_of (BK233.out) rfl
                       have hrc14 : cellsAt wc gb233 = #[.int .i64 qa, .bool qe, .int .i64 qc, .int .i64 qf, .int .i64 qg, .int .i64 qh, .int .i64 qi, .int .i64 qj, .int .i64 qk, .bool ql, .bool qm, .int .i64 qn, .int .i64 qo, .int .i64 qp, .int .i64 qq, .int .i64 qr, .int .i64 qs, .slice qL qd.length qM, .string qb] := cellsAt_of (BK233.out)
                       have hfz123_0 := blk_frozen BK233.out 0
                       have hfz123_1 := blk_frozen BK233.out 1
                       have hfz123_2 := blk_frozen BK233.out 2
                       have hfz123_3 := blk_frozen BK233.out 3
                       have hfz123_4 := blk_frozen BK233.out 4
                       have hfz123_5 := blk_frozen BK233.out 5
                       have hfz123_6 := blk_frozen BK233.out 6
                       have hfz123_7 := blk_frozen BK233.out 7
                       have hfz123_8 := blk_frozen BK233.out 8
                       have hfz123_9 := blk_frozen BK233.out 9
                       have hfz123_10 := blk_frozen BK233.out 10
                       have hfz123_11 := blk_frozen BK233.out 11
                       have hfz123_12 := blk_frozen BK233.out 12
                       have hfz123_13 := blk_frozen BK233.out 13
                       have hfz123_14 := blk_frozen BK233.out 14
                       have hfz123_15 := blk_frozen BK233.out 15
                       have hfz123_16 := blk_frozen BK233.out 16
                       have hfz123_17 := blk_frozen BK233.out 17
                       have hfz123_18 := blk_frozen BK233.out 18
                       go_wp2_with (first | ((with_reducible refine gate_callee (f := 15) rfl ?_); refine goesL_ (some 174) rfl rfl Try.func15 (by kernel_rfl) rfl #[.agg #[.int .i64 qa, .bool qe, .int .i64 qc, .int .i64 qf, .int .i64 qg, .int .i64 qh, .int .i64 qi, .int .i64 qj, .int .i64 qk, .bool ql, .bool qm, .int .i64 qn, .int .i64 qo, .int .i64 qp, .int .i64 qq, .int .i64 qr, .int .i64 qs, .slice qL qd.length qM, .string qb]] rfl (by (try simp only [List.map_toArray, List.map_cons, List.map_nil]); first | done | rfl | (simp only [List.length_drop, List.length_take]; rfl)) ?_; (with_reducible refine (servermsg_Say.calls qa qe qc qf qg qh qi qj qk ql qm qn qo qp qq qr qs _ _ qd qb t276 t277 _ ?side1 ?side2 A96.out).mono ?_); (case side1 => repeat (first | exact (Kd.C_below HR4_17.out HB.out) | (with_reducible refine Kd.C_alloc ?_ _) | (with_reducible refine Kd.C_drewN ?_ _) | (with_reducible refine Kd.C_drew ?_))); (case side2 => exact HC4_17.out); rintro e w124 ⟨rfl, hb⟩; refine ⟨_, rfl, ?_⟩; have n0_ := Aside0.mk (blk_below (g := gb231) (o := .cells #[.int .i64 qu, .int .i64 qv, .int .i64 qw, .int .i64 qx, .bool qy, .bool qz, .int .i64 qA, .int .i64 qB, .int .i64 qC, .int .i64 qD, .int .i64 qE, .int .i64 qF, .string qt] 26 (0, 0)) (by (with_reducible repeat (first | refine blk_drewN ?_ _ | refine blk_drew ?_ | refine blk_alloc ?_ _)); exact BK231.out) hb); have n1_ := Aside0.mk (blk_below (g := gb232) (o := .cells #[.int .i64 qG, .int .i64 qH, .int .i64 qI, .int .i64 qJ, .int .i64 qK] 30 (0, 0)) (by (with_reducible repeat (first | refine blk_drewN ?_ _ | refine blk_drew ?_ | refine blk_alloc ?_ _)); exact BK232.out) hb); have n2_ := Aside0.mk (blk_below (g := gb233) (o := .cells #[.int .i64 qa, .bool qe, .int .i64 qc, .int .i64 qf, .int .i64 qg, .int .i64 qh, .int .i64 qi, .int .i64 qj, .int .i64 qk, .bool ql, .bool qm, .int .i64 qn, .int .i64 qo, .int .i64 qp, .int .i64 qq, .int .i64 qr, .int .i64 qs, .slice qL qd.length qM, .string qb] 33 (0, 0)) (by (with_reducible repeat (first | refine blk_drewN ?_ _ | refine blk_drew ?_ | refine blk_alloc ?_ _)); exact BK233.out) hb); have n3_ := Aside0.mk (below_step (by repeat (first | (with_reducible first | exact HB.out | apply below_alloc | apply pw_below_drewN | apply below_drew1 | refine below_set ?_ GE231.out | refine below_set ?_ GE232.out | refine below_set ?_ GE233.out) | exact HB.out)) hb); clear BK231; clear BK232; clear BK233; clear HB; have BK231 := n0_; have BK232 := n1_; have BK233 := n2_; have HB := n3_; clear n0_ n1_ n2_ n3_; (try clear hb); (try clear hb2); (try clear hk); (try clear hi)) | ((with_reducible refine gate_callee (f := 19) rfl ?_); refine goesL_ (some 183) rfl rfl Try.func19 (by kernel_rfl) rfl #[.string (t276 ++ a5)] rfl (by (try simp only [List.map_toArray, List.map_cons, List.map_nil]); first | done | rfl | (simp only [List.length_drop, List.length_take]; rfl)) ?_; (with_reducible refine (servermsg_Parse.calls (t276 ++ a5) t278 t279 t280 t281 t282 t283 t284 t285 t286 t287 t288 t289 t290 t291 t292 t293 t294 t295 t298 t299 t300 _ A99.out).mono ?_); rintro e w125 ⟨v296, rfl, ho0, hb⟩; refine ⟨_, rfl, ?_⟩; have n0_ := Aside0.mk (Kd.R_lower ho0 (below_size (by repeat (first | (with_reducible first | exact HB.out | apply below_alloc | apply pw_below_drewN | apply below_drew1 | refine below_set ?_ GE231.out | refine below_set ?_ GE232.out | refine below_set ?_ GE233.out) | exact HB.out)))); have n1_ := Aside0.mk (blk_below (g := gb231) (o := .cells #[.int .i64 qu, .int .i64 qv, .int .i64 qw, .int .i64 qx, .bool qy, .bool qz, .int .i64 qA, .int .i64 qB, .int .i64 qC, .int .i64 qD, .int .i64 qE, .int .i64 qF, .string qt] 26 (0, 0)) (by (with_reducible repeat (first | refine blk_drewN ?_ _ | refine blk_drew ?_ | refine blk_alloc ?_ _)); exact BK231.out) hb); have n2_ := Aside0.mk (blk_below (g := gb232) (o := .cells #[.int .i64 qG, .int .i64 qH, .int .i64 qI, .int .i64 qJ, .int .i64 qK] 30 (0, 0)) (by (with_reducible repeat (first | refine blk_drewN ?_ _ | refine blk_drew ?_ | refine blk_alloc ?_ _)); exact BK232.out) hb); have n3_ := Aside0.mk (blk_below (g := gb233) (o := .cells #[.int .i64 qa, .bool qe, .int .i64 qc, .int .i64 qf, .int .i64 qg, .int .i64 qh, .int .i64 qi, .int .i64 qj, .int .i64 qk, .bool ql, .bool qm, .int .i64 qn, .int .i64 qo, .int .i64 qp, .int .i64 qq, .int .i64 qr, .int .i64 qs, .slice qL qd.length qM, .string qb] 33 (0, 0)) (by (with_reducible repeat (first | refine blk_drewN ?_ _ | refine blk_drew ?_ | refine blk_alloc ?_ _)); exact BK233.out) hb); have n4_ := Aside0.mk (below_step (by repeat (first | (with_reducible first | exact HB.out | apply below_alloc | apply pw_below_drewN | apply below_drew1 | refine below_set ?_ GE231.out | refine below_set ?_ GE232.out | refine below_set ?_ GE233.out) | exact HB.out)) hb); clear BK231; clear BK232; clear BK233; clear HB; have HO297 := n0_; have BK231 := n1_; have BK232 := n2_; have BK233 := n3_; have HB := n4_; clear n0_ n1_ n2_ n3_ n4_; (try clear hb); (try clear hb2); (try clear hk); (try clear hi); (try clear ho0)) | ((with_reducible refine gate_dst (N := 30) rfl ?_); (try (refine gate_guard (by rfl) ?_; dsimp only)); refine box_event ?hg (N := 30) ?hd (cs := #[.int .i64 0, .bool false, .int .i64 0, .int .i64 0, .int .i64 0, .int .i64 0, .int .i64 0, .int .i64 0, .int .i64 0, .bool false, .bool false, .int .i64 0, .int .i64 0, .int .i64 0, .int .i64 0, .int .i64 0, .int .i64 0, .slice none 0 0, .string (⟨#[]⟩ : ByteArray)]) (t := 33) ?hr ?_; (case hd => rfl); (case hg => rfl); (case hr => first | (go_simp; done) | (go_simp; rfl)); intro gb301 hg w126 hbox hb; have n0_ := Aside0.mk (Kd.R_below (by (with_reducible repeat (first | apply Kd.R_alloc | apply Kd.R_drewN | apply Kd.R_drew)); exact HO297.out) hb); have n1_ := Aside0.mk (blk_below (g := gb231) (o := .cells #[.int .i64 qu, .int .i64 qv, .int .i64 qw, .int .i64 qx, .bool qy, .bool qz, .int .i64 qA, .int .i64 qB, .int .i64 qC, .int .i64 qD, .int .i64 qE, .int .i64 qF, .string qt] 26 (0, 0)) (by (with_reducible repeat (first | refine blk_drewN ?_ _ | refine blk_drew ?_ | refine blk_alloc ?_ _)); exact BK231.out) hb); have n2_ := Aside0.mk (blk_below (g := gb232) (o := .cells #[.int .i64 qG, .int .i64 qH, .int .i64 qI, .int .i64 qJ, .int .i64 qK] 30 (0, 0)) (by (with_reducible repeat (first | refine blk_drewN ?_ _ | refine blk_drew ?_ | refine blk_alloc ?_ _)); exact BK232.out) hb); have n3_ := Aside0.mk (blk_below (g := gb233) (o := .cells #[.int .i64 qa, .bool qe, .int .i64 qc, .int .i64 qf, .int .i64 qg, .int .i64 qh, .int .i64 qi, .int .i64 qj, .int .i64 qk, .bool ql, .bool qm, .int .i64 qn, .int .i64 qo, .int .i64 qp, .int .i64 qq, .int .i64 qr, .int .i64 qs, .slice qL qd.length qM, .string qb] 33 (0, 0)) (by (with_reducible repeat (first | refine blk_drewN ?_ _ | refine blk_drew ?_ | refine blk_alloc ?_ _)); exact BK233.out) hb); have n4_ := Aside0.mk (below_step (by repeat (first | (with_reducible first | exact HB.out | apply below_alloc | apply pw_below_drewN | apply below_drew1 | refine below_set ?_ GE231.out | refine below_set ?_ GE232.out | refine below_set ?_ GE233.out) | exact HB.out)) hb); have n5_ := Aside0.mk (hbox); have n6_ := Aside0.mk ((by rw [hg]; exact (below_size (by repeat (first | (with_reducible first | exact HB.out | apply below_alloc | apply pw_below_drewN | apply below_drew1 | refine below_set ?_ GE231.out | refine below_set ?_ GE232.out | refine below_set ?_ GE233.out) | exact HB.out))) : w.heap.size ≤ gb301)); have n7_ := Aside0.mk ((by rw [hg]; exact (below_size (by repeat (first | (with_reducible first | exact HB.out | apply below_alloc | apply pw_below_drewN | apply below_drew1 | refine below_set ?_ GE231.out | refine below_set ?_ GE232.out | refine below_set ?_ GE233.out) | exact HB.out))) : w.heap.size ≤ gb301)); have n8_ := Aside0.mk ((by rw [hg]; exact Nat.ne_of_lt (blk_lt (g := gb231) (o := .cells #[.int .i64 qu, .int .i64 qv, .int .i64 qw, .int .i64 qx, .bool qy, .bool qz, .int .i64 qA, .int .i64 qB, .int .i64 qC, .int .i64 qD, .int .i64 qE, .int .i64 qF, .string qt] 26 (0, 0)) (by (with_reducible repeat (first | refine blk_drewN ?_ _ | refine blk_drew ?_ | refine blk_alloc ?_ _)); exact BK231.out)) : gb231 ≠ gb301)); have n9_ := Aside0.mk ((by rw [hg]; exact Nat.ne_of_gt (blk_lt (g := gb231) (o := .cells #[.int .i64 qu, .int .i64 qv, .int .i64 qw, .int .i64 qx, .bool qy, .bool qz, .int .i64 qA, .int .i64 qB, .int .i64 qC, .int .i64 qD, .int .i64 qE, .int .i64 qF, .string qt] 26 (0, 0)) (by (with_reducible repeat (first | refine blk_drewN ?_ _ | refine blk_drew ?_ | refine blk_alloc ?_ _)); exact BK231.out)) : gb301 ≠ gb231)); have n10_ := Aside0.mk ((by rw [hg]; exact Nat.ne_of_lt (blk_lt (g := gb232) (o := .cells #[.int .i64 qG, .int .i64 qH, .int .i64 qI, .int .i64 qJ, .int .i64 qK] 30 (0, 0)) (by (with_reducible repeat (first | refine blk_drewN ?_ _ | refine blk_drew ?_ | refine blk_alloc ?_ _)); exact BK232.out)) : gb232 ≠ gb301)); have n11_ := Aside0.mk ((by rw [hg]; exact Nat.ne_of_gt (blk_lt (g := gb232) (o := .cells #[.int .i64 qG, .int .i64 qH, .int .i64 qI, .int .i64 qJ, .int .i64 qK] 30 (0, 0)) (by (with_reducible repeat (first | refine blk_drewN ?_ _ | refine blk_drew ?_ | refine blk_alloc ?_ _)); exact BK232.out)) : gb301 ≠ gb232)); have n12_ := Aside0.mk ((by rw [hg]; exact Nat.ne_of_lt (blk_lt (g := gb233) (o := .cells #[.int .i64 qa, .bool qe, .int .i64 qc, .int .i64 qf, .int .i64 qg, .int .i64 qh, .int .i64 qi, .int .i64 qj, .int .i64 qk, .bool ql, .bool qm, .int .i64 qn, .int .i64 qo, .int .i64 qp, .int .i64 qq, .int .i64 qr, .int .i64 qs, .slice qL qd.length qM, .string qb] 33 (0, 0)) (by (with_reducible repeat (first | refine blk_drewN ?_ _ | refine blk_drew ?_ | refine blk_alloc ?_ _)); exact BK233.out)) : gb233 ≠ gb301)); have n13_ := Aside0.mk ((by rw [hg]; exact Nat.ne_of_gt (blk_lt (g := gb233) (o := .cells #[.int .i64 qa, .bool qe, .int .i64 qc, .int .i64 qf, .int .i64 qg, .int .i64 qh, .int .i64 qi, .int .i64 qj, .int .i64 qk, .bool ql, .bool qm, .int .i64 qn, .int .i64 qo, .int .i64 qp, .int .i64 qq, .int .i64 qr, .int .i64 qs, .slice qL qd.length qM, .string qb] 33 (0, 0)) (by (with_reducible repeat (first | refine blk_drewN ?_ _ | refine blk_drew ?_ | refine blk_alloc ?_ _)); exact BK233.out)) : gb301 ≠ gb233)); clear HO297; clear BK231; clear BK232; clear BK233; clear HB; have HO297 := n0_; have BK231 := n1_; have BK232 := n2_; have BK233 := n3_; have HB := n4_; have BK301 := n5_; have GW301 := n6_; have GE301 := n7_; have NB231_301 := n8_; have NB301_231 := n9_; have NB232_301 := n10_; have NB301_232 := n11_; have NB233_301 := n12_; have NB301_233 := n13_; clear n0_ n1_ n2_ n3_ n4_ n5_ n6_ n7_ n8_ n9_ n10_ n11_ n12_ n13_; clear hb hbox hg; have hnb127 := NB301_231.out; have hnc127 := NB231_301.out; have hnb128 := NB301_232.out; have hnc128 := NB232_301.out; have hnb129 := NB301_233.out; have hnc129 := NB233_301.out; have hcz130_0 : w126.cell? ⟨gb301, 0, none⟩ = some (.int .i64 0) := (blk_cell BK301.out 0).trans rfl; have hcz130_1 : w126.cell? ⟨gb301, 1, none⟩ = some (.bool false) := (blk_cell BK301.out 1).trans rfl; have hcz130_2 : w126.cell? ⟨gb301, 2, none⟩ = some (.int .i64 0) := (blk_cell BK301.out 2).trans rfl; have hcz130_3 : w126.cell? ⟨gb301, 3, none⟩ = some (.int .i64 0) := (blk_cell BK301.out 3).trans rfl; have hcz130_4 : w126.cell? ⟨gb301, 4, none⟩ = some (.int .i64 0) := (blk_cell BK301.out 4).trans rfl; have hcz130_5 : w126.cell? ⟨gb301, 5, none⟩ = some (.int .i64 0) := (blk_cell BK301.out 5).trans rfl; have hcz130_6 : w126.cell? ⟨gb301, 6, none⟩ = some (.int .i64 0) := (blk_cell BK301.out 6).trans rfl; have hcz130_7 : w126.cell? ⟨gb301, 7, none⟩ = some (.int .i64 0) := (blk_cell BK301.out 7).trans rfl; have hcz130_8 : w126.cell? ⟨gb301, 8, none⟩ = some (.int .i64 0) := (blk_cell BK301.out 8).trans rfl; have hcz130_9 : w126.cell? ⟨gb301, 9, none⟩ = some (.bool false) := (blk_cell BK301.out 9).trans rfl; have hcz130_10 : w126.cell? ⟨gb301, 10, none⟩ = some (.bool false) := (blk_cell BK301.out 10).trans rfl; have hcz130_11 : w126.cell? ⟨gb301, 11, none⟩ = some (.int .i64 0) := (blk_cell BK301.out 11).trans rfl; have hcz130_12 : w126.cell? ⟨gb301, 12, none⟩ = some (.int .i64 0) := (blk_cell BK301.out 12).trans rfl; have hcz130_13 : w126.cell? ⟨gb301, 13, none⟩ = some (.int .i64 0) := (blk_cell BK301.out 13).trans rfl; have hcz130_14 : w126.cell? ⟨gb301, 14, none⟩ = some (.int .i64 0) := (blk_cell BK301.out 14).trans rfl; have hcz130_15 : w126.cell? ⟨gb301, 15, none⟩ = some (.int .i64 0) := (blk_cell BK301.out 15).trans rfl; have hcz130_16 : w126.cell? ⟨gb301, 16, none⟩ = some (.int .i64 0) := (blk_cell BK301.out 16).trans rfl; have hcz130_17 : w126.cell? ⟨gb301, 17, none⟩ = some (.slice none 0 0) := (blk_cell BK301.out 17).trans rfl; have hcz130_18 : w126.cell? ⟨gb301, 18, none⟩ = some (.string (⟨#[]⟩ : ByteArray)) := (blk_cell BK301.out 18).trans rfl; have hrw15 : rowAt w126 gb301 33 19 = true := rowAt_of (BK301.out) rfl; have hrc15 : cellsAt w126 gb301 = #[.int .i64 0, .bool false, .int .i64 0, .int .i64 0, .int .i64 0, .int .i64 0, .int .i64 0, .int .i64 0, .int .i64 0, .bool false, .bool false, .int .i64 0, .int .i64 0, .int .i64 0, .int .i64 0, .int .i64 0, .int .i64 0, .slice none 0 0, .string (⟨#[]⟩ : ByteArray)] := cellsAt_of (BK301.out); have hfz130_0 := blk_frozen BK301.out 0; have hfz130_1 := blk_frozen BK301.out 1; have hfz130_2 := blk_frozen BK301.out 2; have hfz130_3 := blk_frozen BK301.out 3; have hfz130_4 := blk_frozen BK301.out 4; have hfz130_5 := blk_frozen BK301.out 5; have hfz130_6 := blk_frozen BK301.out 6; have hfz130_7 := blk_frozen BK301.out 7; have hfz130_8 := blk_frozen BK301.out 8; have hfz130_9 := blk_frozen BK301.out 9; have hfz130_10 := blk_frozen BK301.out 10; have hfz130_11 := blk_frozen BK301.out 11; have hfz130_12 := blk_frozen BK301.out 12; have hfz130_13 := blk_frozen BK301.out 13; have hfz130_14 := blk_frozen BK301.out 14; have hfz130_15 := blk_frozen BK301.out 15; have hfz130_16 := blk_frozen BK301.out 16; have hfz130_17 := blk_frozen BK301.out 17; have hfz130_18 := blk_frozen BK301.out 18; obtain ⟨Ao131, co131, eo131⟩ := Kd.R_slice HO297.out; subst eo131; have hcz132_0 : w126.cell? ⟨gb233, 0, none⟩ = some (.int .i64 qa) := (blk_cell BK233.out 0).trans rfl; have hcz132_1 : w126.cell? ⟨gb233, 1, none⟩ = some (.bool qe) := (blk_cell BK233.out 1).trans rfl; have hcz132_2 : w126.cell? ⟨gb233, 2, none⟩ = some (.int .i64 qc) := (blk_cell BK233.out 2).trans rfl; have hcz132_3 : w126.cell? ⟨gb233, 3, none⟩ = some (.int .i64 qf) := (blk_cell BK233.out 3).trans rfl; have hcz132_4 : w126.cell? ⟨gb233, 4, none⟩ = some (.int .i64 qg) := (blk_cell BK233.out 4).trans rfl; have hcz132_5 : w126.cell? ⟨gb233, 5, none⟩ = some (.int .i64 qh) := (blk_cell BK233.out 5).trans rfl; have hcz132_6 : w126.cell? ⟨gb233, 6, none⟩ = some (.int .i64 qi) := (blk_cell BK233.out 6).trans rfl; have hcz132_7 : w126.cell? ⟨gb233, 7, none⟩ = some (.int .i64 qj) := (blk_cell BK233.out 7).trans rfl; have hcz132_8 : w126.cell? ⟨gb233, 8, none⟩ = some (.int .i64 qk) := (blk_cell BK233.out 8).trans rfl; have hcz132_9 : w126.cell? ⟨gb233, 9, none⟩ = some (.bool ql) := (blk_cell BK233.out 9).trans rfl; have hcz132_10 : w126.cell? ⟨gb233, 10, none⟩ = some (.bool qm) := (blk_cell BK233.out 10).trans rfl; have hcz132_11 : w126.cell? ⟨gb233, 11, none⟩ = some (.int .i64 qn) := (blk_cell BK233.out 11).trans rfl; have hcz132_12 : w126.cell? ⟨gb233, 12, none⟩ = some (.int .i64 qo) := (blk_cell BK233.out 12).trans rfl; have hcz132_13 : w126.cell? ⟨gb233, 13, none⟩ = some (.int .i64 qp) := (blk_cell BK233.out 13).trans rfl; have hcz132_14 : w126.cell? ⟨gb233, 14, none⟩ = some (.int .i64 qq) := (blk_cell BK233.out 14).trans rfl; have hcz132_15 : w126.cell? ⟨gb233, 15, none⟩ = some (.int .i64 qr) := (blk_cell BK233.out 15).trans rfl; have hcz132_16 : w126.cell? ⟨gb233, 16, none⟩ = some (.int .i64 qs) := (blk_cell BK233.out 16).trans rfl; have hcz132_17 : w126.cell? ⟨gb233, 17, none⟩ = some (.slice qL qd.length qM) := (blk_cell BK233.out 17).trans rfl; have hcz132_18 : w126.cell? ⟨gb233, 18, none⟩ = some (.string qb) := (blk_cell BK233.out 18).trans rfl; have hrw16 : rowAt w126 gb233 33 19 = true := rowAt_of (BK233.out) rfl; have hrc16 : cellsAt w126 gb233 = #[.int .i64 qa, .bool qe, .int .i64 qc, .int .i64 qf, .int .i64 qg, .int .i64 qh, .int .i64 qi, .int .i64 qj, .int .i64 qk, .bool ql, .bool qm, .int .i64 qn, .int .i64 qo, .int .i64 qp, .int .i64 qq, .int .i64 qr, .int .i64 qs, .slice qL qd.length qM, .string qb] := cellsAt_of (BK233.out); have hfz132_0 := blk_frozen BK233.out 0; have hfz132_1 := blk_frozen BK233.out 1; have hfz132_2 := blk_frozen BK233.out 2; have hfz132_3 := blk_frozen BK233.out 3; have hfz132_4 := blk_frozen BK233.out 4; have hfz132_5 := blk_frozen BK233.out 5; have hfz132_6 := blk_frozen BK233.out 6; have hfz132_7 := blk_frozen BK233.out 7; have hfz132_8 := blk_frozen BK233.out 8; have hfz132_9 := blk_frozen BK233.out 9; have hfz132_10 := blk_frozen BK233.out 10; have hfz132_11 := blk_frozen BK233.out 11; have hfz132_12 := blk_frozen BK233.out 12; have hfz132_13 := blk_frozen BK233.out 13; have hfz132_14 := blk_frozen BK233.out 14; have hfz132_15 := blk_frozen BK233.out 15; have hfz132_16 := blk_frozen BK233.out 16; have hfz132_17 := blk_frozen BK233.out 17; have hfz132_18 := blk_frozen BK233.out 18))
                       go_ret
                       exact ⟨by first | rfl | (simp [errW_none, errW_some] <;> rfl) | (simp [*, errW_none, errW_some] <;> rfl), by repeat (first | (with_reducible first | exact HB.out | apply below_alloc | apply pw_below_drewN | apply below_drew1 | refine below_set ?_ GE231.out | refine below_set ?_ GE232.out | refine below_set ?_ GE233.out | refine below_row ?_ GE301.out _) | exact HB.out)⟩
                      ·rw [if_neg c120] at H
                       have c120b0 : (t300 == 0) = false := beq_eq_false_iff_ne.mpr c120
                       have c120b1 : (t300 != 0) = true := bne_iff_ne.mpr c120
                       rw [HRT.out] at H
                       exact absurd (Option.some.inj H) (by decide)
                     ·rw [if_neg c119] at H
                      have c119b0 : (t299 == (t276.size : Int)) = false := beq_eq_false_iff_ne.mpr c119
                      have c119b1 : (t299 != (t276.size : Int)) = true := bne_iff_ne.mpr c119
                      rw [HRT.out] at H
                      exact absurd (Option.some.inj H) (by decide)
                   ·rw [if_neg c102] at H
                    have c102b0 : (t280 == qc) = false := beq_eq_false_iff_ne.mpr c102
                    have c102b1 : (t280 != qc) = true := bne_iff_ne.mpr c102
                    rw [HRT.out] at H
                    exact absurd (Option.some.inj H) (by decide)
                  ·rw [if_neg c101] at H
                   have c101b0 : (qa == 6) = false := beq_eq_false_iff_ne.mpr c101
                   have c101b1 : (qa != 6) = true := bne_iff_ne.mpr c101
                   by_cases c133 : qa = 5
                   ·rw [if_pos c133] at H
                    have c133b0 : (qa == 5) = true := beq_iff_eq.mpr c133
                    have c133b1 : (qa != 5) = false := bne_eq_false_iff_eq.mpr c133
                    clear c133
                    by_cases c134 : t298.toList = qb.toList
                    ·rw [if_pos c134] at H
                     have c134b0 : (t298.toList == qb.toList) = true := beq_iff_eq.mpr c134
                     have c134b1 : (t298.toList != qb.toList) = false := bne_eq_false_iff_eq.mpr c134
                     clear c134
                     by_cases c135 : t299 = (t276.size : Int)
                     ·rw [if_pos c135] at H
                      have c135b0 : (t299 == (t276.size : Int)) = true := beq_iff_eq.mpr c135
                      have c135b1 : (t299 != (t276.size : Int)) = false := bne_eq_false_iff_eq.mpr c135
                      clear c135
                      by_cases c136 : t300 = 0
                      ·as_aux_lemma =>
                       rw [if_pos c136] at H
                       have c136b0 : (t300 == 0) = true := beq_iff_eq.mpr c136
                       have c136b1 : (t300 != 0) = false := bne_eq_false_iff_eq.mpr c136
                       clear c136
                       obtain rfl := Option.some.inj H
                       have hnb137 := NB233_231.out
                       have hnc137 := NB231_233.out
                       have hnb138 := NB233_232.out
                       have hnc138 := NB232_233.out
                       have hcz139_0 : wc.cell? ⟨gb233, 0, none⟩ = some (.int .i64 qa) := (blk_cell BK233.out 0).trans rfl
                       have hcz139_1 : wc.cell? ⟨gb233, 1, none⟩ = some (.bool qe) := (blk_cell BK233.out 1).trans rfl
                       have hcz139_2 : wc.cell? ⟨gb233, 2, none⟩ = some (.int .i64 qc) := (blk_cell BK233.out 2).trans rfl
                       have hcz139_3 : wc.cell? ⟨gb233, 3, none⟩ = some (.int .i64 qf) := (blk_cell BK233.out 3).trans rfl
                       have hcz139_4 : wc.cell? ⟨gb233, 4, none⟩ = some (.int .i64 qg) := (blk_cell BK233.out 4).trans rfl
                       have hcz139_5 : wc.cell? ⟨gb233, 5, none⟩ = some (.int .i64 qh) := (blk_cell BK233.out 5).trans rfl
                       have hcz139_6 : wc.cell? ⟨gb233, 6, none⟩ = some (.int .i64 qi) := (blk_cell BK233.out 6).trans rfl
                       have hcz139_7 : wc.cell? ⟨gb233, 7, none⟩ = some (.int .i64 qj) := (blk_cell BK233.out 7).trans rfl
                       have hcz139_8 : wc.cell? ⟨gb233, 8, none⟩ = some (.int .i64 qk) := (blk_cell BK233.out 8).trans rfl
                       have hcz139_9 : wc.cell? ⟨gb233, 9, none⟩ = some (.bool ql) := (blk_cell BK233.out 9).trans rfl
                       have hcz139_10 : wc.cell? ⟨gb233, 10, none⟩ = some (.bool qm) := (blk_cell BK233.out 10).trans rfl
                       have hcz139_11 : wc.cell? ⟨gb233, 11, none⟩ = some (.int .i64 qn) := (blk_cell BK233.out 11).trans rfl
                       have hcz139_12 : wc.cell? ⟨gb233, 12, none⟩ = some (.int .i64 qo) := (blk_cell BK233.out 12).trans rfl
                       have hcz139_13 : wc.cell? ⟨gb233, 13, none⟩ = some (.int .i64 qp) := (blk_cell BK233.out 13).trans rfl
                       have hcz139_14 : wc.cell? ⟨gb233, 14, none⟩ = some (.int .i64 qq) := (blk_cell BK233.out 14).trans rfl
                       have hcz139_15 : wc.cell? ⟨gb233, 15, none⟩ = some (.int .i64 qr) := (blk_cell BK233.out 15).trans rfl
                       have hcz139_16 : wc.cell? ⟨gb233, 16, none⟩ = some (.int .i64 qs) := (blk_cell BK233.out 16).trans rfl
                       have hcz139_17 : wc.cell? ⟨gb233, 17, none⟩ = some (.slice qL qd.length qM) := (blk_cell BK233.out 17).trans rfl
                       have hcz139_18 : wc.cell? ⟨gb233, 18, none⟩ = some (.string qb) := (blk_cell BK233.out 18).trans rfl
                       have hrw17 : rowAt wc gb233 33 19 = true := rowAt_of (BK233.out) rfl
                       have hrc17 : cellsAt wc gb233 = #[.int .i64 qa, .bool qe, .int .i64 qc, .int .i64 qf, .int .i64 qg, .int .i64 qh, .int .i64 qi, .int .i64 qj, .int .i64 qk, .bool ql, .bool qm, .int .i64 qn, .int .i64 qo, .int .i64 qp, .int .i64 qq, .int .i64 qr, .int .i64 qs, .slice qL qd.length qM, .string qb] := cellsAt_of (BK233.out)
                       have hfz139_0 := blk_frozen BK233.out 0
                       have hfz139_1 := blk_frozen BK233.out 1
                       have hfz139_2 := blk_frozen BK233.out 2
                       have hfz139_3 := blk_frozen BK233.out 3
                       have hfz139_4 := blk_frozen BK233.out 4
                       have hfz139_5 := blk_frozen BK233.out 5
                       have hfz139_6 := blk_frozen BK233.out 6
                       have hfz139_7 := blk_frozen BK233.out 7
                       have hfz139_8 := blk_frozen BK233.out 8
                       have hfz139_9 := blk_frozen BK233.out 9
                       have hfz139_10 := blk_frozen BK233.out 10
                       have hfz139_11 := blk_frozen BK233.out 11
                       have hfz139_12 := blk_frozen BK233.out 12
                       have hfz139_13 := blk_frozen BK233.out 13
                       have hfz139_14 := blk_frozen BK233.out 14
                       have hfz139_15 := blk_frozen BK233.out 15
                       have hfz139_16 := blk_frozen BK233.out 16
                       have hfz139_17 := blk_frozen BK233.out 17
                       have hfz139_18 := blk_frozen BK233.out 18
                       go_wp2_with (first | ((with_reducible refine gate_callee (f := 15) rfl ?_); refine goesL_ (some 174) rfl rfl Try.func15 (by kernel_rfl) rfl #[.agg #[.int .i64 qa, .bool qe, .int .i64 qc, .int .i64 qf, .int .i64 qg, .int .i64 qh, .int .i64 qi, .int .i64 qj, .int .i64 qk, .bool ql, .bool qm, .int .i64 qn, .int .i64 qo, .int .i64 qp, .int .i64 qq, .int .i64 qr, .int .i64 qs, .slice qL qd.length qM, .string qb]] rfl (by (try simp only [List.map_toArray, List.map_cons, List.map_nil]); first | done | rfl | (simp only [List.length_drop, List.length_take]; rfl)) ?_; (with_reducible refine (servermsg_Say.calls qa qe qc qf qg qh qi qj qk ql qm qn qo qp qq qr qs _ _ qd qb t276 t277 _ ?side1 ?side2 A96.out).mono ?_); (case side1 => repeat (first | exact (Kd.C_below HR4_17.out HB.out) | (with_reducible refine Kd.C_alloc ?_ _) | (with_reducible refine Kd.C_drewN ?_ _) | (with_reducible refine Kd.C_drew ?_))); (case side2 => exact HC4_17.out); rintro e w140 ⟨rfl, hb⟩; refine ⟨_, rfl, ?_⟩; have n0_ := Aside0.mk (blk_below (g := gb231) (o := .cells #[.int .i64 qu, .int .i64 qv, .int .i64 qw, .int .i64 qx, .bool qy, .bool qz, .int .i64 qA, .int .i64 qB, .int .i64 qC, .int .i64 qD, .int .i64 qE, .int .i64 qF, .string qt] 26 (0, 0)) (by (with_reducible repeat (first | refine blk_drewN ?_ _ | refine blk_drew ?_ | refine blk_alloc ?_ _)); exact BK231.out) hb); have n1_ := Aside0.mk (blk_below (g := gb232) (o := .cells #[.int .i64 qG, .int .i64 qH, .int .i64 qI, .int .i64 qJ, .int .i64 qK] 30 (0, 0)) (by (with_reducible repeat (first | refine blk_drewN ?_ _ | refine blk_drew ?_ | refine blk_alloc ?_ _)); exact BK232.out) hb); have n2_ := Aside0.mk (blk_below (g := gb233) (o := .cells #[.int .i64 qa, .bool qe, .int .i64 qc, .int .i64 qf, .int .i64 qg, .int .i64 qh, .int .i64 qi, .int .i64 qj, .int .i64 qk, .bool ql, .bool qm, .int .i64 qn, .int .i64 qo, .int .i64 qp, .int .i64 qq, .int .i64 qr, .int .i64 qs, .slice qL qd.length qM, .string qb] 33 (0, 0)) (by (with_reducible repeat (first | refine blk_drewN ?_ _ | refine blk_drew ?_ | refine blk_alloc ?_ _)); exact BK233.out) hb); have n3_ := Aside0.mk (below_step (by repeat (first | (with_reducible first | exact HB.out | apply below_alloc | apply pw_below_drewN | apply below_drew1 | refine below_set ?_ GE231.out | refine below_set ?_ GE232.out | refine below_set ?_ GE233.out) | exact HB.out)) hb); clear BK231; clear BK232; clear BK233; clear HB; have BK231 := n0_; have BK232 := n1_; have BK233 := n2_; have HB := n3_; clear n0_ n1_ n2_ n3_; (try clear hb); (try clear hb2); (try clear hk); (try clear hi)) | ((with_reducible refine gate_callee (f := 19) rfl ?_); refine goesL_ (some 183) rfl rfl Try.func19 (by kernel_rfl) rfl #[.string (t276 ++ a5)] rfl (by (try simp only [List.map_toArray, List.map_cons, List.map_nil]); first | done | rfl | (simp only [List.length_drop, List.length_take]; rfl)) ?_; (with_reducible refine (servermsg_Parse.calls (t276 ++ a5) t278 t279 t280 t281 t282 t283 t284 t285 t286 t287 t288 t289 t290 t291 t292 t293 t294 t295 t298 t299 t300 _ A99.out).mono ?_); rintro e w141 ⟨v296, rfl, ho0, hb⟩; refine ⟨_, rfl, ?_⟩; have n0_ := Aside0.mk (Kd.R_lower ho0 (below_size (by repeat (first | (with_reducible first | exact HB.out | apply below_alloc | apply pw_below_drewN | apply below_drew1 | refine below_set ?_ GE231.out | refine below_set ?_ GE232.out | refine below_set ?_ GE233.out) | exact HB.out)))); have n1_ := Aside0.mk (blk_below (g := gb231) (o := .cells #[.int .i64 qu, .int .i64 qv, .int .i64 qw, .int .i64 qx, .bool qy, .bool qz, .int .i64 qA, .int .i64 qB, .int .i64 qC, .int .i64 qD, .int .i64 qE, .int .i64 qF, .string qt] 26 (0, 0)) (by (with_reducible repeat (first | refine blk_drewN ?_ _ | refine blk_drew ?_ | refine blk_alloc ?_ _)); exact BK231.out) hb); have n2_ := Aside0.mk (blk_below (g := gb232) (o := .cells #[.int .i64 qG, .int .i64 qH, .int .i64 qI, .int .i64 qJ, .int .i64 qK] 30 (0, 0)) (by (with_reducible repeat (first | refine blk_drewN ?_ _ | refine blk_drew ?_ | refine blk_alloc ?_ _)); exact BK232.out) hb); have n3_ := Aside0.mk (blk_below (g := gb233) (o := .cells #[.int .i64 qa, .bool qe, .int .i64 qc, .int .i64 qf, .int .i64 qg, .int .i64 qh, .int .i64 qi, .int .i64 qj, .int .i64 qk, .bool ql, .bool qm, .int .i64 qn, .int .i64 qo, .int .i64 qp, .int .i64 qq, .int .i64 qr, .int .i64 qs, .slice qL qd.length qM, .string qb] 33 (0, 0)) (by (with_reducible repeat (first | refine blk_drewN ?_ _ | refine blk_drew ?_ | refine blk_alloc ?_ _)); exact BK233.out) hb); have n4_ := Aside0.mk (below_step (by repeat (first | (with_reducible first | exact HB.out | apply below_alloc | apply pw_below_drewN | apply below_drew1 | refine below_set ?_ GE231.out | refine below_set ?_ GE232.out | refine below_set ?_ GE233.out) | exact HB.out)) hb); clear BK231; clear BK232; clear BK233; clear HB; have HO297 := n0_; have BK231 := n1_; have BK232 := n2_; have BK233 := n3_; have HB := n4_; clear n0_ n1_ n2_ n3_ n4_; (try clear hb); (try clear hb2); (try clear hk); (try clear hi); (try clear ho0)) | ((with_reducible refine gate_dst (N := 30) rfl ?_); (try (refine gate_guard (by rfl) ?_; dsimp only)); refine box_event ?hg (N := 30) ?hd (cs := #[.int .i64 0, .bool false, .int .i64 0, .int .i64 0, .int .i64 0, .int .i64 0, .int .i64 0, .int .i64 0, .int .i64 0, .bool false, .bool false, .int .i64 0, .int .i64 0, .int .i64 0, .int .i64 0, .int .i64 0, .int .i64 0, .slice none 0 0, .string (⟨#[]⟩ : ByteArray)]) (t := 33) ?hr ?_; (case hd => rfl); (case hg => rfl); (case hr => first | (go_simp; done) | (go_simp; rfl)); intro gb301 hg w142 hbox hb; have n0_ := Aside0.mk (Kd.R_below (by (with_reducible repeat (first | apply Kd.R_alloc | apply Kd.R_drewN | apply Kd.R_drew)); exact HO297.out) hb); have n1_ := Aside0.mk (blk_below (g := gb231) (o := .cells #[.int .i64 qu, .int .i64 qv, .int .i64 qw, .int .i64 qx, .bool qy, .bool qz, .int .i64 qA, .int .i64 qB, .int .i64 qC, .int .i64 qD, .int .i64 qE, .int .i64 qF, .string qt] 26 (0, 0)) (by (with_reducible repeat (first | refine blk_drewN ?_ _ | refine blk_drew ?_ | refine blk_alloc ?_ _)); exact BK231.out) hb); have n2_ := Aside0.mk (blk_below (g := gb232) (o := .cells #[.int .i64 qG, .int .i64 qH, .int .i64 qI, .int .i64 qJ, .int .i64 qK] 30 (0, 0)) (by (with_reducible repeat (first | refine blk_drewN ?_ _ | refine blk_drew ?_ | refine blk_alloc ?_ _)); exact BK232.out) hb); have n3_ := Aside0.mk (blk_below (g := gb233) (o := .cells #[.int .i64 qa, .bool qe, .int .i64 qc, .int .i64 qf, .int .i64 qg, .int .i64 qh, .int .i64 qi, .int .i64 qj, .int .i64 qk, .bool ql, .bool qm, .int .i64 qn, .int .i64 qo, .int .i64 qp, .int .i64 qq, .int .i64 qr, .int .i64 qs, .slice qL qd.length qM, .string qb] 33 (0, 0)) (by (with_reducible repeat (first | refine blk_drewN ?_ _ | refine blk_drew ?_ | refine blk_alloc ?_ _)); exact BK233.out) hb); have n4_ := Aside0.mk (below_step (by repeat (first | (with_reducible first | exact HB.out | apply below_alloc | apply pw_below_drewN | apply below_drew1 | refine below_set ?_ GE231.out | refine below_set ?_ GE232.out | refine below_set ?_ GE233.out) | exact HB.out)) hb); have n5_ := Aside0.mk (hbox); have n6_ := Aside0.mk ((by rw [hg]; exact (below_size (by repeat (first | (with_reducible first | exact HB.out | apply below_alloc | apply pw_below_drewN | apply below_drew1 | refine below_set ?_ GE231.out | refine below_set ?_ GE232.out | refine below_set ?_ GE233.out) | exact HB.out))) : w.heap.size ≤ gb301)); have n7_ := Aside0.mk ((by rw [hg]; exact (below_size (by repeat (first | (with_reducible first | exact HB.out | apply below_alloc | apply pw_below_drewN | apply below_drew1 | refine below_set ?_ GE231.out | refine below_set ?_ GE232.out | refine below_set ?_ GE233.out) | exact HB.out))) : w.heap.size ≤ gb301)); have n8_ := Aside0.mk ((by rw [hg]; exact Nat.ne_of_lt (blk_lt (g := gb231) (o := .cells #[.int .i64 qu, .int .i64 qv, .int .i64 qw, .int .i64 qx, .bool qy, .bool qz, .int .i64 qA, .int .i64 qB, .int .i64 qC, .int .i64 qD, .int .i64 qE, .int .i64 qF, .string qt] 26 (0, 0)) (by (with_reducible repeat (first | refine blk_drewN ?_ _ | refine blk_drew ?_ | refine blk_alloc ?_ _)); exact BK231.out)) : gb231 ≠ gb301)); have n9_ := Aside0.mk ((by rw [hg]; exact Nat.ne_of_gt (blk_lt (g := gb231) (o := .cells #[.int .i64 qu, .int .i64 qv, .int .i64 qw, .int .i64 qx, .bool qy, .bool qz, .int .i64 qA, .int .i64 qB, .int .i64 qC, .int .i64 qD, .int .i64 qE, .int .i64 qF, .string qt] 26 (0, 0)) (by (with_reducible repeat (first | refine blk_drewN ?_ _ | refine blk_drew ?_ | refine blk_alloc ?_ _)); exact BK231.out)) : gb301 ≠ gb231)); have n10_ := Aside0.mk ((by rw [hg]; exact Nat.ne_of_lt (blk_lt (g := gb232) (o := .cells #[.int .i64 qG, .int .i64 qH, .int .i64 qI, .int .i64 qJ, .int .i64 qK] 30 (0, 0)) (by (with_reducible repeat (first | refine blk_drewN ?_ _ | refine blk_drew ?_ | refine blk_alloc ?_ _)); exact BK232.out)) : gb232 ≠ gb301)); have n11_ := Aside0.mk ((by rw [hg]; exact Nat.ne_of_gt (blk_lt (g := gb232) (o := .cells #[.int .i64 qG, .int .i64 qH, .int .i64 qI, .int .i64 qJ, .int .i64 qK] 30 (0, 0)) (by (with_reducible repeat (first | refine blk_drewN ?_ _ | refine blk_drew ?_ | refine blk_alloc ?_ _)); exact BK232.out)) : gb301 ≠ gb232)); have n12_ := Aside0.mk ((by rw [hg]; exact Nat.ne_of_lt (blk_lt (g := gb233) (o := .cells #[.int .i64 qa, .bool qe, .int .i64 qc, .int .i64 qf, .int .i64 qg, .int .i64 qh, .int .i64 qi, .int .i64 qj, .int .i64 qk, .bool ql, .bool qm, .int .i64 qn, .int .i64 qo, .int .i64 qp, .int .i64 qq, .int .i64 qr, .int .i64 qs, .slice qL qd.length qM, .string qb] 33 (0, 0)) (by (with_reducible repeat (first | refine blk_drewN ?_ _ | refine blk_drew ?_ | refine blk_alloc ?_ _)); exact BK233.out)) : gb233 ≠ gb301)); have n13_ := Aside0.mk ((by rw [hg]; exact Nat.ne_of_gt (blk_lt (g := gb233) (o := .cells #[.int .i64 qa, .bool qe, .int .i64 qc, .int .i64 qf, .int .i64 qg, .int .i64 qh, .int .i64 qi, .int .i64 qj, .int .i64 qk, .bool ql, .bool qm, .int .i64 qn, .int .i64 qo, .int .i64 qp, .int .i64 qq, .int .i64 qr, .int .i64 qs, .slice qL qd.length qM, .string qb] 33 (0, 0)) (by (with_reducible repeat (first | refine blk_drewN ?_ _ | refine blk_drew ?_ | refine blk_alloc ?_ _)); exact BK233.out)) : gb301 ≠ gb233)); clear HO297; clear BK231; clear BK232; clear BK233; clear HB; have HO297 := n0_; have BK231 := n1_; have BK232 := n2_; have BK233 := n3_; have HB := n4_; have BK301 := n5_; have GW301 := n6_; have GE301 := n7_; have NB231_301 := n8_; have NB301_231 := n9_; have NB232_301 := n10_; have NB301_232 := n11_; have NB233_301 := n12_; have NB301_233 := n13_; clear n0_ n1_ n2_ n3_ n4_ n5_ n6_ n7_ n8_ n9_ n10_ n11_ n12_ n13_; clear hb hbox hg; have hnb143 := NB301_231.out; have hnc143 := NB231_301.out; have hnb144 := NB301_232.out; have hnc144 := NB232_301.out; have hnb145 := NB301_233.out; have hnc145 := NB233_301.out; have hcz146_0 : w142.cell? ⟨gb301, 0, none⟩ = some (.int .i64 0) := (blk_cell BK301.out 0).trans rfl; have hcz146_1 : w142.cell? ⟨gb301, 1, none⟩ = some (.bool false) := (blk_cell BK301.out 1).trans rfl; have hcz146_2 : w142.cell? ⟨gb301, 2, none⟩ = some (.int .i64 0) := (blk_cell BK301.out 2).trans rfl; have hcz146_3 : w142.cell? ⟨gb301, 3, none⟩ = some (.int .i64 0) := (blk_cell BK301.out 3).trans rfl; have hcz146_4 : w142.cell? ⟨gb301, 4, none⟩ = some (.int .i64 0) := (blk_cell BK301.out 4).trans rfl; have hcz146_5 : w142.cell? ⟨gb301, 5, none⟩ = some (.int .i64 0) := (blk_cell BK301.out 5).trans rfl; have hcz146_6 : w142.cell? ⟨gb301, 6, none⟩ = some (.int .i64 0) := (blk_cell BK301.out 6).trans rfl; have hcz146_7 : w142.cell? ⟨gb301, 7, none⟩ = some (.int .i64 0) := (blk_cell BK301.out 7).trans rfl; have hcz146_8 : w142.cell? ⟨gb301, 8, none⟩ = some (.int .i64 0) := (blk_cell BK301.out 8).trans rfl; have hcz146_9 : w142.cell? ⟨gb301, 9, none⟩ = some (.bool false) := (blk_cell BK301.out 9).trans rfl; have hcz146_10 : w142.cell? ⟨gb301, 10, none⟩ = some (.bool false) := (blk_cell BK301.out 10).trans rfl; have hcz146_11 : w142.cell? ⟨gb301, 11, none⟩ = some (.int .i64 0) := (blk_cell BK301.out 11).trans rfl; have hcz146_12 : w142.cell? ⟨gb301, 12, none⟩ = some (.int .i64 0) := (blk_cell BK301.out 12).trans rfl; have hcz146_13 : w142.cell? ⟨gb301, 13, none⟩ = some (.int .i64 0) := (blk_cell BK301.out 13).trans rfl; have hcz146_14 : w142.cell? ⟨gb301, 14, none⟩ = some (.int .i64 0) := (blk_cell BK301.out 14).trans rfl; have hcz146_15 : w142.cell? ⟨gb301, 15, none⟩ = some (.int .i64 0) := (blk_cell BK301.out 15).trans rfl; have hcz146_16 : w142.cell? ⟨gb301, 16, none⟩ = some (.int .i64 0) := (blk_cell BK301.out 16).trans rfl; have hcz146_17 : w142.cell? ⟨gb301, 17, none⟩ = some (.slice none 0 0) := (blk_cell BK301.out 17).trans rfl; have hcz146_18 : w142.cell? ⟨gb301, 18, none⟩ = some (.string (⟨#[]⟩ : ByteArray)) := (blk_cell BK301.out 18).trans rfl; have hrw18 : rowAt w142 gb301 33 19 = true := rowAt_of (BK301.out) rfl; have hrc18 : cellsAt w142 gb301 = #[.int .i64 0, .bool false, .int .i64 0, .int .i64 0, .int .i64 0, .int .i64 0, .int .i64 0, .int .i64 0, .int .i64 0, .bool false, .bool false, .int .i64 0, .int .i64 0, .int .i64 0, .int .i64 0, .int .i64 0, .int .i64 0, .slice none 0 0, .string (⟨#[]⟩ : ByteArray)] := cellsAt_of (BK301.out); have hfz146_0 := blk_frozen BK301.out 0; have hfz146_1 := blk_frozen BK301.out 1; have hfz146_2 := blk_frozen BK301.out 2; have hfz146_3 := blk_frozen BK301.out 3; have hfz146_4 := blk_frozen BK301.out 4; have hfz146_5 := blk_frozen BK301.out 5; have hfz146_6 := blk_frozen BK301.out 6; have hfz146_7 := blk_frozen BK301.out 7; have hfz146_8 := blk_frozen BK301.out 8; have hfz146_9 := blk_frozen BK301.out 9; have hfz146_10 := blk_frozen BK301.out 10; have hfz146_11 := blk_frozen BK301.out 11; have hfz146_12 := blk_frozen BK301.out 12; have hfz146_13 := blk_frozen BK301.out 13; have hfz146_14 := blk_frozen BK301.out 14; have hfz146_15 := blk_frozen BK301.out 15; have hfz146_16 := blk_frozen BK301.out 16; have hfz146_17 := blk_frozen BK301.out 17; have hfz146_18 := blk_frozen BK301.out 18; obtain ⟨Ao147, co147, eo147⟩ := Kd.R_slice HO297.out; subst eo147; have hcz148_0 : w142.cell? ⟨gb233, 0, none⟩ = some (.int .i64 qa) := (blk_cell BK233.out 0).trans rfl; have hcz148_1 : w142.cell? ⟨gb233, 1, none⟩ = some (.bool qe) := (blk_cell BK233.out 1).trans rfl; have hcz148_2 : w142.cell? ⟨gb233, 2, none⟩ = some (.int .i64 qc) := (blk_cell BK233.out 2).trans rfl; have hcz148_3 : w142.cell? ⟨gb233, 3, none⟩ = some (.int .i64 qf) := (blk_cell BK233.out 3).trans rfl; have hcz148_4 : w142.cell? ⟨gb233, 4, none⟩ = some (.int .i64 qg) := (blk_cell BK233.out 4).trans rfl; have hcz148_5 : w142.cell? ⟨gb233, 5, none⟩ = some (.int .i64 qh) := (blk_cell BK233.out 5).trans rfl; have hcz148_6 : w142.cell? ⟨gb233, 6, none⟩ = some (.int .i64 qi) := (blk_cell BK233.out 6).trans rfl; have hcz148_7 : w142.cell? ⟨gb233, 7, none⟩ = some (.int .i64 qj) := (blk_cell BK233.out 7).trans rfl; have hcz148_8 : w142.cell? ⟨gb233, 8, none⟩ = some (.int .i64 qk) := (blk_cell BK233.out 8).trans rfl; have hcz148_9 : w142.cell? ⟨gb233, 9, none⟩ = some (.bool ql) := (blk_cell BK233.out 9).trans rfl; have hcz148_10 : w142.cell? ⟨gb233, 10, none⟩ = some (.bool qm) := (blk_cell BK233.out 10).trans rfl; have hcz148_11 : w142.cell? ⟨gb233, 11, none⟩ = some (.int .i64 qn) := (blk_cell BK233.out 11).trans rfl; have hcz148_12 : w142.cell? ⟨gb233, 12, none⟩ = some (.int .i64 qo) := (blk_cell BK233.out 12).trans rfl; have hcz148_13 : w142.cell? ⟨gb233, 13, none⟩ = some (.int .i64 qp) := (blk_cell BK233.out 13).trans rfl; have hcz148_14 : w142.cell? ⟨gb233, 14, none⟩ = some (.int .i64 qq) := (blk_cell BK233.out 14).trans rfl; have hcz148_15 : w142.cell? ⟨gb233, 15, none⟩ = some (.int .i64 qr) := (blk_cell BK233.out 15).trans rfl; have hcz148_16 : w142.cell? ⟨gb233, 16, none⟩ = some (.int .i64 qs) := (blk_cell BK233.out 16).trans rfl; have hcz148_17 : w142.cell? ⟨gb233, 17, none⟩ = some (.slice qL qd.length qM) := (blk_cell BK233.out 17).trans rfl; have hcz148_18 : w142.cell? ⟨gb233, 18, none⟩ = some (.string qb) := (blk_cell BK233.out 18).trans rfl; have hrw19 : rowAt w142 gb233 33 19 = true := rowAt_of (BK233.out) rfl; have hrc19 : cellsAt w142 gb233 = #[.int .i64 qa, .bool qe, .int .i64 qc, .int .i64 qf, .int .i64 qg, .int .i64 qh, .int .i64 qi, .int .i64 qj, .int .i64 qk, .bool ql, .bool qm, .int .i64 qn, .int .i64 qo, .int .i64 qp, .int .i64 qq, .int .i64 qr, .int .i64 qs, .slice qL qd.length qM, .string qb] := cellsAt_of (BK233.out); have hfz148_0 := blk_frozen BK233.out 0; have hfz148_1 := blk_frozen BK233.out 1; have hfz148_2 := blk_frozen BK233.out 2; have hfz148_3 := blk_frozen BK233.out 3; have hfz148_4 := blk_frozen BK233.out 4; have hfz148_5 := blk_frozen BK233.out 5; have hfz148_6 := blk_frozen BK233.out 6; have hfz148_7 := blk_frozen BK233.out 7; have hfz148_8 := blk_frozen BK233.out 8; have hfz148_9 := blk_frozen BK233.out 9; have hfz148_10 := blk_frozen BK233.out 10; have hfz148_11 := blk_frozen BK233.out 11; have hfz148_12 := blk_frozen BK233.out 12; have hfz148_13 := blk_frozen BK233.out 13; have hfz148_14 := blk_frozen BK233.out 14; have hfz148_15 := blk_frozen BK233.out 15; have hfz148_16 := blk_frozen BK233.out 16; have hfz148_17 := blk_frozen BK233.out 17; have hfz148_18 := blk_frozen BK233.out 18))
                       go_ret
                       exact ⟨by first | rfl | (simp [errW_none, errW_some] <;> rfl) | (simp [*, errW_none, errW_some] <;> rfl), by repeat (first | (with_reducible first | exact HB.out | apply below_alloc | apply pw_below_drewN | apply below_drew1 | refine below_set ?_ GE231.out | refine below_set ?_ GE232.out | refine below_set ?_ GE233.out | refine below_row ?_ GE301.out _) | exact HB.out)⟩
                      ·rw [if_neg c136] at H
                       have c136b0 : (t300 == 0) = false := beq_eq_false_iff_ne.mpr c136
                       have c136b1 : (t300 != 0) = true := bne_iff_ne.mpr c136
                       rw [HRT.out] at H
                       exact absurd (Option.some.inj H) (by decide)
                     ·rw [if_neg c135] at H
                      have c135b0 : (t299 == (t276.size : Int)) = false := beq_eq_false_iff_ne.mpr c135
                      have c135b1 : (t299 != (t276.size : Int)) = true := bne_iff_ne.mpr c135
                      rw [HRT.out] at H
                      exact absurd (Option.some.inj H) (by decide)
                    ·rw [if_neg c134] at H
                     have c134b0 : (t298.toList == qb.toList) = false := beq_eq_false_iff_ne.mpr c134
                     have c134b1 : (t298.toList != qb.toList) = true := bne_iff_ne.mpr c134
                     rw [HRT.out] at H
                     exact absurd (Option.some.inj H) (by decide)
                   ·rw [if_neg c133] at H
                    have c133b0 : (qa == 5) = false := beq_eq_false_iff_ne.mpr c133
                    have c133b1 : (qa != 5) = true := bne_iff_ne.mpr c133
                    by_cases c149 : t299 = (t276.size : Int)
                    ·rw [if_pos c149] at H
                     have c149b0 : (t299 == (t276.size : Int)) = true := beq_iff_eq.mpr c149
                     have c149b1 : (t299 != (t276.size : Int)) = false := bne_eq_false_iff_eq.mpr c149
                     clear c149
                     by_cases c150 : t300 = 0
                     ·as_aux_lemma =>
                      rw [if_pos c150] at H
                      have c150b0 : (t300 == 0) = true := beq_iff_eq.mpr c150
                      have c150b1 : (t300 != 0) = false := bne_eq_false_iff_eq.mpr c150
                      clear c150
                      obtain rfl := Option.some.inj H
                      have hnb151 := NB233_231.out
                      have hnc151 := NB231_233.out
                      have hnb152 := NB233_232.out
                      have hnc152 := NB232_233.out
                      have hcz153_0 : wc.cell? ⟨gb233, 0, none⟩ = some (.int .i64 qa) := (blk_cell BK233.out 0).trans rfl
                      have hcz153_1 : wc.cell? ⟨gb233, 1, none⟩ = some (.bool qe) := (blk_cell BK233.out 1).trans rfl
                      have hcz153_2 : wc.cell? ⟨gb233, 2, none⟩ = some (.int .i64 qc) := (blk_cell BK233.out 2).trans rfl
                      have hcz153_3 : wc.cell? ⟨gb233, 3, none⟩ = some (.int .i64 qf) := (blk_cell BK233.out 3).trans rfl
                      have hcz153_4 : wc.cell? ⟨gb233, 4, none⟩ = some (.int .i64 qg) := (blk_cell BK233.out 4).trans rfl
                      have hcz153_5 : wc.cell? ⟨gb233, 5, none⟩ = some (.int .i64 qh) := (blk_cell BK233.out 5).trans rfl
                      have hcz153_6 : wc.cell? ⟨gb233, 6, none⟩ = some (.int .i64 qi) := (blk_cell BK233.out 6).trans rfl
                      have hcz153_7 : wc.cell? ⟨gb233, 7, none⟩ = some (.int .i64 qj) := (blk_cell BK233.out 7).trans rfl
                      have hcz153_8 : wc.cell? ⟨gb233, 8, none⟩ = some (.int .i64 qk) := (blk_cell BK233.out 8).trans rfl
                      have hcz153_9 : wc.cell? ⟨gb233, 9, none⟩ = some (.bool ql) := (blk_cell BK233.out 9).trans rfl
                      have hcz153_10 : wc.cell? ⟨gb233, 10, none⟩ = some (.bool qm) := (blk_cell BK233.out 10).trans rfl
                      have hcz153_11 : wc.cell? ⟨gb233, 11, none⟩ = some (.int .i64 qn) := (blk_cell BK233.out 11).trans rfl
                      have hcz153_12 : wc.cell? ⟨gb233, 12, none⟩ = some (.int .i64 qo) := (blk_cell BK233.out 12).trans rfl
                      have hcz153_13 : wc.cell? ⟨gb233, 13, none⟩ = some (.int .i64 qp) := (blk_cell BK233.out 13).trans rfl
                      have hcz153_14 : wc.cell? ⟨gb233, 14, none⟩ = some (.int .i64 qq) := (blk_cell BK233.out 14).trans rfl
                      have hcz153_15 : wc.cell? ⟨gb233, 15, none⟩ = some (.int .i64 qr) := (blk_cell BK233.out 15).trans rfl
                      have hcz153_16 : wc.cell? ⟨gb233, 16, none⟩ = some (.int .i64 qs) := (blk_cell BK233.out 16).trans rfl
                      have hcz153_17 : wc.cell? ⟨gb233, 17, none⟩ = some (.slice qL qd.length qM) := (blk_cell BK233.out 17).trans rfl
                      have hcz153_18 : wc.cell? ⟨gb233, 18, none⟩ = some (.string qb) := (blk_cell BK233.out 18).trans rfl
                      have hrw20 : rowAt wc gb233 33 19 = true := rowAt_of (BK233.out) rfl
                      have hrc20 : cellsAt wc gb233 = #[.int .i64 qa, .bool qe, .int .i64 qc, .int .i64 qf, .int .i64 qg, .int .i64 qh, .int .i64 qi, .int .i64 qj, .int .i64 qk, .bool ql, .bool qm, .int .i64 qn, .int .i64 qo, .int .i64 qp, .int .i64 qq, .int .i64 qr, .int .i64 qs, .slice qL qd.length qM, .string qb] := cellsAt_of (BK233.out)
                      have hfz153_0 := blk_frozen BK233.out 0
                      have hfz153_1 := blk_frozen BK233.out 1
                      have hfz153_2 := blk_frozen BK233.out 2
                      have hfz153_3 := blk_frozen BK233.out 3
                      have hfz153_4 := blk_frozen BK233.out 4
                      have hfz153_5 := blk_frozen BK233.out 5
                      have hfz153_6 := blk_frozen BK233.out 6
                      have hfz153_7 := blk_frozen BK233.out 7
                      have hfz153_8 := blk_frozen BK233.out 8
                      have hfz153_9 := blk_frozen BK233.out 9
                      have hfz153_10 := blk_frozen BK233.out 10
                      have hfz153_11 := blk_frozen BK233.out 11
                      have hfz153_12 := blk_frozen BK233.out 12
                      have hfz153_13 := blk_frozen BK233.out 13
                      have hfz153_14 := blk_frozen BK233.out 14
                      have hfz153_15 := blk_frozen BK233.out 15
                      have hfz153_16 := blk_frozen BK233.out 16
                      have hfz153_17 := blk_frozen BK233.out 17
                      have hfz153_18 := blk_frozen BK233.out 18
                      go_wp2_with (first | ((with_reducible refine gate_callee (f := 15) rfl ?_); refine goesL_ (some 174) rfl rfl Try.func15 (by kernel_rfl) rfl #[.agg #[.int .i64 qa, .bool qe, .int .i64 qc, .int .i64 qf, .int .i64 qg, .int .i64 qh, .int .i64 qi, .int .i64 qj, .int .i64 qk, .bool ql, .bool qm, .int .i64 qn, .int .i64 qo, .int .i64 qp, .int .i64 qq, .int .i64 qr, .int .i64 qs, .slice qL qd.length qM, .string qb]] rfl (by (try simp only [List.map_toArray, List.map_cons, List.map_nil]); first | done | rfl | (simp only [List.length_drop, List.length_take]; rfl)) ?_; (with_reducible refine (servermsg_Say.calls qa qe qc qf qg qh qi qj qk ql qm qn qo qp qq qr qs _ _ qd qb t276 t277 _ ?side1 ?side2 A96.out).mono ?_); (case side1 => repeat (first | exact (Kd.C_below HR4_17.out HB.out) | (with_reducible refine Kd.C_alloc ?_ _) | (with_reducible refine Kd.C_drewN ?_ _) | (with_reducible refine Kd.C_drew ?_))); (case side2 => exact HC4_17.out); rintro e w154 ⟨rfl, hb⟩; refine ⟨_, rfl, ?_⟩; have n0_ := Aside0.mk (blk_below (g := gb231) (o := .cells #[.int .i64 qu, .int .i64 qv, .int .i64 qw, .int .i64 qx, .bool qy, .bool qz, .int .i64 qA, .int .i64 qB, .int .i64 qC, .int .i64 qD, .int .i64 qE, .int .i64 qF, .string qt] 26 (0, 0)) (by (with_reducible repeat (first | refine blk_drewN ?_ _ | refine blk_drew ?_ | refine blk_alloc ?_ _)); exact BK231.out) hb); have n1_ := Aside0.mk (blk_below (g := gb232) (o := .cells #[.int .i64 qG, .int .i64 qH, .int .i64 qI, .int .i64 qJ, .int .i64 qK] 30 (0, 0)) (by (with_reducible repeat (first | refine blk_drewN ?_ _ | refine blk_drew ?_ | refine blk_alloc ?_ _)); exact BK232.out) hb); have n2_ := Aside0.mk (blk_below (g := gb233) (o := .cells #[.int .i64 qa, .bool qe, .int .i64 qc, .int .i64 qf, .int .i64 qg, .int .i64 qh, .int .i64 qi, .int .i64 qj, .int .i64 qk, .bool ql, .bool qm, .int .i64 qn, .int .i64 qo, .int .i64 qp, .int .i64 qq, .int .i64 qr, .int .i64 qs, .slice qL qd.length qM, .string qb] 33 (0, 0)) (by (with_reducible repeat (first | refine blk_drewN ?_ _ | refine blk_drew ?_ | refine blk_alloc ?_ _)); exact BK233.out) hb); have n3_ := Aside0.mk (below_step (by repeat (first | (with_reducible first | exact HB.out | apply below_alloc | apply pw_below_drewN | apply below_drew1 | refine below_set ?_ GE231.out | refine below_set ?_ GE232.out | refine below_set ?_ GE233.out) | exact HB.out)) hb); clear BK231; clear BK232; clear BK233; clear HB; have BK231 := n0_; have BK232 := n1_; have BK233 := n2_; have HB := n3_; clear n0_ n1_ n2_ n3_; (try clear hb); (try clear hb2); (try clear hk); (try clear hi)) | ((with_reducible refine gate_callee (f := 19) rfl ?_); refine goesL_ (some 183) rfl rfl Try.func19 (by kernel_rfl) rfl #[.string (t276 ++ a5)] rfl (by (try simp only [List.map_toArray, List.map_cons, List.map_nil]); first | done | rfl | (simp only [List.length_drop, List.length_take]; rfl)) ?_; (with_reducible refine (servermsg_Parse.calls (t276 ++ a5) t278 t279 t280 t281 t282 t283 t284 t285 t286 t287 t288 t289 t290 t291 t292 t293 t294 t295 t298 t299 t300 _ A99.out).mono ?_); rintro e w155 ⟨v296, rfl, ho0, hb⟩; refine ⟨_, rfl, ?_⟩; have n0_ := Aside0.mk (Kd.R_lower ho0 (below_size (by repeat (first | (with_reducible first | exact HB.out | apply below_alloc | apply pw_below_drewN | apply below_drew1 | refine below_set ?_ GE231.out | refine below_set ?_ GE232.out | refine below_set ?_ GE233.out) | exact HB.out)))); have n1_ := Aside0.mk (blk_below (g := gb231) (o := .cells #[.int .i64 qu, .int .i64 qv, .int .i64 qw, .int .i64 qx, .bool qy, .bool qz, .int .i64 qA, .int .i64 qB, .int .i64 qC, .int .i64 qD, .int .i64 qE, .int .i64 qF, .string qt] 26 (0, 0)) (by (with_reducible repeat (first | refine blk_drewN ?_ _ | refine blk_drew ?_ | refine blk_alloc ?_ _)); exact BK231.out) hb); have n2_ := Aside0.mk (blk_below (g := gb232) (o := .cells #[.int .i64 qG, .int .i64 qH, .int .i64 qI, .int .i64 qJ, .int .i64 qK] 30 (0, 0)) (by (with_reducible repeat (first | refine blk_drewN ?_ _ | refine blk_drew ?_ | refine blk_alloc ?_ _)); exact BK232.out) hb); have n3_ := Aside0.mk (blk_below (g := gb233) (o := .cells #[.int .i64 qa, .bool qe, .int .i64 qc, .int .i64 qf, .int .i64 qg, .int .i64 qh, .int .i64 qi, .int .i64 qj, .int .i64 qk, .bool ql, .bool qm, .int .i64 qn, .int .i64 qo, .int .i64 qp, .int .i64 qq, .int .i64 qr, .int .i64 qs, .slice qL qd.length qM, .string qb] 33 (0, 0)) (by (with_reducible repeat (first | refine blk_drewN ?_ _ | refine blk_drew ?_ | refine blk_alloc ?_ _)); exact BK233.out) hb); have n4_ := Aside0.mk (below_step (by repeat (first | (with_reducible first | exact HB.out | apply below_alloc | apply pw_below_drewN | apply below_drew1 | refine below_set ?_ GE231.out | refine below_set ?_ GE232.out | refine below_set ?_ GE233.out) | exact HB.out)) hb); clear BK231; clear BK232; clear BK233; clear HB; have HO297 := n0_; have BK231 := n1_; have BK232 := n2_; have BK233 := n3_; have HB := n4_; clear n0_ n1_ n2_ n3_ n4_; (try clear hb); (try clear hb2); (try clear hk); (try clear hi); (try clear ho0)) | ((with_reducible refine gate_dst (N := 30) rfl ?_); (try (refine gate_guard (by rfl) ?_; dsimp only)); refine box_event ?hg (N := 30) ?hd (cs := #[.int .i64 0, .bool false, .int .i64 0, .int .i64 0, .int .i64 0, .int .i64 0, .int .i64 0, .int .i64 0, .int .i64 0, .bool false, .bool false, .int .i64 0, .int .i64 0, .int .i64 0, .int .i64 0, .int .i64 0, .int .i64 0, .slice none 0 0, .string (⟨#[]⟩ : ByteArray)]) (t := 33) ?hr ?_; (case hd => rfl); (case hg => rfl); (case hr => first | (go_simp; done) | (go_simp; rfl)); intro gb301 hg w156 hbox hb; have n0_ := Aside0.mk (Kd.R_below (by (with_reducible repeat (first | apply Kd.R_alloc | apply Kd.R_drewN | apply Kd.R_drew)); exact HO297.out) hb); have n1_ := Aside0.mk (blk_below (g := gb231) (o := .cells #[.int .i64 qu, .int .i64 qv, .int .i64 qw, .int .i64 qx, .bool qy, .bool qz, .int .i64 qA, .int .i64 qB, .int .i64 qC, .int .i64 qD, .int .i64 qE, .int .i64 qF, .string qt] 26 (0, 0)) (by (with_reducible repeat (first | refine blk_drewN ?_ _ | refine blk_drew ?_ | refine blk_alloc ?_ _)); exact BK231.out) hb); have n2_ := Aside0.mk (blk_below (g := gb232) (o := .cells #[.int .i64 qG, .int .i64 qH, .int .i64 qI, .int .i64 qJ, .int .i64 qK] 30 (0, 0)) (by (with_reducible repeat (first | refine blk_drewN ?_ _ | refine blk_drew ?_ | refine blk_alloc ?_ _)); exact BK232.out) hb); have n3_ := Aside0.mk (blk_below (g := gb233) (o := .cells #[.int .i64 qa, .bool qe, .int .i64 qc, .int .i64 qf, .int .i64 qg, .int .i64 qh, .int .i64 qi, .int .i64 qj, .int .i64 qk, .bool ql, .bool qm, .int .i64 qn, .int .i64 qo, .int .i64 qp, .int .i64 qq, .int .i64 qr, .int .i64 qs, .slice qL qd.length qM, .string qb] 33 (0, 0)) (by (with_reducible repeat (first | refine blk_drewN ?_ _ | refine blk_drew ?_ | refine blk_alloc ?_ _)); exact BK233.out) hb); have n4_ := Aside0.mk (below_step (by repeat (first | (with_reducible first | exact HB.out | apply below_alloc | apply pw_below_drewN | apply below_drew1 | refine below_set ?_ GE231.out | refine below_set ?_ GE232.out | refine below_set ?_ GE233.out) | exact HB.out)) hb); have n5_ := Aside0.mk (hbox); have n6_ := Aside0.mk ((by rw [hg]; exact (below_size (by repeat (first | (with_reducible first | exact HB.out | apply below_alloc | apply pw_below_drewN | apply below_drew1 | refine below_set ?_ GE231.out | refine below_set ?_ GE232.out | refine below_set ?_ GE233.out) | exact HB.out))) : w.heap.size ≤ gb301)); have n7_ := Aside0.mk ((by rw [hg]; exact (below_size (by repeat (first | (with_reducible first | exact HB.out | apply below_alloc | apply pw_below_drewN | apply below_drew1 | refine below_set ?_ GE231.out | refine below_set ?_ GE232.out | refine below_set ?_ GE233.out) | exact HB.out))) : w.heap.size ≤ gb301)); have n8_ := Aside0.mk ((by rw [hg]; exact Nat.ne_of_lt (blk_lt (g := gb231) (o := .cells #[.int .i64 qu, .int .i64 qv, .int .i64 qw, .int .i64 qx, .bool qy, .bool qz, .int .i64 qA, .int .i64 qB, .int .i64 qC, .int .i64 qD, .int .i64 qE, .int .i64 qF, .string qt] 26 (0, 0)) (by (with_reducible repeat (first | refine blk_drewN ?_ _ | refine blk_drew ?_ | refine blk_alloc ?_ _)); exact BK231.out)) : gb231 ≠ gb301)); have n9_ := Aside0.mk ((by rw [hg]; exact Nat.ne_of_gt (blk_lt (g := gb231) (o := .cells #[.int .i64 qu, .int .i64 qv, .int .i64 qw, .int .i64 qx, .bool qy, .bool qz, .int .i64 qA, .int .i64 qB, .int .i64 qC, .int .i64 qD, .int .i64 qE, .int .i64 qF, .string qt] 26 (0, 0)) (by (with_reducible repeat (first | refine blk_drewN ?_ _ | refine blk_drew ?_ | refine blk_alloc ?_ _)); exact BK231.out)) : gb301 ≠ gb231)); have n10_ := Aside0.mk ((by rw [hg]; exact Nat.ne_of_lt (blk_lt (g := gb232) (o := .cells #[.int .i64 qG, .int .i64 qH, .int .i64 qI, .int .i64 qJ, .int .i64 qK] 30 (0, 0)) (by (with_reducible repeat (first | refine blk_drewN ?_ _ | refine blk_drew ?_ | refine blk_alloc ?_ _)); exact BK232.out)) : gb232 ≠ gb301)); have n11_ := Aside0.mk ((by rw [hg]; exact Nat.ne_of_gt (blk_lt (g := gb232) (o := .cells #[.int .i64 qG, .int .i64 qH, .int .i64 qI, .int .i64 qJ, .int .i64 qK] 30 (0, 0)) (by (with_reducible repeat (first | refine blk_drewN ?_ _ | refine blk_drew ?_ | refine blk_alloc ?_ _)); exact BK232.out)) : gb301 ≠ gb232)); have n12_ := Aside0.mk ((by rw [hg]; exact Nat.ne_of_lt (blk_lt (g := gb233) (o := .cells #[.int .i64 qa, .bool qe, .int .i64 qc, .int .i64 qf, .int .i64 qg, .int .i64 qh, .int .i64 qi, .int .i64 qj, .int .i64 qk, .bool ql, .bool qm, .int .i64 qn, .int .i64 qo, .int .i64 qp, .int .i64 qq, .int .i64 qr, .int .i64 qs, .slice qL qd.length qM, .string qb] 33 (0, 0)) (by (with_reducible repeat (first | refine blk_drewN ?_ _ | refine blk_drew ?_ | refine blk_alloc ?_ _)); exact BK233.out)) : gb233 ≠ gb301)); have n13_ := Aside0.mk ((by rw [hg]; exact Nat.ne_of_gt (blk_lt (g := gb233) (o := .cells #[.int .i64 qa, .bool qe, .int .i64 qc, .int .i64 qf, .int .i64 qg, .int .i64 qh, .int .i64 qi, .int .i64 qj, .int .i64 qk, .bool ql, .bool qm, .int .i64 qn, .int .i64 qo, .int .i64 qp, .int .i64 qq, .int .i64 qr, .int .i64 qs, .slice qL qd.length qM, .string qb] 33 (0, 0)) (by (with_reducible repeat (first | refine blk_drewN ?_ _ | refine blk_drew ?_ | refine blk_alloc ?_ _)); exact BK233.out)) : gb301 ≠ gb233)); clear HO297; clear BK231; clear BK232; clear BK233; clear HB; have HO297 := n0_; have BK231 := n1_; have BK232 := n2_; have BK233 := n3_; have HB := n4_; have BK301 := n5_; have GW301 := n6_; have GE301 := n7_; have NB231_301 := n8_; have NB301_231 := n9_; have NB232_301 := n10_; have NB301_232 := n11_; have NB233_301 := n12_; have NB301_233 := n13_; clear n0_ n1_ n2_ n3_ n4_ n5_ n6_ n7_ n8_ n9_ n10_ n11_ n12_ n13_; clear hb hbox hg; have hnb157 := NB301_231.out; have hnc157 := NB231_301.out; have hnb158 := NB301_232.out; have hnc158 := NB232_301.out; have hnb159 := NB301_233.out; have hnc159 := NB233_301.out; have hcz160_0 : w156.cell? ⟨gb301, 0, none⟩ = some (.int .i64 0) := (blk_cell BK301.out 0).trans rfl; have hcz160_1 : w156.cell? ⟨gb301, 1, none⟩ = some (.bool false) := (blk_cell BK301.out 1).trans rfl; have hcz160_2 : w156.cell? ⟨gb301, 2, none⟩ = some (.int .i64 0) := (blk_cell BK301.out 2).trans rfl; have hcz160_3 : w156.cell? ⟨gb301, 3, none⟩ = some (.int .i64 0) := (blk_cell BK301.out 3).trans rfl; have hcz160_4 : w156.cell? ⟨gb301, 4, none⟩ = some (.int .i64 0) := (blk_cell BK301.out 4).trans rfl; have hcz160_5 : w156.cell? ⟨gb301, 5, none⟩ = some (.int .i64 0) := (blk_cell BK301.out 5).trans rfl; have hcz160_6 : w156.cell? ⟨gb301, 6, none⟩ = some (.int .i64 0) := (blk_cell BK301.out 6).trans rfl; have hcz160_7 : w156.cell? ⟨gb301, 7, none⟩ = some (.int .i64 0) := (blk_cell BK301.out 7).trans rfl; have hcz160_8 : w156.cell? ⟨gb301, 8, none⟩ = some (.int .i64 0) := (blk_cell BK301.out 8).trans rfl; have hcz160_9 : w156.cell? ⟨gb301, 9, none⟩ = some (.bool false) := (blk_cell BK301.out 9).trans rfl; have hcz160_10 : w156.cell? ⟨gb301, 10, none⟩ = some (.bool false) := (blk_cell BK301.out 10).trans rfl; have hcz160_11 : w156.cell? ⟨gb301, 11, none⟩ = some (.int .i64 0) := (blk_cell BK301.out 11).trans rfl; have hcz160_12 : w156.cell? ⟨gb301, 12, none⟩ = some (.int .i64 0) := (blk_cell BK301.out 12).trans rfl; have hcz160_13 : w156.cell? ⟨gb301, 13, none⟩ = some (.int .i64 0) := (blk_cell BK301.out 13).trans rfl; have hcz160_14 : w156.cell? ⟨gb301, 14, none⟩ = some (.int .i64 0) := (blk_cell BK301.out 14).trans rfl; have hcz160_15 : w156.cell? ⟨gb301, 15, none⟩ = some (.int .i64 0) := (blk_cell BK301.out 15).trans rfl; have hcz160_16 : w156.cell? ⟨gb301, 16, none⟩ = some (.int .i64 0) := (blk_cell BK301.out 16).trans rfl; have hcz160_17 : w156.cell? ⟨gb301, 17, none⟩ = some (.slice none 0 0) := (blk_cell BK301.out 17).trans rfl; have hcz160_18 : w156.cell? ⟨gb301, 18, none⟩ = some (.string (⟨#[]⟩ : ByteArray)) := (blk_cell BK301.out 18).trans rfl; have hrw21 : rowAt w156 gb301 33 19 = true := rowAt_of (BK301.out) rfl; have hrc21 : cellsAt w156 gb301 = #[.int .i64 0, .bool false, .int .i64 0, .int .i64 0, .int .i64 0, .int .i64 0, .int .i64 0, .int .i64 0, .int .i64 0, .bool false, .bool false, .int .i64 0, .int .i64 0, .int .i64 0, .int .i64 0, .int .i64 0, .int .i64 0, .slice none 0 0, .string (⟨#[]⟩ : ByteArray)] := cellsAt_of (BK301.out); have hfz160_0 := blk_frozen BK301.out 0; have hfz160_1 := blk_frozen BK301.out 1; have hfz160_2 := blk_frozen BK301.out 2; have hfz160_3 := blk_frozen BK301.out 3; have hfz160_4 := blk_frozen BK301.out 4; have hfz160_5 := blk_frozen BK301.out 5; have hfz160_6 := blk_frozen BK301.out 6; have hfz160_7 := blk_frozen BK301.out 7; have hfz160_8 := blk_frozen BK301.out 8; have hfz160_9 := blk_frozen BK301.out 9; have hfz160_10 := blk_frozen BK301.out 10; have hfz160_11 := blk_frozen BK301.out 11; have hfz160_12 := blk_frozen BK301.out 12; have hfz160_13 := blk_frozen BK301.out 13; have hfz160_14 := blk_frozen BK301.out 14; have hfz160_15 := blk_frozen BK301.out 15; have hfz160_16 := blk_frozen BK301.out 16; have hfz160_17 := blk_frozen BK301.out 17; have hfz160_18 := blk_frozen BK301.out 18; obtain ⟨Ao161, co161, eo161⟩ := Kd.R_slice HO297.out; subst eo161; have hcz162_0 : w156.cell? ⟨gb233, 0, none⟩ = some (.int .i64 qa) := (blk_cell BK233.out 0).trans rfl; have hcz162_1 : w156.cell? ⟨gb233, 1, none⟩ = some (.bool qe) := (blk_cell BK233.out 1).trans rfl; have hcz162_2 : w156.cell? ⟨gb233, 2, none⟩ = some (.int .i64 qc) := (blk_cell BK233.out 2).trans rfl; have hcz162_3 : w156.cell? ⟨gb233, 3, none⟩ = some (.int .i64 qf) := (blk_cell BK233.out 3).trans rfl; have hcz162_4 : w156.cell? ⟨gb233, 4, none⟩ = some (.int .i64 qg) := (blk_cell BK233.out 4).trans rfl; have hcz162_5 : w156.cell? ⟨gb233, 5, none⟩ = some (.int .i64 qh) := (blk_cell BK233.out 5).trans rfl; have hcz162_6 : w156.cell? ⟨gb233, 6, none⟩ = some (.int .i64 qi) := (blk_cell BK233.out 6).trans rfl; have hcz162_7 : w156.cell? ⟨gb233, 7, none⟩ = some (.int .i64 qj) := (blk_cell BK233.out 7).trans rfl; have hcz162_8 : w156.cell? ⟨gb233, 8, none⟩ = some (.int .i64 qk) := (blk_cell BK233.out 8).trans rfl; have hcz162_9 : w156.cell? ⟨gb233, 9, none⟩ = some (.bool ql) := (blk_cell BK233.out 9).trans rfl; have hcz162_10 : w156.cell? ⟨gb233, 10, none⟩ = some (.bool qm) := (blk_cell BK233.out 10).trans rfl; have hcz162_11 : w156.cell? ⟨gb233, 11, none⟩ = some (.int .i64 qn) := (blk_cell BK233.out 11).trans rfl; have hcz162_12 : w156.cell? ⟨gb233, 12, none⟩ = some (.int .i64 qo) := (blk_cell BK233.out 12).trans rfl; have hcz162_13 : w156.cell? ⟨gb233, 13, none⟩ = some (.int .i64 qp) := (blk_cell BK233.out 13).trans rfl; have hcz162_14 : w156.cell? ⟨gb233, 14, none⟩ = some (.int .i64 qq) := (blk_cell BK233.out 14).trans rfl; have hcz162_15 : w156.cell? ⟨gb233, 15, none⟩ = some (.int .i64 qr) := (blk_cell BK233.out 15).trans rfl; have hcz162_16 : w156.cell? ⟨gb233, 16, none⟩ = some (.int .i64 qs) := (blk_cell BK233.out 16).trans rfl; have hcz162_17 : w156.cell? ⟨gb233, 17, none⟩ = some (.slice qL qd.length qM) := (blk_cell BK233.out 17).trans rfl; have hcz162_18 : w156.cell? ⟨gb233, 18, none⟩ = some (.string qb) := (blk_cell BK233.out 18).trans rfl; have hrw22 : rowAt w156 gb233 33 19 = true := rowAt_of (BK233.out) rfl; have hrc22 : cellsAt w156 gb233 = #[.int .i64 qa, .bool qe, .int .i64 qc, .int .i64 qf, .int .i64 qg, .int .i64 qh, .int .i64 qi, .int .i64 qj, .int .i64 qk, .bool ql, .bool qm, .int .i64 qn, .int .i64 qo, .int .i64 qp, .int .i64 qq, .int .i64 qr, .int .i64 qs, .slice qL qd.length qM, .string qb] := cellsAt_of (BK233.out); have hfz162_0 := blk_frozen BK233.out 0; have hfz162_1 := blk_frozen BK233.out 1; have hfz162_2 := blk_frozen BK233.out 2; have hfz162_3 := blk_frozen BK233.out 3; have hfz162_4 := blk_frozen BK233.out 4; have hfz162_5 := blk_frozen BK233.out 5; have hfz162_6 := blk_frozen BK233.out 6; have hfz162_7 := blk_frozen BK233.out 7; have hfz162_8 := blk_frozen BK233.out 8; have hfz162_9 := blk_frozen BK233.out 9; have hfz162_10 := blk_frozen BK233.out 10; have hfz162_11 := blk_frozen BK233.out 11; have hfz162_12 := blk_frozen BK233.out 12; have hfz162_13 := blk_frozen BK233.out 13; have hfz162_14 := blk_frozen BK233.out 14; have hfz162_15 := blk_frozen BK233.out 15; have hfz162_16 := blk_frozen BK233.out 16; have hfz162_17 := blk_frozen BK233.out 17; have hfz162_18 := blk_frozen BK233.out 18))
                      go_ret
                      exact ⟨by first | rfl | (simp [errW_none, errW_some] <;> rfl) | (simp [*, errW_none, errW_some] <;> rfl), by repeat (first | (with_reducible first | exact HB.out | apply below_alloc | apply pw_below_drewN | apply below_drew1 | refine below_set ?_ GE231.out | refine below_set ?_ GE232.out | refine below_set ?_ GE233.out | refine below_row ?_ GE301.out _) | exact HB.out)⟩
                     ·rw [if_neg c150] at H
                      have c150b0 : (t300 == 0) = false := beq_eq_false_iff_ne.mpr c150
                      have c150b1 : (t300 != 0) = true := bne_iff_ne.mpr c150
                      rw [HRT.out] at H
                      exact absurd (Option.some.inj H) (by decide)
                    ·rw [if_neg c149] at H
                     have c149b0 : (t299 == (t276.size : Int)) = false := beq_eq_false_iff_ne.mpr c149
                     have c149b1 : (t299 != (t276.size : Int)) = true := bne_iff_ne.mpr c149
                     rw [HRT.out] at H
                     exact absurd (Option.some.inj H) (by decide)
                 ·rw [if_neg c100] at H
                  have c100b0 : (t278 == qa) = false := beq_eq_false_iff_ne.mpr c100
                  have c100b1 : (t278 != qa) = true := bne_iff_ne.mpr c100
                  rw [HRT.out] at H
                  exact absurd (Option.some.inj H) (by decide)
                ·rw [if_neg c98] at H
                 exact absurd H (by simp)
               ·as_aux_lemma =>
                rw [if_neg c97] at H
                have c97b0 : (t277 == 0) = false := beq_eq_false_iff_ne.mpr c97
                have c97b1 : (t277 != 0) = true := bne_iff_ne.mpr c97
                obtain rfl := Option.some.inj H
                have hnb163 := NB233_231.out
                have hnc163 := NB231_233.out
                have hnb164 := NB233_232.out
                have hnc164 := NB232_233.out
                have hcz165_0 : wc.cell? ⟨gb233, 0, none⟩ = some (.int .i64 qa) := (blk_cell BK233.out 0).trans rfl
                have hcz165_1 : wc.cell? ⟨gb233, 1, none⟩ = some (.bool qe) := (blk_cell BK233.out 1).trans rfl
                have hcz165_2 : wc.cell? ⟨gb233, 2, none⟩ = some (.int .i64 qc) := (blk_cell BK233.out 2).trans rfl
                have hcz165_3 : wc.cell? ⟨gb233, 3, none⟩ = some (.int .i64 qf) := (blk_cell BK233.out 3).trans rfl
                have hcz165_4 : wc.cell? ⟨gb233, 4, none⟩ = some (.int .i64 qg) := (blk_cell BK233.out 4).trans rfl
                have hcz165_5 : wc.cell? ⟨gb233, 5, none⟩ = some (.int .i64 qh) := (blk_cell BK233.out 5).trans rfl
                have hcz165_6 : wc.cell? ⟨gb233, 6, none⟩ = some (.int .i64 qi) := (blk_cell BK233.out 6).trans rfl
                have hcz165_7 : wc.cell? ⟨gb233, 7, none⟩ = some (.int .i64 qj) := (blk_cell BK233.out 7).trans rfl
                have hcz165_8 : wc.cell? ⟨gb233, 8, none⟩ = some (.int .i64 qk) := (blk_cell BK233.out 8).trans rfl
                have hcz165_9 : wc.cell? ⟨gb233, 9, none⟩ = some (.bool ql) := (blk_cell BK233.out 9).trans rfl
                have hcz165_10 : wc.cell? ⟨gb233, 10, none⟩ = some (.bool qm) := (blk_cell BK233.out 10).trans rfl
                have hcz165_11 : wc.cell? ⟨gb233, 11, none⟩ = some (.int .i64 qn) := (blk_cell BK233.out 11).trans rfl
                have hcz165_12 : wc.cell? ⟨gb233, 12, none⟩ = some (.int .i64 qo) := (blk_cell BK233.out 12).trans rfl
                have hcz165_13 : wc.cell? ⟨gb233, 13, none⟩ = some (.int .i64 qp) := (blk_cell BK233.out 13).trans rfl
                have hcz165_14 : wc.cell? ⟨gb233, 14, none⟩ = some (.int .i64 qq) := (blk_cell BK233.out 14).trans rfl
                have hcz165_15 : wc.cell? ⟨gb233, 15, none⟩ = some (.int .i64 qr) := (blk_cell BK233.out 15).trans rfl
                have hcz165_16 : wc.cell? ⟨gb233, 16, none⟩ = some (.int .i64 qs) := (blk_cell BK233.out 16).trans rfl
                have hcz165_17 : wc.cell? ⟨gb233, 17, none⟩ = some (.slice qL qd.length qM) := (blk_cell BK233.out 17).trans rfl
                have hcz165_18 : wc.cell? ⟨gb233, 18, none⟩ = some (.string qb) := (blk_cell BK233.out 18).trans rfl
                have hrw23 : rowAt wc gb233 33 19 = true := rowAt_of (BK233.out) rfl
                have hrc23 : cellsAt wc gb233 = #[.int .i64 qa, .bool qe, .int .i64 qc, .int .i64 qf, .int .i64 qg, .int .i64 qh, .int .i64 qi, .int .i64 qj, .int .i64 qk, .bool ql, .bool qm, .int .i64 qn, .int .i64 qo, .int .i64 qp, .int .i64 qq, .int .i64 qr, .int .i64 qs, .slice qL qd.length qM, .string qb] := cellsAt_of (BK233.out)
                have hfz165_0 := blk_frozen BK233.out 0
                have hfz165_1 := blk_frozen BK233.out 1
                have hfz165_2 := blk_frozen BK233.out 2
                have hfz165_3 := blk_frozen BK233.out 3
                have hfz165_4 := blk_frozen BK233.out 4
                have hfz165_5 := blk_frozen BK233.out 5
                have hfz165_6 := blk_frozen BK233.out 6
                have hfz165_7 := blk_frozen BK233.out 7
                have hfz165_8 := blk_frozen BK233.out 8
                have hfz165_9 := blk_frozen BK233.out 9
                have hfz165_10 := blk_frozen BK233.out 10
                have hfz165_11 := blk_frozen BK233.out 11
                have hfz165_12 := blk_frozen BK233.out 12
                have hfz165_13 := blk_frozen BK233.out 13
                have hfz165_14 := blk_frozen BK233.out 14
                have hfz165_15 := blk_frozen BK233.out 15
                have hfz165_16 := blk_frozen BK233.out 16
                have hfz165_17 := blk_frozen BK233.out 17
                have hfz165_18 := blk_frozen BK233.out 18
                go_wp2_with (first | ((with_reducible refine gate_callee (f := 15) rfl ?_); refine goesL_ (some 174) rfl rfl Try.func15 (by kernel_rfl) rfl #[.agg #[.int .i64 qa, .bool qe, .int .i64 qc, .int .i64 qf, .int .i64 qg, .int .i64 qh, .int .i64 qi, .int .i64 qj, .int .i64 qk, .bool ql, .bool qm, .int .i64 qn, .int .i64 qo, .int .i64 qp, .int .i64 qq, .int .i64 qr, .int .i64 qs, .slice qL qd.length qM, .string qb]] rfl (by (try simp only [List.map_toArray, List.map_cons, List.map_nil]); first | done | rfl | (simp only [List.length_drop, List.length_take]; rfl)) ?_; (with_reducible refine (servermsg_Say.calls qa qe qc qf qg qh qi qj qk ql qm qn qo qp qq qr qs _ _ qd qb t276 t277 _ ?side1 ?side2 A96.out).mono ?_); (case side1 => repeat (first | exact (Kd.C_below HR4_17.out HB.out) | (with_reducible refine Kd.C_alloc ?_ _) | (with_reducible refine Kd.C_drewN ?_ _) | (with_reducible refine Kd.C_drew ?_))); (case side2 => exact HC4_17.out); rintro e w166 ⟨rfl, hb⟩; refine ⟨_, rfl, ?_⟩; have n0_ := Aside0.mk (blk_below (g := gb231) (o := .cells #[.int .i64 qu, .int .i64 qv, .int .i64 qw, .int .i64 qx, .bool qy, .bool qz, .int .i64 qA, .int .i64 qB, .int .i64 qC, .int .i64 qD, .int .i64 qE, .int .i64 qF, .string qt] 26 (0, 0)) (by (with_reducible repeat (first | refine blk_drewN ?_ _ | refine blk_drew ?_ | refine blk_alloc ?_ _)); exact BK231.out) hb); have n1_ := Aside0.mk (blk_below (g := gb232) (o := .cells #[.int .i64 qG, .int .i64 qH, .int .i64 qI, .int .i64 qJ, .int .i64 qK] 30 (0, 0)) (by (with_reducible repeat (first | refine blk_drewN ?_ _ | refine blk_drew ?_ | refine blk_alloc ?_ _)); exact BK232.out) hb); have n2_ := Aside0.mk (blk_below (g := gb233) (o := .cells #[.int .i64 qa, .bool qe, .int .i64 qc, .int .i64 qf, .int .i64 qg, .int .i64 qh, .int .i64 qi, .int .i64 qj, .int .i64 qk, .bool ql, .bool qm, .int .i64 qn, .int .i64 qo, .int .i64 qp, .int .i64 qq, .int .i64 qr, .int .i64 qs, .slice qL qd.length qM, .string qb] 33 (0, 0)) (by (with_reducible repeat (first | refine blk_drewN ?_ _ | refine blk_drew ?_ | refine blk_alloc ?_ _)); exact BK233.out) hb); have n3_ := Aside0.mk (below_step (by repeat (first | (with_reducible first | exact HB.out | apply below_alloc | apply pw_below_drewN | apply below_drew1 | refine below_set ?_ GE231.out | refine below_set ?_ GE232.out | refine below_set ?_ GE233.out) | exact HB.out)) hb); clear BK231; clear BK232; clear BK233; clear HB; have BK231 := n0_; have BK232 := n1_; have BK233 := n2_; have HB := n3_; clear n0_ n1_ n2_ n3_; (try clear hb); (try clear hb2); (try clear hk); (try clear hi)))
                go_ret
                exact ⟨by first | rfl | (simp [errW_none, errW_some] <;> rfl) | (simp [*, errW_none, errW_some] <;> rfl), by repeat (first | (with_reducible first | exact HB.out | apply below_alloc | apply pw_below_drewN | apply below_drew1 | refine below_set ?_ GE231.out | refine below_set ?_ GE232.out | refine below_set ?_ GE233.out) | exact HB.out)⟩
       ·rw [if_neg c46] at H
        exact absurd H (by simp)
 ·replace c8 := Bool.eq_false_iff.mpr c8
  subst c8
  have H1 : (some false) = some r := by rw [if_neg (show ¬ (false = true) by decide)] at H; exact H
  clear H
  have H := H1
  clear H1
  rw [HRT.out] at H
  exact absurd (Option.some.inj H) (by decide)

end Go.Proofs.Ytpackckoblpbfaa.X

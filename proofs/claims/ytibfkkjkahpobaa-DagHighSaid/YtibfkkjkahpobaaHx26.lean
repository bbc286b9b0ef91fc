import Derived.Test.YtibfkkjkahpobaaHx15
import Derived.Test.YtibfkkjkahpobaaHx21
import Derived.Test.YtibfkkjkahpobaaHx22
import Derived.Test.YtibfkkjkahpobaaHx24
import Derived.Test.YtibfkkjkahpobaaHx25
set_option linter.unusedVariables false
set_option linter.unusedSimpArgs false
set_option maxHeartbeats 100000000
set_option maxRecDepth 100000
namespace Go.Proofs.Ytibfkkjkahpobaa.PDag
open Go.RowKit Go.Proofs.YtibfkkjkahpobaaW.PrintWords Go.Proofs.YtibfkkjkahpobaaW.PrintLast Go.Proofs.YtibfkkjkahpobaaW.PrintMore
attribute [local go_sem] max2_int min2_int max_two min_two max_three min_three max_four min_four
mutual
def w14_DagHigh.j0 : Nat → List (S24) → List (S51) → List Int → List Int → Bool → Option (Bool)
  | 0, _, _, _, _, _ => none
  | k + 1, x3, x4, x6, x8, x62 => if x62 = true then (some false) else (if 0 ≤ (x3.length : Int) then (if ((x3.length : Int) : Int).toNat ≤ 281474976710656 then (w14_DagHigh.l0 k x3 x4 x6 x8 (List.replicate ((x3.length : Int) : Int).toNat false) 0) else (none)) else (none))
def w14_DagHigh.l0 : Nat → List (S24) → List (S51) → List Int → List Int → List Bool → Int → Option (Bool)
  | 0, _, _, _, _, _, _ => none
  | k + 1, x3, x4, x6, x8, x10, x11 => if x11 < (x4.length : Int) then (if 0 ≤ x11 then (if ((J51 x4 x11).f0) < 0 then (w14_DagHigh.j2 k x3 x4 x6 x8 x10 x11 ((J51 x4 x11).f0) ((J51 x4 x11).f1) true) else (if ((J51 x4 x11).f1) ≤ ((J51 x4 x11).f0) then (w14_DagHigh.j2 k x3 x4 x6 x8 x10 x11 ((J51 x4 x11).f0) ((J51 x4 x11).f1) true) else (if ((J51 x4 x11).f1) ≥ (x3.length : Int) then (w14_DagHigh.j2 k x3 x4 x6 x8 x10 x11 ((J51 x4 x11).f0) ((J51 x4 x11).f1) true) else ((r0_Num.f ((J51 x4 x11).f2) 4).bind fun t489 => (if t489 = true then (if 0 ≤ ((J51 x4 x11).f0) then (if ((J51 x4 x11).f0) < (x6.length : Int) then (if 0 ≤ ((J51 x4 x11).f1) then (if ((J51 x4 x11).f1) < (x6.length : Int) then (if (rd x6 ((J51 x4 x11).f0)) < (wrap64 ((rd x6 ((J51 x4 x11).f1)) + ((J51 x4 x11).f2))) then (w14_DagHigh.j2 k x3 x4 x6 x8 x10 x11 ((J51 x4 x11).f0) ((J51 x4 x11).f1) true) else (if ((J51 x4 x11).f0) < (x8.length : Int) then (if ((J51 x4 x11).f1) < (x8.length : Int) then (w14_DagHigh.j2 k x3 x4 x6 x8 x10 x11 ((J51 x4 x11).f0) ((J51 x4 x11).f1) (decide ((rd x8 ((J51 x4 x11).f0)) > (rd x8 ((J51 x4 x11).f1))))) else (none)) else (none))) else (none)) else (none)) else (none)) else (none)) else (w14_DagHigh.j2 k x3 x4 x6 x8 x10 x11 ((J51 x4 x11).f0) ((J51 x4 x11).f1) true)))))) else (none)) else (w14_DagHigh.l1 k x3 x6 x8 x10 0)
def w14_DagHigh.j2 : Nat → List (S24) → List (S51) → List Int → List Int → List Bool → Int → Int → Int → Bool → Option (Bool)
  | 0, _, _, _, _, _, _, _, _, _ => none
  | k + 1, x3, x4, x6, x8, x10, x11, x12, x13, x131 => if x131 = true then (some false) else (if 0 ≤ x12 then (if x12 < (x10.length : Int) then (if rdOf false x10 x12 = true then (w14_DagHigh.l0 k x3 x4 x6 x8 (x10.set (x12 : Int).toNat true) (wrap64 (x11 + 1))) else (if x12 < (x6.length : Int) then (if 0 ≤ x13 then (if x13 < (x6.length : Int) then (if 0 ≤ x11 then (if x11 < (x4.length : Int) then (w14_DagHigh.l0 k x3 x4 x6 x8 (x10.set (x12 : Int).toNat ((rd x6 x12) == (wrap64 ((rd x6 x13) + ((J51 x4 x11).f2))))) (wrap64 (x11 + 1))) else (none)) else (none)) else (none)) else (none)) else (none))) else (none)) else (none))
def w14_DagHigh.l1 : Nat → List (S24) → List Int → List Int → List Bool → Int → Option (Bool)
  | 0, _, _, _, _, _ => none
  | k + 1, x3, x6, x8, x10, x14 => if x14 < (x3.length : Int) then (if 0 ≤ x14 then (if x14 < (x10.length : Int) then (if rdOf false x10 x14 = true then (if x14 < (x6.length : Int) then ((r3_Latency.f k ((J24 x3 x14).f0)).bind fun t505 => (if (rd x6 x14) < t505 then (w14_DagHigh.j4 k x3 x6 x8 x10 x14 true) else ((r3_Effect.f ((J24 x3 x14).f0)).bind fun t507 => (if t507 = true then (if x14 < (x8.length : Int) then (if (rd x8 x14) > x14 then (w14_DagHigh.j4 k x3 x6 x8 x10 x14 true) else (if (rd x8 x14) < 0 then (w14_DagHigh.j4 k x3 x6 x8 x10 x14 true) else (if (rd x8 x14) > (x3.length : Int) then (w14_DagHigh.j4 k x3 x6 x8 x10 x14 true) else (if (rd x8 x14) < (x3.length : Int) then (if 0 ≤ (rd x8 x14) then ((r3_Effect.f ((J24 x3 (rd x8 x14)).f0)).bind fun t514 => (w14_DagHigh.j4 k x3 x6 x8 x10 x14 (!t514))) else (none)) else (w14_DagHigh.j4 k x3 x6 x8 x10 x14 false))))) else (none)) else (if x14 < (x8.length : Int) then (if (rd x8 x14) < 0 then (w14_DagHigh.j4 k x3 x6 x8 x10 x14 true) else (if (rd x8 x14) > (x3.length : Int) then (w14_DagHigh.j4 k x3 x6 x8 x10 x14 true) else (if (rd x8 x14) < (x3.length : Int) then (if 0 ≤ (rd x8 x14) then ((r3_Effect.f ((J24 x3 (rd x8 x14)).f0)).bind fun t520 => (w14_DagHigh.j4 k x3 x6 x8 x10 x14 (!t520))) else (none)) else (w14_DagHigh.j4 k x3 x6 x8 x10 x14 false)))) else (none)))))) else (none)) else (if x14 < (x6.length : Int) then ((r3_Latency.f k ((J24 x3 x14).f0)).bind fun t523 => (if (rd x6 x14) = t523 then ((r3_Latency.f k ((J24 x3 x14).f0)).bind fun t526 => (if (rd x6 x14) < t523 then (w14_DagHigh.j4 k x3 x6 x8 x10 x14 true) else ((r3_Effect.f ((J24 x3 x14).f0)).bind fun t528 => (if t528 = true then (if x14 < (x8.length : Int) then (if (rd x8 x14) > x14 then (w14_DagHigh.j4 k x3 x6 x8 x10 x14 true) else (if (rd x8 x14) < 0 then (w14_DagHigh.j4 k x3 x6 x8 x10 x14 true) else (if (rd x8 x14) > (x3.length : Int) then (w14_DagHigh.j4 k x3 x6 x8 x10 x14 true) else (if (rd x8 x14) < (x3.length : Int) then (if 0 ≤ (rd x8 x14) then ((r3_Effect.f ((J24 x3 (rd x8 x14)).f0)).bind fun t535 => (w14_DagHigh.j4 k x3 x6 x8 x10 x14 (!t535))) else (none)) else (w14_DagHigh.j4 k x3 x6 x8 x10 x14 false))))) else (none)) else (if x14 < (x8.length : Int) then (if (rd x8 x14) < 0 then (w14_DagHigh.j4 k x3 x6 x8 x10 x14 true) else (if (rd x8 x14) > (x3.length : Int) then (w14_DagHigh.j4 k x3 x6 x8 x10 x14 true) else (if (rd x8 x14) < (x3.length : Int) then (if 0 ≤ (rd x8 x14) then ((r3_Effect.f ((J24 x3 (rd x8 x14)).f0)).bind fun t541 => (w14_DagHigh.j4 k x3 x6 x8 x10 x14 (!t541))) else (none)) else (w14_DagHigh.j4 k x3 x6 x8 x10 x14 false)))) else (none)))))) else (w14_DagHigh.j4 k x3 x6 x8 x10 x14 true))) else (none))) else (none)) else (none)) else ((w14_wakes.f k).bind fun t501 => (some t501))
def w14_DagHigh.j4 : Nat → List (S24) → List Int → List Int → List Bool → Int → Bool → Option (Bool)
  | 0, _, _, _, _, _, _ => none
  | k + 1, x3, x6, x8, x10, x14, x245 => if x245 = true then (some false) else (w14_DagHigh.l1 k x3 x6 x8 x10 (wrap64 (x14 + 1)))
end
def w14_DagHigh.f (k : Nat) (l0_0 : List (S24)) (a0_1 : Int) (a0_2 : Int) (a0_3 : Int) (a0_4 : Int) (a0_5 : Int) (a0_6 : ByteArray) (l0_7 : List Int) : Option (Bool) := (w14_Heavy.f k l0_0 a0_1 a0_2 a0_3 a0_4 a0_5 a0_6 l0_7).bind fun t463 => (if t463 = true then (some true) else ((w14_rows.f k l0_0 a0_1 a0_2 a0_3 a0_4 a0_5 a0_6 l0_7).bind fun t464 => (if 1 < (t464.length : Int) then ((dag_Of.f k (rd_L4 t464 1)).bind fun bt468 => ((dag_Heights.f k (rd_L4 t464 1)).bind fun bt472 => ((dag_Urges.f k (rd_L4 t464 1)).bind fun bt476 => ((w14_num.f bt468.2).bind fun t480 => (if t480 = 0 then ((w14_num.f bt472.2).bind fun t481 => (if t481 = 0 then ((w14_num.f bt476.2).bind fun t482 => (if t482 = 0 then (if (bt472.1.length : Int) = ((rd_L4 t464 1).length : Int) then (w14_DagHigh.j0 k (rd_L4 t464 1) bt468.1 bt472.1 bt476.1 ((bt476.1.length : Int) != ((rd_L4 t464 1).length : Int))) else (w14_DagHigh.j0 k (rd_L4 t464 1) bt468.1 bt472.1 bt476.1 true)) else (w14_DagHigh.j0 k (rd_L4 t464 1) bt468.1 bt472.1 bt476.1 true))) else (w14_DagHigh.j0 k (rd_L4 t464 1) bt468.1 bt472.1 bt476.1 true))) else (w14_DagHigh.j0 k (rd_L4 t464 1) bt468.1 bt472.1 bt476.1 true)))))) else (none))))
def w14_DagHigh.T13 : Bool × List (List Nat × List Nat) := (true, [([], []), ([], []), ([0, 1], [0, 1]), ([2], [2]), ([3], [3]), ([], []), ([], []), ([5, 6], [5, 6]), ([7], [7]), ([8], [8]), ([4, 0, 1, 2, 3, 4], [4]), ([9, 10, 0, 1, 2, 3, 4, 5, 6, 7, 8, 9, 10], [9])])
def w14_DagHigh.B13 : List Nat := [0, 0, 3, 7, 15, 0, 0, 96, 224, 480, 31, 2047]
theorem w14_DagHigh.tab13 : rtab .any (opsOf Try.f6 13) = w14_DagHigh.T13 := by kernel_rfl
theorem w14_DagHigh.bits13 : waitsOk w14_DagHigh.T13.2 w14_DagHigh.B13 = true := by kernel_rfl
def w14_DagHigh.T14 : Bool × List (List Nat × List Nat) := (true, [([], []), ([0], [0]), ([1], [1]), ([2], [2]), ([2], [2]), ([3, 4, 2], [2, 3, 4]), ([2, 5], [2, 5]), ([6, 2], [6]), ([7], [7]), ([7], [7]), ([9, 7], [7, 9]), ([8, 10, 7], [7, 8, 10]), ([7, 11], [7, 11]), ([12, 7], [12]), ([13], [13]), ([13], [13]), ([14, 15, 13], [13, 14, 15]), ([16, 13], [13, 16]), ([17, 13], [13, 17]), ([18, 13, 13], [13, 18]), ([19, 13], [13, 19]), ([13, 20], [13, 20]), ([21, 19], [21]), ([22], [22]), ([22], [22]), ([23, 24, 22], [22, 23, 24]), ([25, 22], [22, 25]), ([22], [22]), ([22], [22]), ([27, 28, 22], [22, 27, 28]), ([29, 22], [22, 29]), ([22], [22]), ([22], [22]), ([31, 32, 22], [22, 31, 32]), ([33, 22], [22, 33]), ([34, 22], [22, 34]), ([30, 35, 22], [22, 30, 35]), ([26, 36, 22], [22, 26, 36]), ([22, 37], [22, 37]), ([38, 22], [38]), ([39], [39]), ([39], [39]), ([40, 41, 39], [39, 40, 41]), ([42, 39], [39, 42]), ([39], [39]), ([39], [39]), ([44, 45, 39], [39, 44, 45]), ([46, 39], [39, 46]), ([43, 47, 39], [39, 43, 47]), ([39, 48], [39, 48])])
def w14_DagHigh.B14 : List Nat := [0, 1, 3, 7, 7, 31, 63, 127, 255, 255, 767, 2047, 4095, 8191, 16383, 16383, 65535, 131071, 262143, 524287, 1048575, 2097151, 4194303, 8388607, 8388607, 33554431, 67108863, 8388607, 8388607, 411041791, 947912703, 8388607, 8388607, 6450839551, 15040774143, 32220643327, 68593647615, 137438953471, 274877906943, 549755813887, 1099511627775, 1099511627775, 4398046511103, 8796093022207, 1099511627775, 1099511627775, 53876069761023, 124244813938687, 281474976710655, 562949953421311]
theorem w14_DagHigh.tab14 : rtab .any (opsOf Try.f6 14) = w14_DagHigh.T14 := by kernel_rfl
theorem w14_DagHigh.bits14 : waitsOk w14_DagHigh.T14.2 w14_DagHigh.B14 = true := by kernel_rfl
def w14_DagHigh.T16 : Bool × List (List Nat × List Nat) := (true, [([], []), ([], []), ([], []), ([], []), ([2, 3], [2, 3]), ([4], [4]), ([5], [5]), ([6], [6]), ([6], [6]), ([7, 8, 6], [6, 7, 8]), ([9, 6], [6, 9]), ([6], [6]), ([6], [6]), ([11, 12, 6], [6, 11, 12]), ([13, 6], [6, 13]), ([6], [6]), ([6], [6]), ([15, 16, 6], [6, 15, 16]), ([17, 6], [6, 17]), ([18, 6], [6, 18]), ([14, 19, 6], [6, 14, 19]), ([10, 20, 6], [6, 10, 20]), ([6, 21], [6, 21]), ([0, 1, 0, 1, 2, 3, 4, 5, 6, 7, 8, 9, 10, 11, 12, 13, 14, 15, 16, 17, 18, 19, 20, 21, 22], [0, 1]), ([23, 22, 6, 0, 1, 2, 3, 4, 5, 6, 7, 8, 9, 10, 11, 12, 13, 14, 15, 16, 17, 18, 19, 20, 21, 22], [22, 23])])
def w14_DagHigh.B16 : List Nat := [0, 0, 0, 0, 12, 28, 60, 124, 124, 508, 1020, 124, 124, 6268, 14460, 124, 124, 98428, 229500, 491644, 1046652, 2097148, 4194300, 8388607, 16777215]
theorem w14_DagHigh.tab16 : rtab .any (opsOf Try.f6 16) = w14_DagHigh.T16 := by kernel_rfl
theorem w14_DagHigh.bits16 : waitsOk w14_DagHigh.T16.2 w14_DagHigh.B16 = true := by kernel_rfl
def w14_DagHigh.T20 : Bool × List (List Nat × List Nat) := (true, [([], []), ([], []), ([0, 1], [0, 1]), ([2], [2]), ([3], [3]), ([4], [4]), ([5], [5]), ([5], [5]), ([6, 7, 5], [5, 6, 7]), ([8, 5], [5, 8]), ([5], [5]), ([5], [5]), ([10, 11, 5], [5, 10, 11]), ([12, 5], [5, 12]), ([13, 5], [5, 13]), ([14, 5, 5], [5, 14]), ([9, 15, 5], [5, 9, 15]), ([5, 16], [5, 16]), ([17, 15], [17]), ([18], [18]), ([18], [18]), ([19, 20, 18], [18, 19, 20]), ([21, 18], [18, 21]), ([18], [18]), ([18], [18]), ([23, 24, 18], [18, 23, 24]), ([25, 18], [18, 25]), ([26, 18], [18, 26]), ([27, 18, 18], [18, 27]), ([22, 28, 18], [18, 22, 28]), ([18, 29], [18, 29]), ([30, 28], [30]), ([31], [31]), ([31], [31]), ([32, 33, 31], [31, 32, 33]), ([34, 31], [31, 34]), ([35, 31], [31, 35]), ([36, 31, 31], [31, 36]), ([37, 37, 31], [31, 37]), ([38], [38]), ([38], [38]), ([39, 40, 38], [38, 39, 40]), ([41, 38], [38, 41]), ([38], [38]), ([42, 43, 38], [38, 42, 43]), ([38, 44, 31], [31, 38, 44]), ([31, 45], [31, 45]), ([46, 38], [46]), ([47], [47]), ([47], [47]), ([48, 49, 47], [47, 48, 49]), ([50, 47], [47, 50]), ([51, 47], [47, 51]), ([47, 52], [47, 52]), ([53, 47], [53]), ([54], [54]), ([54], [54]), ([55, 56, 54], [54, 55, 56]), ([57, 54], [54, 57]), ([54], [54]), ([59, 54], [54, 59]), ([58, 60, 54], [54, 58, 60]), ([54, 61], [54, 61]), ([62, 54], [62]), ([63], [63]), ([63], [63]), ([64, 65, 63], [63, 64, 65]), ([66, 63], [63, 66]), ([63], [63]), ([68, 63], [63, 68]), ([67, 69, 63], [63, 67, 69]), ([70, 63, 63], [63, 70]), ([71], [71]), ([71], [71]), ([71], [71]), ([73, 74, 71], [71, 73, 74]), ([75, 71], [71, 75]), ([72, 76, 71], [71, 72, 76]), ([77, 71], [71, 77]), ([78, 71], [71, 78]), ([79, 71, 71], [71, 79]), ([80, 71], [71, 80]), ([71, 81, 63], [63, 71, 81]), ([63, 82], [63, 82])])
def w14_DagHigh.B20 : List Nat := [0, 0, 3, 7, 15, 31, 63, 63, 255, 511, 63, 63, 3135, 7231, 15423, 31807, 65535, 131071, 262143, 524287, 524287, 2097151, 4194303, 524287, 524287, 25690111, 59244543, 126353407, 260571135, 536870911, 1073741823, 2147483647, 4294967295, 4294967295, 17179869183, 34359738367, 68719476735, 137438953471, 274877906943, 549755813887, 549755813887, 2199023255551, 4398046511103, 549755813887, 17592186044415, 35184372088831, 70368744177663, 140737488355327, 281474976710655, 281474976710655, 1125899906842623, 2251799813685247, 4503599627370495, 9007199254740991, 18014398509481983, 36028797018963967, 36028797018963967, 144115188075855871, 288230376151711743, 36028797018963967, 612489549322387455, 2305843009213693951, 4611686018427387903, 9223372036854775807, 18446744073709551615, 18446744073709551615, 73786976294838206463, 147573952589676412927, 18446744073709551615, 313594649253062377471, 1180591620717411303423, 2361183241434822606847, 4722366482869645213695, 4722366482869645213695, 4722366482869645213695, 33056565380087516495871, 70835497243044678205439, 151115727451828646838271, 302231454903657293676543, 604462909807314587353087, 1208925819614629174706175, 2417851639229258349412351, 4835703278458516698824703, 9671406556917033397649407]
theorem w14_DagHigh.tab20 : rtab .any (opsOf Try.f6 20) = w14_DagHigh.T20 := by kernel_rfl
theorem w14_DagHigh.bits20 : waitsOk w14_DagHigh.T20.2 w14_DagHigh.B20 = true := by kernel_rfl
theorem high_bad0 {k : Nat} {a : List S24} {b : List S51} {c d : List Int} {r : Bool} (H : w14_DagHigh.j0 k a b c d true = some r) (hr : r = true) : False := by
 subst hr
 cases k <;> simp [w14_DagHigh.j0] at H
theorem high_bad2 {k : Nat} {a : List S24} {b : List S51} {c d : List Int} {e : List Bool} {f g i : Int} {r : Bool} (H : w14_DagHigh.j2 k a b c d e f g i true = some r) (hr : r = true) : False := by
 subst hr
 cases k <;> simp [w14_DagHigh.j2] at H
theorem high_bad4 {k : Nat} {a : List S24} {c d : List Int} {e : List Bool} {f : Int} {r : Bool} (H : w14_DagHigh.j4 k a c d e f true = some r) (hr : r = true) : False := by
 subst hr
 cases k <;> simp [w14_DagHigh.j4] at H
theorem w14_DagHigh.calls (k : Nat) (A0_0 : Option Addr) (c0_0 : Nat) (l0_0 : List (S24)) (a0_1 : Int) (a0_2 : Int) (a0_3 : Int) (a0_4 : Int) (a0_5 : Int) (a0_6 : ByteArray) (A0_7 : Option Addr) (c0_7 : Nat) (l0_7 : List Int) (r : Bool) (hr : r = true) (w : World) (hr0_0 : Kd.C k24 w A0_0 l0_0.length l0_0) (hc0_0 : l0_0.length ≤ c0_0) (hr0_7 : Kd.C (Kd.int .i64) w A0_7 l0_7.length l0_7) (hc0_7 : l0_7.length ≤ c0_7) (h : w14_DagHigh.f k l0_0 a0_1 a0_2 a0_3 a0_4 a0_5 a0_6 l0_7 = some r) :
    Calls Try.prog 6 #[.agg #[.slice A0_0 l0_0.length c0_0, .int .i64 a0_1, .int .i64 a0_2, .int .i64 a0_3, .int .i64 a0_4, .int .i64 a0_5, .string a0_6, .slice A0_7 l0_7.length c0_7]] w fun e w' => e = .returned (.bool r) ∧ Below w.heap.size w w' := by
 have hu27 := Try.underlying27
 have HR0_0 := aM_ hr0_0
 have HC0_0 := aM_ hc0_0
 clear hr0_0 hc0_0
 have HR0_7 := aM_ hr0_7
 have HC0_7 := aM_ hc0_7
 clear hr0_7 hc0_7
 have HB := aM_ (Below.refl w.heap.size w)
 have H : ((w14_Heavy.f k l0_0 a0_1 a0_2 a0_3 a0_4 a0_5 a0_6 l0_7).bind fun t463 => (if t463 = true then (some true) else ((w14_rows.f k l0_0 a0_1 a0_2 a0_3 a0_4 a0_5 a0_6 l0_7).bind fun t464 => (if 1 < (t464.length : Int) then ((dag_Of.f k (rd_L4 t464 1)).bind fun bt468 => ((dag_Heights.f k (rd_L4 t464 1)).bind fun bt472 => ((dag_Urges.f k (rd_L4 t464 1)).bind fun bt476 => ((w14_num.f bt468.2).bind fun t480 => (if t480 = 0 then ((w14_num.f bt472.2).bind fun t481 => (if t481 = 0 then ((w14_num.f bt476.2).bind fun t482 => (if t482 = 0 then (if (bt472.1.length : Int) = ((rd_L4 t464 1).length : Int) then (w14_DagHigh.j0 k (rd_L4 t464 1) bt468.1 bt472.1 bt476.1 ((bt476.1.length : Int) != ((rd_L4 t464 1).length : Int))) else (w14_DagHigh.j0 k (rd_L4 t464 1) bt468.1 bt472.1 bt476.1 true)) else (w14_DagHigh.j0 k (rd_L4 t464 1) bt468.1 bt472.1 bt476.1 true))) else (w14_DagHigh.j0 k (rd_L4 t464 1) bt468.1 bt472.1 bt476.1 true))) else (w14_DagHigh.j0 k (rd_L4 t464 1) bt468.1 bt472.1 bt476.1 true)))))) else (none))))) = some r := h
 clear h
 replace H := oB_ H
 obtain ⟨t463, A2, H⟩ := H
 by_cases c3 : t463 = true
 ·subst c3
  rw [if_pos rfl] at H
  obtain rfl := oI_ H
  go_enter Try.func6, Try.ntmps6
  go_wp2_with (first | ((with_reducible refine gate_dst (N := 1) rfl ?_); refine bX_ (N := 1) (cs := #[.slice A0_0 l0_0.length c0_0, .int .i64 a0_1, .int .i64 a0_2, .int .i64 a0_3, .int .i64 a0_4, .int .i64 a0_5, .string a0_6, .slice A0_7 l0_7.length c0_7]) (t := 27) ?_; intro gb462 hg w4 hbox hb; replace BK462 := aM_ (hbox); replace GW462 := aM_ (gE_ hg (bl_ HB)); replace GE462 := aM_ (gE_ hg (bl_ HB)); replace HB := aM_ (bT_ (bl_ HB) hb); clear hb hbox hg; obtain ⟨hcz5_0, hcz5_1, hcz5_2, hcz5_3, hcz5_4, hcz5_5, hcz5_6, hcz5_7⟩ := cl8_ BK462.out; obtain ⟨hfz5_0, hfz5_1, hfz5_2, hfz5_3, hfz5_4, hfz5_5, hfz5_6, hfz5_7⟩ := fz8_ BK462.out) | ((with_reducible refine gC_ (f := 28) rfl ?_); refine gL_ (some 16) Try.func28 #[.agg #[.slice A0_0 l0_0.length c0_0, .int .i64 a0_1, .int .i64 a0_2, .int .i64 a0_3, .int .i64 a0_4, .int .i64 a0_5, .string a0_6, .slice A0_7 l0_7.length c0_7]] rfl ?_; (with_reducible refine (w14_Heavy.calls k _ _ l0_0 a0_1 a0_2 a0_3 a0_4 a0_5 a0_6 _ _ l0_7 true _ ?side1 ?side2 ?side3 ?side4 A2.out).mono ?_); (case side1 => exact rC_ (Kd.C_below HR0_0.out HB.out)); (case side2 => exact HC0_0.out); (case side3 => exact rC_ (Kd.C_below HR0_7.out HB.out)); (case side4 => exact HC0_7.out); rintro e w6 ⟨rfl, hb⟩; refine ⟨_, rfl, ?_⟩; replace BK462 := aM_ (kB_ (rB_ BK462) hb); replace HB := aM_ (bT_ (bs_ HB GE462) hb)))
  go_ret
  exact ⟨eR_, bs_ HB GE462⟩
 replace c3 := eF_ c3
 subst c3
 rw [if_neg Bool.false_ne_true] at H
 replace H := oB_ H
 obtain ⟨t464, A7, H⟩ := H
 by_cases c8 : 1 < (t464.length : Int)
 ·rw [if_pos c8] at H
  have c8b0 := dE_ c8
  have c8b1 : decide (1 < t464.length) = true := decide_eq_true (by omega)
  clear c8
  replace H := oB_ H
  obtain ⟨⟨t468, t469⟩, A9, H⟩ := H
  replace H : ((dag_Heights.f k (rd_L4 t464 1)).bind fun bt472 => ((dag_Urges.f k (rd_L4 t464 1)).bind fun bt476 => ((w14_num.f t469).bind fun t480 => (if t480 = 0 then ((w14_num.f bt472.2).bind fun t481 => (if t481 = 0 then ((w14_num.f bt476.2).bind fun t482 => (if t482 = 0 then (if (bt472.1.length : Int) = ((rd_L4 t464 1).length : Int) then (w14_DagHigh.j0 k (rd_L4 t464 1) t468 bt472.1 bt476.1 ((bt476.1.length : Int) != ((rd_L4 t464 1).length : Int))) else (w14_DagHigh.j0 k (rd_L4 t464 1) t468 bt472.1 bt476.1 true)) else (w14_DagHigh.j0 k (rd_L4 t464 1) t468 bt472.1 bt476.1 true))) else (w14_DagHigh.j0 k (rd_L4 t464 1) t468 bt472.1 bt476.1 true))) else (w14_DagHigh.j0 k (rd_L4 t464 1) t468 bt472.1 bt476.1 true))))) = some r := H
  replace H := oB_ H
  obtain ⟨⟨t472, t473⟩, A10, H⟩ := H
  replace H : ((dag_Urges.f k (rd_L4 t464 1)).bind fun bt476 => ((w14_num.f t469).bind fun t480 => (if t480 = 0 then ((w14_num.f t473).bind fun t481 => (if t481 = 0 then ((w14_num.f bt476.2).bind fun t482 => (if t482 = 0 then (if (t472.length : Int) = ((rd_L4 t464 1).length : Int) then (w14_DagHigh.j0 k (rd_L4 t464 1) t468 t472 bt476.1 ((bt476.1.length : Int) != ((rd_L4 t464 1).length : Int))) else (w14_DagHigh.j0 k (rd_L4 t464 1) t468 t472 bt476.1 true)) else (w14_DagHigh.j0 k (rd_L4 t464 1) t468 t472 bt476.1 true))) else (w14_DagHigh.j0 k (rd_L4 t464 1) t468 t472 bt476.1 true))) else (w14_DagHigh.j0 k (rd_L4 t464 1) t468 t472 bt476.1 true)))) = some r := H
  replace H := oB_ H
  obtain ⟨⟨t476, t477⟩, A11, H⟩ := H
  replace H : ((w14_num.f t469).bind fun t480 => (if t480 = 0 then ((w14_num.f t473).bind fun t481 => (if t481 = 0 then ((w14_num.f t477).bind fun t482 => (if t482 = 0 then (if (t472.length : Int) = ((rd_L4 t464 1).length : Int) then (w14_DagHigh.j0 k (rd_L4 t464 1) t468 t472 t476 ((t476.length : Int) != ((rd_L4 t464 1).length : Int))) else (w14_DagHigh.j0 k (rd_L4 t464 1) t468 t472 t476 true)) else (w14_DagHigh.j0 k (rd_L4 t464 1) t468 t472 t476 true))) else (w14_DagHigh.j0 k (rd_L4 t464 1) t468 t472 t476 true))) else (w14_DagHigh.j0 k (rd_L4 t464 1) t468 t472 t476 true))) = some r := H
  have HC12 := aM_ H
  clear H
  go_enter Try.func6, Try.ntmps6
  go_upto_region 7 with (first | ((with_reducible refine gate_dst (N := 1) rfl ?_); refine bX_ (N := 1) (cs := #[.slice A0_0 l0_0.length c0_0, .int .i64 a0_1, .int .i64 a0_2, .int .i64 a0_3, .int .i64 a0_4, .int .i64 a0_5, .string a0_6, .slice A0_7 l0_7.length c0_7]) (t := 27) ?_; intro gb462 hg w13 hbox hb; replace BK462 := aM_ (hbox); replace GW462 := aM_ (gE_ hg (bl_ HB)); replace GE462 := aM_ (gE_ hg (bl_ HB)); replace HB := aM_ (bT_ (bl_ HB) hb); clear hb hbox hg; obtain ⟨hcz14_0, hcz14_1, hcz14_2, hcz14_3, hcz14_4, hcz14_5, hcz14_6, hcz14_7⟩ := cl8_ BK462.out; obtain ⟨hfz14_0, hfz14_1, hfz14_2, hfz14_3, hfz14_4, hfz14_5, hfz14_6, hfz14_7⟩ := fz8_ BK462.out) | ((with_reducible refine gC_ (f := 28) rfl ?_); refine gL_ (some 16) Try.func28 #[.agg #[.slice A0_0 l0_0.length c0_0, .int .i64 a0_1, .int .i64 a0_2, .int .i64 a0_3, .int .i64 a0_4, .int .i64 a0_5, .string a0_6, .slice A0_7 l0_7.length c0_7]] rfl ?_; (with_reducible refine (w14_Heavy.calls k _ _ l0_0 a0_1 a0_2 a0_3 a0_4 a0_5 a0_6 _ _ l0_7 false _ ?side1 ?side2 ?side3 ?side4 A2.out).mono ?_); (case side1 => exact rC_ (Kd.C_below HR0_0.out HB.out)); (case side2 => exact HC0_0.out); (case side3 => exact rC_ (Kd.C_below HR0_7.out HB.out)); (case side4 => exact HC0_7.out); rintro e w15 ⟨rfl, hb⟩; refine ⟨_, rfl, ?_⟩; replace BK462 := aM_ (kB_ (rB_ BK462) hb); replace HB := aM_ (bT_ (bs_ HB GE462) hb); obtain ⟨hcz16_0, hcz16_1, hcz16_2, hcz16_3, hcz16_4, hcz16_5, hcz16_6, hcz16_7⟩ := cl8_ BK462.out; obtain ⟨hfz16_0, hfz16_1, hfz16_2, hfz16_3, hfz16_4, hfz16_5, hfz16_6, hfz16_7⟩ := fz8_ BK462.out) | ((with_reducible refine gC_ (f := 29) rfl ?_); refine gL_ (some 18) Try.func29 #[.agg #[.slice A0_0 l0_0.length c0_0, .int .i64 a0_1, .int .i64 a0_2, .int .i64 a0_3, .int .i64 a0_4, .int .i64 a0_5, .string a0_6, .slice A0_7 l0_7.length c0_7]] rfl ?_; (with_reducible refine (w14_rows.calls k (fun k_ => k_ < w.heap.size) _ _ l0_0 a0_1 a0_2 a0_3 a0_4 a0_5 a0_6 _ _ l0_7 t464 _ ?side1 ?side2 ?side3 A7.out).mono ?_); (case side1 => exact Kd.V_mk HC0_0.out (Kd.F_below (Kd.C_F k24_heap HR0_0.out) (bs_ HB GE462))); (case side2 => exact rC_ (Kd.C_below HR0_7.out HB.out)); (case side3 => exact HC0_7.out); rintro e w17 ⟨v465, rfl, ho0, hb⟩; refine ⟨_, rfl, ?_⟩; replace HO466 := aM_ (Kd.N_lower (Kd.N_mono (ok' := fun k_ => k_ ≠ gb462) ho0 (fun k_ hk_ => Or.elim hk_ (fun hs_ => fun e_ => Nat.not_le.2 hs_ (by rw [e_]; exact GW462.out)) (fun hn_ => (Kd.freshB (g := gb462) (o := .cells #[.slice A0_0 l0_0.length c0_0, .int .i64 a0_1, .int .i64 a0_2, .int .i64 a0_3, .int .i64 a0_4, .int .i64 a0_5, .string a0_6, .slice A0_7 l0_7.length c0_7] 27 (0, 0)) (rB_ BK462) k_ hn_)))) (bY_ (bs_ HB GE462))); replace BK462 := aM_ (kB_ (rB_ BK462) hb); replace HB := aM_ (bT_ (bs_ HB GE462) hb); (try clear ho0); obtain ⟨Ao18, co18, eo18⟩ := Kd.N_slice HO466.out; subst eo18; have p467 : 0 ≤ (1 : Int) := (by omega); have q467 : 1 < (t464.length : Int) := oD_; obtain ⟨ad467, A467_0, c467_0, e467, hx467_0, hl467_0, hi467_0⟩ := at_L4 (Kd.N_reads' HO466.out).2.2 1 p467 q467; cases e467; obtain ⟨ce467, hce467, hMe467, hcc467⟩ := Kd.N_get HO466.out [] 1 p467 (by first | exact q467 | exact oD_ | (have e_ := (Kd.N_reads' HO466.out).1; omega)); obtain ⟨ua467_0, uc467_0, rfl, ul467_0, ge467_0⟩ := Kd.FK_slice_open hMe467; have hv467_0 := hcc467 0 _ rfl; rw [Nat.add_zero, show ((Kd.slice 24 k24)).sz = 1 from rfl, Nat.mul_one] at hv467_0; replace hv467_0 := Option.some.inj (hv467_0.symm.trans hx467_0); injection hv467_0 with hva_ hvn_ hvc_; rw [hva_] at ge467_0; rw [hvc_] at ul467_0; have HL467_0 := aM_ (show Kd.V k24 24 _ w.heap.size _ _ (rd_L4 t464 1) from Kd.V_mk ul467_0 ge467_0); clear hva_ hvn_ hvc_ ge467_0 ul467_0; clear hcc467 hce467; (try simp only [show (1 : Int).toNat = 1 from rfl, Nat.reduceMul, Nat.reduceEqDiff, Go.Addr.add, ↓reduceIte] at hx467_0); have qi467 : (1 < t464.length) = True := eq_true (by omega); (try rw [show ((1 : Int)).toNat = 1 from rfl] at hx467_0); have HR467_0 := aM_ hi467_0; have HC467_0 := aM_ hl467_0; clear hi467_0 hl467_0; replace p467 := eq_true p467; replace q467 := eq_true q467) | ((with_reducible refine gC_ (f := 19) rfl ?_); refine gL_ (some 23) Try.func19 #[.slice A467_0 (rd_L4 t464 1).length c467_0] rfl ?_; (with_reducible refine (dag_Of.calls k _ _ (rd_L4 t464 1) t468 t469 _ ?side1 ?side2 A9.out).mono ?_); (case side1 => exact rC_ (Kd.V_reads' HL467_0.out).2.2); (case side2 => exact (Kd.V_reads' HL467_0.out).2.1); rintro e w19 ⟨v470, rfl, ho0, hb⟩; refine ⟨_, rfl, ?_⟩; replace HO466 := aM_ (Kd.N_elder' (by (with_reducible repeat (first | apply Kd.N_alloc | apply Kd.N_drewN | apply Kd.N_drew)); exact HO466.out) (Kd.R_base ho0) hb); replace HL467_0 := aM_ (Kd.V_elder' (by (with_reducible repeat (first | apply Kd.V_alloc | apply Kd.V_drewN | apply Kd.V_drew)); exact HL467_0.out) (Kd.R_base ho0) hb); replace HO471 := aM_ (Kd.R_lower ho0 (bY_ (bs_ HB GE462))); replace BK462 := aM_ (kB_ (rB_ BK462) hb); replace HR467_0 := aM_ (Kd.C_below (by repeat (first | (with_reducible exact HR467_0.out) | (with_reducible refine Kd.C_alloc ?_ _) | (with_reducible refine Kd.C_drewN ?_ _) | (with_reducible refine Kd.C_drew ?_) | exact HR467_0.out)) hb); replace HB := aM_ (bT_ (bs_ HB GE462) hb); (try clear ho0)) | ((with_reducible refine gC_ (f := 20) rfl ?_); refine gL_ (some 28) Try.func20 #[.slice A467_0 (rd_L4 t464 1).length c467_0] rfl ?_; (with_reducible refine (dag_Heights.calls k _ _ (rd_L4 t464 1) t472 t473 _ ?side1 ?side2 A10.out).mono ?_); (case side1 => exact rC_ (Kd.V_reads' HL467_0.out).2.2); (case side2 => exact (Kd.V_reads' HL467_0.out).2.1); rintro e w20 ⟨v474, rfl, ho0, hb⟩; refine ⟨_, rfl, ?_⟩; replace HO466 := aM_ (Kd.N_elder' (by (with_reducible repeat (first | apply Kd.N_alloc | apply Kd.N_drewN | apply Kd.N_drew)); exact HO466.out) (Kd.R_base ho0) hb); replace HL467_0 := aM_ (Kd.V_elder' (by (with_reducible repeat (first | apply Kd.V_alloc | apply Kd.V_drewN | apply Kd.V_drew)); exact HL467_0.out) (Kd.R_base ho0) hb); replace HO471 := aM_ (Kd.R_below (rR_ HO471) hb); replace HO475 := aM_ (Kd.R_lower ho0 (bY_ (bs_ HB GE462))); replace BK462 := aM_ (kB_ (rB_ BK462) hb); replace HR467_0 := aM_ (Kd.C_below (by repeat (first | (with_reducible exact HR467_0.out) | (with_reducible refine Kd.C_alloc ?_ _) | (with_reducible refine Kd.C_drewN ?_ _) | (with_reducible refine Kd.C_drew ?_) | exact HR467_0.out)) hb); replace HB := aM_ (bT_ (bs_ HB GE462) hb); (try clear ho0)) | ((with_reducible refine gC_ (f := 31) rfl ?_); refine gL_ (some 33) Try.func31 #[.slice A467_0 (rd_L4 t464 1).length c467_0] rfl ?_; (with_reducible refine (dag_Urges.calls k _ _ (rd_L4 t464 1) t476 t477 _ ?side1 ?side2 A11.out).mono ?_); (case side1 => exact rC_ (Kd.V_reads' HL467_0.out).2.2); (case side2 => exact (Kd.V_reads' HL467_0.out).2.1); rintro e w21 ⟨v478, rfl, ho0, hb⟩; refine ⟨_, rfl, ?_⟩; replace HO466 := aM_ (Kd.N_elder' (by (with_reducible repeat (first | apply Kd.N_alloc | apply Kd.N_drewN | apply Kd.N_drew)); exact HO466.out) (Kd.R_base ho0) hb); replace HL467_0 := aM_ (Kd.V_elder' (by (with_reducible repeat (first | apply Kd.V_alloc | apply Kd.V_drewN | apply Kd.V_drew)); exact HL467_0.out) (Kd.R_base ho0) hb); replace HO471 := aM_ (Kd.R_below (rR_ HO471) hb); replace HO479 := aM_ (Kd.R_lower (Kd.R_new' ho0 (Kd.R_lt (rR_ HO475))) (bY_ (bs_ HB GE462))); replace HO475 := aM_ (Kd.R_elder' (rR_ HO475) (Kd.R_base ho0) hb); replace BK462 := aM_ (kB_ (rB_ BK462) hb); replace HR467_0 := aM_ (Kd.C_below (by repeat (first | (with_reducible exact HR467_0.out) | (with_reducible refine Kd.C_alloc ?_ _) | (with_reducible refine Kd.C_drewN ?_ _) | (with_reducible refine Kd.C_drew ?_) | exact HR467_0.out)) hb); replace HB := aM_ (bT_ (bs_ HB GE462) hb); (try clear ho0)))
  (try simp only [Act.put, List.setIfInBounds_toArray, List.set_cons_zero, List.set_cons_succ])
  go_cut [62] (fun v62 wc => ∃ (kq : Nat) (x62_11 : Bool), v62 = .bool x62_11 ∧ As_ (w14_DagHigh.j0 kq (rd_L4 t464 1) t468 t472 t476 x62_11 = some r) ∧ As_ (kq ≤ k) ∧ As_ (Kd.V k24 24 wc w.heap.size (fun k_ => some k_ ≠ (v470 : Value).ownBlock ∧ some k_ ≠ (v474 : Value).ownBlock ∧ some k_ ≠ (v478 : Value).ownBlock ∧ k_ ≠ gb462) (.slice A467_0 (rd_L4 t464 1).length c467_0) (rd_L4 t464 1)) ∧ As_ (Kd.R k51 51 wc w.heap.size (fun _ => True) v470 t468) ∧ As_ (Kd.R (Kd.int .i64) 3 wc w.heap.size (fun k_ => some k_ ≠ (v478 : Value).ownBlock) v474 t472) ∧ As_ (Kd.R (Kd.int .i64) 3 wc w.heap.size (fun k_ => some k_ ≠ (v474 : Value).ownBlock) v478 t476) ∧ As_ (wc.heap[gb462]? = some (.cells #[(.slice A0_0 l0_0.length c0_0), .int .i64 a0_1, .int .i64 a0_2, .int .i64 a0_3, .int .i64 a0_4, .int .i64 a0_5, .string a0_6, (.slice A0_7 l0_7.length c0_7)] 27 (0, 0))) ∧ As_ (Kd.C k24 wc A467_0 (rd_L4 t464 1).length (rd_L4 t464 1)) ∧ As_ (Below w.heap.size w wc))
  case first =>
   have H := HC12.out
   clear HC12
   replace H := oB_ H
   obtain ⟨t480, A22, H⟩ := H
   by_cases c23 : t480 = 0
   ·rw [if_pos c23] at H
    have c23b0 := bH_ c23
    have c23b1 := bF_ c23
    clear c23
    (first | rw [c23b0] | (simp only [i64_w, i32_w]; rw [c23b0]) | skip)
    replace H := oB_ H
    obtain ⟨t481, A24, H⟩ := H
    by_cases c25 : t481 = 0
    ·rw [if_pos c25] at H
     have c25b0 := bH_ c25
     have c25b1 := bF_ c25
     clear c25
     replace H := oB_ H
     obtain ⟨t482, A26, H⟩ := H
     by_cases c27 : t482 = 0
     ·rw [if_pos c27] at H
      have c27b0 := bH_ c27
      have c27b1 := bF_ c27
      clear c27
      by_cases c28 : (t472.length : Int) = ((rd_L4 t464 1).length : Int)
      ·rw [if_pos c28] at H
       have c28b0 := bH_ c28
       have c28b1 := bF_ c28
       have c28b2 : (t472.length == (rd_L4 t464 1).length) = true := by first | simpa using c28 | (simp at c28 ⊢; omega)
       clear c28
       replace H := aM_ H
       go_wp2_with (first | ((with_reducible refine gC_ (f := 21) rfl ?_); refine gL_ (some 37) Try.func21 #[.int .i64 t469] rfl ?_; (with_reducible refine (w14_num.calls t469 t480 _ A22.out).mono ?_); rintro e w' ⟨rfl, ⟨nd, rfl⟩⟩; refine ⟨_, rfl, ?_⟩) | (go_at_call 21; (with_reducible refine (w14_num.calls t473 t481 _ A24.out).mono ?_); rintro e w' ⟨rfl, ⟨nd, rfl⟩⟩) | (go_at_call 21; (with_reducible refine (w14_num.calls t477 t482 _ A26.out).mono ?_); rintro e w' ⟨rfl, ⟨nd, rfl⟩⟩; obtain ⟨Ao29, co29, eo29⟩ := Kd.R_slice HO475.out; subst eo29; obtain ⟨Ao30, co30, eo30⟩ := Kd.R_slice HO479.out; subst eo30))
       go_meet
       case rel => exact ⟨_, (((t476.length : Int) != ((rd_L4 t464 1).length : Int))), eQ_, H, ⟨by first | omega | exact Nat.le_refl _⟩, ⟨by (with_reducible repeat (first | apply Kd.V_alloc | apply Kd.V_drewN | apply Kd.V_drew)); exact Kd.V_mono HL467_0.out (fun _ hk => ⟨hk.1.1.2, ⟨hk.1.2, ⟨hk.2, hk.1.1.1.1⟩⟩⟩)⟩, ⟨rR_ HO471⟩, ⟨by (with_reducible repeat (first | apply Kd.R_alloc | apply Kd.R_drewN | apply Kd.R_drew)); exact Kd.R_mono HO475.out (fun _ hk => hk.2)⟩, ⟨by (with_reducible repeat (first | apply Kd.R_alloc | apply Kd.R_drewN | apply Kd.R_drew)); exact Kd.R_mono HO479.out (fun _ hk => hk.2)⟩, ⟨rB_ BK462⟩, ⟨by repeat (first | (with_reducible exact HR467_0.out) | (with_reducible refine Kd.C_alloc ?_ _) | (with_reducible refine Kd.C_drewN ?_ _) | (with_reducible refine Kd.C_drew ?_) | exact HR467_0.out)⟩, ⟨bs_ HB GE462⟩⟩
      rw [if_neg c28] at H
      have c28b0 := bE_ c28
      have c28b1 := bG_ c28
      have c28b2 : (t472.length == (rd_L4 t464 1).length) = false := by first | simpa using c28 | (simp at c28 ⊢; omega)
      first | exact (high_bad4 H hr).elim | exact (high_bad2 H hr).elim | exact (high_bad0 H hr).elim
     rw [if_neg c27] at H
     have c27b0 := bE_ c27
     have c27b1 := bG_ c27
     first | exact (high_bad4 H hr).elim | exact (high_bad2 H hr).elim | exact (high_bad0 H hr).elim
    rw [if_neg c25] at H
    have c25b0 := bE_ c25
    have c25b1 := bG_ c25
    first | exact (high_bad4 H hr).elim | exact (high_bad2 H hr).elim | exact (high_bad0 H hr).elim
   rw [if_neg c23] at H
   have c23b0 := bE_ c23
   have c23b1 := bG_ c23
   (first | rw [c23b0] | (simp only [i64_w, i32_w]; rw [c23b0]) | skip)
   first | exact (high_bad4 H hr).elim | exact (high_bad2 H hr).elim | exact (high_bad0 H hr).elim
  case rest =>
   clear HC12
   obtain ⟨kq, x62_11, rfl, HA, HJ11, HO_3, HO_4, HO_6, HO_8, BK462, HR467_0, HB⟩ := hcut
   cases kq with
   | zero => exact absurd HA.out (by simp [w14_DagHigh.j0])
   | succ kj11 =>
    have H := HA.out
    clear HA
    simp only [w14_DagHigh.j0] at H
    by_cases c32 : x62_11 = true
    ·subst c32
     rw [if_pos rfl] at H
     obtain rfl := oI_ H
     go_wp2
     go_ret
     exact ⟨eR_, bs_ HB GE462⟩
    replace c32 := eF_ c32
    subst c32
    rw [if_neg Bool.false_ne_true] at H
    by_cases c33 : 0 ≤ ((rd_L4 t464 1).length : Int)
    ·rw [if_pos c33] at H
     have c33b0 := eq_true c33
     have c33b1 := dE_ c33
     clear c33
     by_cases c34 : (((rd_L4 t464 1).length : Int) : Int).toNat ≤ 281474976710656
     ·rw [if_pos c34] at H
      have c34b0 := eq_true c34
      have c34b1 := dE_ c34
      clear c34
      obtain ⟨y483, hy483⟩ : ∃ y_ : List Bool, y_ = (List.replicate (((rd_L4 t464 1).length : Int) : Int).toNat false) := ⟨_, rfl⟩
      replace H : (w14_DagHigh.l0 kj11 (rd_L4 t464 1) t468 t472 t476 y483 0) = some r := by first | (rw [hy483]; with_reducible exact H) | (have H2_ := (Option.bind_some _ _).symm.trans H; rw [hy483]; with_reducible exact H2_) | (have H2_ := (Option.bind_some _ _).symm.trans H; with_reducible exact H2_) | with_reducible exact H | (rw [hy483]; exact H) | exact H
      have Ny483 := aM_ hy483
      clear hy483
      replace H := aM_ H
      go_wp2_with (first | ((with_reducible refine gate_dst (N := 65) rfl ?_); refine Kd.R_make Kd.bool _ 4 rfl (N := 65) rfl 49 _ _ rfl ((rd_L4 t464 1).length : Int) rfl rfl Try.underlying49 (.bool false) 1 info4 rfl (by decide) (by omega) false (ok := fun _ => True) (okp := fun _ => True) rfl (fun _ hk => hk) trivial (oD_) (Nat.le_trans (Nat.mul_le_mul_right _ (oD_ : ((rd_L4 t464 1).length : Int).toNat ≤ 281474976710656)) (by omega)) (Below.refl _ _) (Nat.le_refl _) ?_; intro v484 w35 ho36 hb hg_ hnew_; clear hg_ hnew_; (first | rw [← Ny483.out] at ho36 | (simp only [Int.reduceToNat] at ho36; rw [← Ny483.out] at ho36)); replace HO_3 := aM_ (Kd.V_elder' (by (with_reducible repeat (first | apply Kd.V_alloc | apply Kd.V_drewN | apply Kd.V_drew)); exact HO_3.out) (Kd.R_base ho36) hb); replace HO_4 := aM_ (Kd.R_below (rR_ HO_4) hb); replace HO_6 := aM_ (Kd.R_below (rR_ HO_6) hb); replace HO_8 := aM_ (Kd.R_below (rR_ HO_8) hb); replace HO485 := aM_ (Kd.R_lower ho36 (bY_ (bs_ HB GE462))); replace BK462 := aM_ (kB_ (rB_ BK462) hb); replace HR467_0 := aM_ (Kd.C_below (by repeat (first | (with_reducible exact HR467_0.out) | (with_reducible refine Kd.C_alloc ?_ _) | (with_reducible refine Kd.C_drewN ?_ _) | (with_reducible refine Kd.C_drew ?_) | exact HR467_0.out)) hb); replace HB := aM_ (bT_ (bs_ HB GE462) hb); clear hb ho36))
      go_loopg [11] kj11 (fun kq v11 w' => ∃ (x10_2 : List Bool) (x11_2 : Int), v11 = .int .i64 x11_2 ∧ As_ (w14_DagHigh.l0 kq (rd_L4 t464 1) t468 t472 t476 x10_2 x11_2 = some r) ∧ As_ (kq ≤ kj11) ∧ As_ (Kd.V k24 24 w' w.heap.size (fun k_ => some k_ ≠ (v470 : Value).ownBlock ∧ some k_ ≠ (v474 : Value).ownBlock ∧ some k_ ≠ (v478 : Value).ownBlock ∧ some k_ ≠ (v484 : Value).ownBlock ∧ k_ ≠ gb462) (.slice A467_0 (rd_L4 t464 1).length c467_0) (rd_L4 t464 1)) ∧ As_ (Kd.R k51 51 w' w.heap.size (fun _ => True) v470 t468) ∧ As_ (Kd.R (Kd.int .i64) 3 w' w.heap.size (fun k_ => some k_ ≠ (v478 : Value).ownBlock) v474 t472) ∧ As_ (Kd.R (Kd.int .i64) 3 w' w.heap.size (fun k_ => some k_ ≠ (v474 : Value).ownBlock) v478 t476) ∧ As_ (Kd.R Kd.bool 4 w' w.heap.size (fun _ => True) v484 x10_2) ∧ As_ (w'.heap[gb462]? = some (.cells #[(.slice A0_0 l0_0.length c0_0), .int .i64 a0_1, .int .i64 a0_2, .int .i64 a0_3, .int .i64 a0_4, .int .i64 a0_5, .string a0_6, (.slice A0_7 l0_7.length c0_7)] 27 (0, 0))) ∧ As_ (Below w.heap.size w w'))
      case atStart => exact ⟨(y483), (0), eQ_, H, ⟨Nat.le_refl _⟩, ⟨by (with_reducible repeat (first | apply Kd.V_alloc | apply Kd.V_drewN | apply Kd.V_drew)); exact Kd.V_mono HO_3.out (fun _ hk => ⟨hk.1.1, ⟨hk.1.2.1, ⟨hk.1.2.2.1, ⟨hk.2, hk.1.2.2.2⟩⟩⟩⟩)⟩, ⟨rR_ HO_4⟩, ⟨rR_ HO_6⟩, ⟨rR_ HO_8⟩, ⟨rR_ HO485⟩, ⟨rB_ BK462⟩, ⟨bs_ HB GE462⟩⟩
      case round =>
       clear H
       obtain ⟨x10_2, x11_2, rfl, HA, HK2, HO_3, HO_4, HO_6, HO_8, HO_10, BK462, HB⟩ := hrel
       cases gk with
       | zero => exact absurd HA.out (by simp [w14_DagHigh.l0])
       | succ k2 =>
        have H := HA.out
        clear HA
        simp only [w14_DagHigh.l0] at H
        by_cases c37 : x11_2 < (t468.length : Int)
        ·rw [if_pos c37] at H
         have c37b0 := dE_ c37
         clear c37
         by_cases c38 : 0 ≤ x11_2
         ·rw [if_pos c38] at H
          have c38b0 := dE_ c38
          clear c38
          have HC39 := aM_ H
          clear H
          obtain ⟨Ao40, co40, eo40⟩ := Kd.R_slice HO_4.out
          subst eo40
          try go_wp2
          replace HO_3 := aM_ (Kd.V_drew HO_3.out)
          replace HO_4 := aM_ (Kd.R_drew HO_4.out)
          replace HO_6 := aM_ (Kd.R_drew HO_6.out)
          replace HO_8 := aM_ (Kd.R_drew HO_8.out)
          replace HO_10 := aM_ (Kd.R_drew HO_10.out)
          replace BK462 := aM_ (kD_ BK462.out)
          replace HB := aM_ (b1_ HB.out)
          have p486 : 0 ≤ (x11_2 : Int) := oD_
          have q486 : x11_2 < (t468.length : Int) := oD_
          obtain ⟨ad486, e486, hx486_0, hx486_1, hx486_2⟩ := at_T51 (Kd.R_reads' HO_4.out).2.2 x11_2 p486 q486
          cases e486
          replace p486 := eq_true p486
          replace q486 := eq_true q486
          have p487 : 0 ≤ (x11_2 : Int) := oD_
          have q487 : x11_2 < (t468.length : Int) := oD_
          obtain ⟨ad487, e487, hx487_0, hx487_1, hx487_2⟩ := at_T51 (Kd.R_reads' HO_4.out).2.2 x11_2 p487 q487
          obtain rfl : ad486 = ad487 := (by injection e487)
          replace p487 := eq_true p487
          replace q487 := eq_true q487
          refine start_ (n := 12) (S := fun w' => w'.cell? (ad486.add ((x11_2).toNat * 3)) = some (.int .i64 ((J51 t468 x11_2).f0)) ∧ w'.cell? ⟨(ad486.add ((x11_2).toNat * 3)).block, (ad486.add ((x11_2).toNat * 3)).off + 1, none⟩ = some (.int .i64 ((J51 t468 x11_2).f1)) ∧ w'.cell? ⟨(ad486.add ((x11_2).toNat * 3)).block, (ad486.add ((x11_2).toNat * 3)).off + 2, none⟩ = some (.int .i64 ((J51 t468 x11_2).f2)) ∧ w'.cell? (ad486.add ((x11_2).toNat * 3)) = some (.int .i64 ((J51 t468 x11_2).f0)) ∧ w'.cell? ⟨(ad486.add ((x11_2).toNat * 3)).block, (ad486.add ((x11_2).toNat * 3)).off + 1, none⟩ = some (.int .i64 ((J51 t468 x11_2).f1)) ∧ w'.cell? ⟨(ad486.add ((x11_2).toNat * 3)).block, (ad486.add ((x11_2).toNat * 3)).off + 2, none⟩ = some (.int .i64 ((J51 t468 x11_2).f2))) (ds := []) #[false, false, false, false, false, false, false, false, false, false, false, false] (by kernel_rfl) rfl (by kernel_rfl) ⟨hx486_0, hx486_1, hx486_2, hx487_0, hx487_1, hx487_2⟩ (fun hHeld => ?_); refine with_tabW w14_DagHigh.tab13 w14_DagHigh.bits13 (fun HT_ HW_ => ?_)
          generalize wr.drew = w41 at HO_3 HO_4 HO_6 HO_8 HO_10 BK462 HB hx486_0 hx486_1 hx486_2 hx487_0 hx487_1 hx487_2 hHeld ⊢
          refine sq_ (k := 0) [(0, some 72, false), (1, some 73, false), (2, some 74, false), (3, some 75, false), (5, some 77, false), (6, some 78, false), (7, some 79, false), (8, some 80, false), (4, some 76, true), (10, some 12, false), (9, some 81, true), (11, some 13, false)] #[true, true, true, true, true, true, true, true, true, true, true, true] rfl (sq_of HT_.out HW_.out (by kernel_rfl)) (fun _ _ _ _ _ h => h) hHeld ?_
          repeat (first | (refine SqOn.pure (v := ?_) (a' := ?_) rfl rfl (Or.inl ⟨by kernel_rfl, ?_⟩) ?_ ?_; rotate_left 2; (focus (intro w'; go_simp; with_reducible rfl)); (focus exact pU_)) | (refine SqOn.take (v := ?_) (a' := ?_) rfl rfl (Or.inl ⟨by kernel_rfl, ?_⟩) ?_ ?_; rotate_left 2; (focus (rintro w' ⟨s0, s1, s2, s3, s4, s5⟩; go_simp; with_reducible rfl)); (focus exact pU_)))
          refine SqOn.nil ?_
          refine done_ (done_of HT_.out (by kernel_rfl)) ?_
          go_upto_region 14 with (fail)
          go_cut [131] (fun v131 wc => ∃ (kq : Nat) (x131_38 : Bool), v131 = .bool x131_38 ∧ As_ (w14_DagHigh.j2 kq (rd_L4 t464 1) t468 t472 t476 x10_2 x11_2 ((J51 t468 x11_2).f0) ((J51 t468 x11_2).f1) x131_38 = some r) ∧ As_ (kq ≤ k2) ∧ As_ (Kd.V k24 24 wc w.heap.size (fun k_ => some k_ ≠ ((.slice (some ad486) t468.length co40) : Value).ownBlock ∧ some k_ ≠ (v474 : Value).ownBlock ∧ some k_ ≠ (v478 : Value).ownBlock ∧ some k_ ≠ (v484 : Value).ownBlock ∧ k_ ≠ gb462) (.slice A467_0 (rd_L4 t464 1).length c467_0) (rd_L4 t464 1)) ∧ As_ (Kd.R k51 51 wc w.heap.size (fun _ => True) (.slice (some ad486) t468.length co40) t468) ∧ As_ (Kd.R (Kd.int .i64) 3 wc w.heap.size (fun k_ => some k_ ≠ (v478 : Value).ownBlock) v474 t472) ∧ As_ (Kd.R (Kd.int .i64) 3 wc w.heap.size (fun k_ => some k_ ≠ (v474 : Value).ownBlock) v478 t476) ∧ As_ (Kd.R Kd.bool 4 wc w.heap.size (fun _ => True) v484 x10_2) ∧ As_ (wc.heap[gb462]? = some (.cells #[(.slice A0_0 l0_0.length c0_0), .int .i64 a0_1, .int .i64 a0_2, .int .i64 a0_3, .int .i64 a0_4, .int .i64 a0_5, .string a0_6, (.slice A0_7 l0_7.length c0_7)] 27 (0, 0))) ∧ As_ (Below w.heap.size w wc))
          case first =>
           have H := HC39.out
           clear HC39
           by_cases c42 : ((J51 t468 x11_2).f0) < 0
           ·rw [if_pos c42] at H
            have c42b0 := dE_ c42
            clear c42
            (first | rw [c42b0] | (simp only [i64_w, i32_w]; rw [c42b0]) | skip)
            first | exact (high_bad4 H hr).elim | exact (high_bad2 H hr).elim | exact (high_bad0 H hr).elim
           rw [if_neg c42] at H
           have c42b0 := dF_ c42
           clear c42
           (first | rw [c42b0] | (simp only [i64_w, i32_w]; rw [c42b0]) | skip)
           by_cases c44 : ((J51 t468 x11_2).f1) ≤ ((J51 t468 x11_2).f0)
           ·rw [if_pos c44] at H
            have c44b0 := dE_ c44
            clear c44
            first | exact (high_bad4 H hr).elim | exact (high_bad2 H hr).elim | exact (high_bad0 H hr).elim
           rw [if_neg c44] at H
           have c44b0 := dF_ c44
           clear c44
           by_cases c46 : ((J51 t468 x11_2).f1) ≥ ((rd_L4 t464 1).length : Int)
           ·rw [if_pos c46] at H
            have c46b0 := dE_ c46
            clear c46
            first | exact (high_bad4 H hr).elim | exact (high_bad2 H hr).elim | exact (high_bad0 H hr).elim
           rw [if_neg c46] at H
           have c46b0 := dF_ c46
           clear c46
           replace H := oB_ H
           obtain ⟨t489, A48, H⟩ := H
           by_cases c49 : t489 = true
           ·subst c49
            rw [if_pos rfl] at H
            by_cases c50 : 0 ≤ ((J51 t468 x11_2).f0)
            ·rw [if_pos c50] at H
             have c50b0 := dE_ c50
             clear c50
             by_cases c51 : ((J51 t468 x11_2).f0) < (t472.length : Int)
             ·rw [if_pos c51] at H
              have c51b0 := dE_ c51
              clear c51
              by_cases c52 : 0 ≤ ((J51 t468 x11_2).f1)
              ·rw [if_pos c52] at H
               have c52b0 := dE_ c52
               clear c52
               by_cases c53 : ((J51 t468 x11_2).f1) < (t472.length : Int)
               ·rw [if_pos c53] at H
                have c53b0 := dE_ c53
                clear c53
                by_cases c54 : (rd t472 ((J51 t468 x11_2).f0)) < (wrap64 ((rd t472 ((J51 t468 x11_2).f1)) + ((J51 t468 x11_2).f2)))
                ·rw [if_pos c54] at H
                 have c54b0 := dE_ c54
                 clear c54
                 first | exact (high_bad4 H hr).elim | exact (high_bad2 H hr).elim | exact (high_bad0 H hr).elim
                rw [if_neg c54] at H
                have c54b0 := dF_ c54
                clear c54
                by_cases c57 : ((J51 t468 x11_2).f0) < (t476.length : Int)
                ·rw [if_pos c57] at H
                 have c57b0 := dE_ c57
                 clear c57
                 by_cases c58 : ((J51 t468 x11_2).f1) < (t476.length : Int)
                 ·refine wp_normal_only ?_
                  clear_value *
                  as_aux_lemma =>
                   rw [if_pos c58] at H
                   have c58b0 := dE_ c58
                   clear c58
                   replace H := aM_ H
                   try go_wp2
                   replace HO_3 := aM_ (Kd.V_drew HO_3.out)
                   replace HO_4 := aM_ (Kd.R_drew HO_4.out)
                   replace HO_6 := aM_ (Kd.R_drew HO_6.out)
                   replace HO_8 := aM_ (Kd.R_drew HO_8.out)
                   replace HO_10 := aM_ (Kd.R_drew HO_10.out)
                   replace BK462 := aM_ (kD_ BK462.out)
                   replace HB := aM_ (b1_ HB.out)
                   have p488 : 0 ≤ (x11_2 : Int) := oD_
                   have q488 : x11_2 < (t468.length : Int) := oD_
                   obtain ⟨ad488, e488, hx488_0, hx488_1, hx488_2⟩ := at_T51 (Kd.R_reads' HO_4.out).2.2 x11_2 p488 q488
                   obtain rfl : ad486 = ad488 := (by injection e488)
                   replace p488 := eq_true p488
                   replace q488 := eq_true q488
                   have p490 : 0 ≤ (((J51 t468 x11_2).f0) : Int) := oD_
                   have q490 : ((J51 t468 x11_2).f0) < (t472.length : Int) := oD_
                   obtain ⟨AoZ2, coZ2, eoZ2⟩ := Kd.R_slice HO_6.out
                   subst eoZ2
                   obtain ⟨ad490, e490, hx490_0⟩ := Kd.at_int (Kd.R_reads' HO_6.out).2.2 ((J51 t468 x11_2).f0) p490 q490
                   cases e490
                   replace p490 := eq_true p490
                   replace q490 := eq_true q490
                   have p491 : 0 ≤ (((J51 t468 x11_2).f1) : Int) := oD_
                   have q491 : ((J51 t468 x11_2).f1) < (t472.length : Int) := oD_
                   obtain ⟨ad491, e491, hx491_0⟩ := Kd.at_int (Kd.R_reads' HO_6.out).2.2 ((J51 t468 x11_2).f1) p491 q491
                   obtain rfl : ad490 = ad491 := (by injection e491)
                   replace p491 := eq_true p491
                   replace q491 := eq_true q491
                   have p492 : 0 ≤ (x11_2 : Int) := oD_
                   have q492 : x11_2 < (t468.length : Int) := oD_
                   obtain ⟨ad492, e492, hx492_0, hx492_1, hx492_2⟩ := at_T51 (Kd.R_reads' HO_4.out).2.2 x11_2 p492 q492
                   obtain rfl : ad486 = ad492 := (by injection e492)
                   replace p492 := eq_true p492
                   replace q492 := eq_true q492
                   have p493 : 0 ≤ (((J51 t468 x11_2).f0) : Int) := oD_
                   have q493 : ((J51 t468 x11_2).f0) < (t476.length : Int) := oD_
                   obtain ⟨AoZ50, coZ50, eoZ50⟩ := Kd.R_slice HO_8.out
                   subst eoZ50
                   obtain ⟨ad493, e493, hx493_0⟩ := Kd.at_int (Kd.R_reads' HO_8.out).2.2 ((J51 t468 x11_2).f0) p493 q493
                   cases e493
                   replace p493 := eq_true p493
                   replace q493 := eq_true q493
                   have p494 : 0 ≤ (((J51 t468 x11_2).f1) : Int) := oD_
                   have q494 : ((J51 t468 x11_2).f1) < (t476.length : Int) := oD_
                   obtain ⟨ad494, e494, hx494_0⟩ := Kd.at_int (Kd.R_reads' HO_8.out).2.2 ((J51 t468 x11_2).f1) p494 q494
                   obtain rfl : ad493 = ad494 := (by injection e494)
                   replace p494 := eq_true p494
                   replace q494 := eq_true q494
                   refine start_ (n := 50) (S := fun w' => w'.cell? (ad486.add ((x11_2).toNat * 3)) = some (.int .i64 ((J51 t468 x11_2).f0)) ∧ w'.cell? ⟨(ad486.add ((x11_2).toNat * 3)).block, (ad486.add ((x11_2).toNat * 3)).off + 1, none⟩ = some (.int .i64 ((J51 t468 x11_2).f1)) ∧ w'.cell? ⟨(ad486.add ((x11_2).toNat * 3)).block, (ad486.add ((x11_2).toNat * 3)).off + 2, none⟩ = some (.int .i64 ((J51 t468 x11_2).f2)) ∧ w'.cell? (ad490.add (((J51 t468 x11_2).f0)).toNat) = some (.int .i64 (rd t472 ((J51 t468 x11_2).f0))) ∧ w'.cell? (ad490.add (((J51 t468 x11_2).f1)).toNat) = some (.int .i64 (rd t472 ((J51 t468 x11_2).f1))) ∧ w'.cell? (ad486.add ((x11_2).toNat * 3)) = some (.int .i64 ((J51 t468 x11_2).f0)) ∧ w'.cell? ⟨(ad486.add ((x11_2).toNat * 3)).block, (ad486.add ((x11_2).toNat * 3)).off + 1, none⟩ = some (.int .i64 ((J51 t468 x11_2).f1)) ∧ w'.cell? ⟨(ad486.add ((x11_2).toNat * 3)).block, (ad486.add ((x11_2).toNat * 3)).off + 2, none⟩ = some (.int .i64 ((J51 t468 x11_2).f2)) ∧ w'.cell? (ad493.add (((J51 t468 x11_2).f0)).toNat) = some (.int .i64 (rd t476 ((J51 t468 x11_2).f0))) ∧ w'.cell? (ad493.add (((J51 t468 x11_2).f1)).toNat) = some (.int .i64 (rd t476 ((J51 t468 x11_2).f1)))) (ds := []) (bm 50 0) (by kernel_rfl) rfl (by kernel_rfl) ⟨hx488_0, hx488_1, hx488_2, hx490_0, hx491_0, hx492_0, hx492_1, hx492_2, hx493_0, hx494_0⟩ (fun hHeld => ?_); refine with_tabW w14_DagHigh.tab14 w14_DagHigh.bits14 (fun HT_ HW_ => ?_)
                   generalize w41.drew = w59 at HO_3 HO_4 HO_6 HO_8 HO_10 BK462 HB hx488_0 hx488_1 hx488_2 hx490_0 hx491_0 hx492_0 hx492_1 hx492_2 hx493_0 hx494_0 hHeld ⊢
                   refine sq_ (k := 31) [(0, some 82, false), (1, some 83, false), (2, some 84, false), (3, some 85, false), (4, some 86, false), (5, some 87, false), (6, some 88, false), (7, some 89, false), (8, some 90, false), (9, some 91, false), (10, some 92, false), (11, some 93, false), (12, some 94, false), (13, some 95, false), (14, some 96, false), (15, some 97, false), (16, some 98, false), (17, some 99, false), (18, some 100, true)] (bm 50 524287) rfl (sq_of HT_.out HW_.out (by kernel_rfl)) (fun _ _ _ _ _ h => h) hHeld ?_
                   repeat (first | (refine SqOn.pure (v := ?_) (a' := ?_) rfl rfl (Or.inl ⟨by kernel_rfl, ?_⟩) ?_ ?_; rotate_left 2; (focus (intro w'; go_simp; with_reducible rfl)); (focus exact pU_)) | (refine SqOn.take (v := ?_) (a' := ?_) rfl rfl (Or.inl ⟨by kernel_rfl, ?_⟩) ?_ ?_; rotate_left 2; (focus (rintro w' ⟨s0, s1, s2, s3, s4, s5, s6, s7, s8, s9⟩; go_simp; with_reducible rfl)); (focus exact pU_)))
                   refine SqOn.nil ?_
                   refine one_ (i := 19) (N := some 101) (bm 50 1048575) rfl rfl (one_of HT_.out (by kernel_rfl)) (by decide) (fun K hK => ?_)
                   refine gO_ Try.func35 #[.int .i64 ((J51 t468 x11_2).f2), .int .i64 4] rfl ?_
                   with_reducible refine (r0_Num.calls ((J51 t468 x11_2).f2) 4 true _ A48.out).mono ?_
                   rintro e w' ⟨rfl, ⟨nd, rfl⟩⟩
                   refine ⟨_, rfl, ?_⟩
                   obtain ⟨Ao60, co60, eo60⟩ := Kd.R_slice HO_6.out
                   (first | subst eo60 | (injection eo60 with f1_ f2_ f3_; have f4_ := f1_.symm; have f5_ := f3_.symm; clear f1_ f2_ f3_; subst f4_; subst f5_))
                   obtain ⟨Ao61, co61, eo61⟩ := Kd.R_slice HO_8.out
                   (first | subst eo61 | (injection eo61 with f1_ f2_ f3_; have f4_ := f1_.symm; have f5_ := f3_.symm; clear f1_ f2_ f3_; subst f4_; subst f5_))
                   refine hK.out _ _ ⟨hHeld.1, hHeld.2.1, hHeld.2.2.1, hHeld.2.2.2.1, hHeld.2.2.2.2.1, hHeld.2.2.2.2.2.1, hHeld.2.2.2.2.2.2.1, hHeld.2.2.2.2.2.2.2.1, hHeld.2.2.2.2.2.2.2.2.1, hHeld.2.2.2.2.2.2.2.2.2⟩ (fun hHeld => ?_)
                   clear hK K
                   refine norm_ (a' := ?_) ?_ ?_
                   rotate_left
                   ·show Act.put _ (some 101) _ = _
                    simp only [Act.put, List.setIfInBounds_toArray, List.set_cons_zero, List.set_cons_succ, i64_w, i32_w]
                    rfl
                   refine sq_ (k := 0) [(20, some 102, false), (21, some 103, false), (22, some 104, false), (23, some 105, false), (24, some 106, false), (25, some 107, false), (27, some 109, false), (28, some 110, false), (29, some 111, false), (31, some 113, false), (32, some 114, false), (33, some 115, false), (34, some 116, false), (26, some 108, true), (30, some 112, true), (35, some 117, true), (36, some 118, false), (37, some 119, false), (38, some 120, false), (39, some 121, false), (40, some 122, false), (41, some 123, false), (42, some 124, false), (44, some 126, false), (45, some 127, false), (46, some 128, false), (43, some 125, true), (47, some 129, true), (48, some 130, false), (49, some 131, false)] (bm 50 1125899906842623) rfl (sq_of HT_.out HW_.out (by kernel_rfl)) (fun _ _ _ _ _ h => h) hHeld ?_
                   repeat (first | (refine SqOn.pure (v := ?_) (a' := ?_) rfl rfl (Or.inl ⟨by kernel_rfl, ?_⟩) ?_ ?_; rotate_left 2; (focus (intro w'; go_simp; with_reducible rfl)); (focus exact pU_)) | (refine SqOn.take (v := ?_) (a' := ?_) rfl rfl (Or.inl ⟨by kernel_rfl, ?_⟩) ?_ ?_; rotate_left 2; (focus (rintro w' ⟨s0, s1, s2, s3, s4, s5, s6, s7, s8, s9⟩; go_simp; with_reducible rfl)); (focus exact pU_)))
                   refine SqOn.nil ?_
                   refine done_ (done_of HT_.out (by kernel_rfl)) ?_
                   simp only [OnlyNormal]
                   try go_wp2
                   go_meet
                   case rel => exact ⟨_, (decide ((rd t476 ((J51 t468 x11_2).f0)) > (rd t476 ((J51 t468 x11_2).f1)))), eQ_, H, ⟨by have := HJ11.out; have := HK2.out; first | omega | exact Nat.le_refl _⟩, ⟨by (with_reducible repeat (first | apply Kd.V_alloc | apply Kd.V_drewN | apply Kd.V_drew)); exact HO_3.out⟩, ⟨rR_ HO_4⟩, ⟨rR_ HO_6⟩, ⟨rR_ HO_8⟩, ⟨rR_ HO_10⟩, ⟨rB_ BK462⟩, ⟨bs_ HB GE462⟩⟩
                 rw [if_neg c58] at H
                 exact absurd H (by simp)
                rw [if_neg c57] at H
                exact absurd H (by simp)
               rw [if_neg c53] at H
               exact absurd H (by simp)
              rw [if_neg c52] at H
              exact absurd H (by simp)
             rw [if_neg c51] at H
             exact absurd H (by simp)
            rw [if_neg c50] at H
            exact absurd H (by simp)
           replace c49 := eF_ c49
           subst c49
           rw [if_neg Bool.false_ne_true] at H
           first | exact (high_bad4 H hr).elim | exact (high_bad2 H hr).elim | exact (high_bad0 H hr).elim
          case rest =>
           clear HC39
           obtain ⟨kq, x131_38, rfl, HA, HJ38, HO_3, HO_4, HO_6, HO_8, HO_10, BK462, HB⟩ := hcut
           cases kq with
           | zero => exact absurd HA.out (by simp [w14_DagHigh.j2])
           | succ kj38 =>
            have H := HA.out
            clear HA
            simp only [w14_DagHigh.j2] at H
            by_cases c63 : x131_38 = true
            ·subst c63
             rw [if_pos rfl] at H
             obtain rfl := oI_ H
             go_wp2
             go_ret
             exact ⟨eR_, bs_ HB GE462⟩
            replace c63 := eF_ c63
            subst c63
            rw [if_neg Bool.false_ne_true] at H
            by_cases c64 : 0 ≤ ((J51 t468 x11_2).f0)
            ·rw [if_pos c64] at H
             have c64b0 := dE_ c64
             clear c64
             by_cases c65 : ((J51 t468 x11_2).f0) < (x10_2.length : Int)
             ·rw [if_pos c65] at H
              have c65b0 := dE_ c65
              clear c65
              obtain ⟨bq66, hbq66⟩ : ∃ b_ : Bool, b_ = (rdOf false x10_2 ((J51 t468 x11_2).f0)) := ⟨_, rfl⟩
              replace H : (if bq66 = true then (w14_DagHigh.l0 kj38 (rd_L4 t464 1) t468 t472 t476 (x10_2.set (((J51 t468 x11_2).f0) : Int).toNat true) (wrap64 (x11_2 + 1))) else (if ((J51 t468 x11_2).f0) < (t472.length : Int) then (if 0 ≤ ((J51 t468 x11_2).f1) then (if ((J51 t468 x11_2).f1) < (t472.length : Int) then (if 0 ≤ x11_2 then (if x11_2 < (t468.length : Int) then (w14_DagHigh.l0 kj38 (rd_L4 t464 1) t468 t472 t476 (x10_2.set (((J51 t468 x11_2).f0) : Int).toNat ((rd t472 ((J51 t468 x11_2).f0)) == (wrap64 ((rd t472 ((J51 t468 x11_2).f1)) + ((J51 t468 x11_2).f2))))) (wrap64 (x11_2 + 1))) else (none)) else (none)) else (none)) else (none)) else (none))) = some r := by rw [← hbq66] at H; exact H
              have Nbq66 := aM_ hbq66
              clear hbq66
              by_cases c67 : bq66 = true
              ·subst c67
               rw [if_pos rfl] at H
               obtain ⟨y496, hy496⟩ : ∃ y_ : List Bool, y_ = (x10_2.set (((J51 t468 x11_2).f0) : Int).toNat true) := ⟨_, rfl⟩
               replace H : (w14_DagHigh.l0 kj38 (rd_L4 t464 1) t468 t472 t476 y496 (wrap64 (x11_2 + 1))) = some r := by first | (rw [hy496]; with_reducible exact H) | (have H2_ := (Option.bind_some _ _).symm.trans H; rw [hy496]; with_reducible exact H2_) | (have H2_ := (Option.bind_some _ _).symm.trans H; with_reducible exact H2_) | with_reducible exact H | (rw [hy496]; exact H) | exact H
               have Ny496 := aM_ hy496
               clear hy496
               replace H := aM_ H
               try go_wp2
               replace HO_3 := aM_ (Kd.V_drew HO_3.out)
               replace HO_4 := aM_ (Kd.R_drew HO_4.out)
               replace HO_6 := aM_ (Kd.R_drew HO_6.out)
               replace HO_8 := aM_ (Kd.R_drew HO_8.out)
               replace HO_10 := aM_ (Kd.R_drew HO_10.out)
               replace BK462 := aM_ (kD_ BK462.out)
               replace HB := aM_ (b1_ HB.out)
               obtain ⟨Ao70, co70, eo70⟩ := Kd.R_slice HO_10.out
               (first | subst eo70 | (injection eo70 with f1_ f2_ f3_; have f4_ := f1_.symm; have f5_ := f3_.symm; clear f1_ f2_ f3_; subst f4_; subst f5_))
               have p495 : 0 ≤ (((J51 t468 x11_2).f0) : Int) := oD_
               have q495 : ((J51 t468 x11_2).f0) < (x10_2.length : Int) := oD_
               obtain ⟨ad495, e495, hx495_0⟩ := Kd.at_bool (Kd.R_reads' HO_10.out).2.2 ((J51 t468 x11_2).f0) p495 q495
               (try rw [← Nbq66.out] at hx495_0)
               cases e495
               replace p495 := eq_true p495
               replace q495 := eq_true q495
               have p68 : 0 ≤ (((J51 t468 x11_2).f0) : Int) := oD_
               have q68 : (((J51 t468 x11_2).f0) : Int) < ((x10_2.length : Int) : Int) := oD_
               obtain ⟨go68, co68, eo68, gb68, gl68, cl68, HG68⟩ := Kd.R_form HO_10.out (by omega)
               (first | cases eo68 | (injection eo68 with ea_ en_ ec_; (first | subst ea_ | (injection ea_ with ea_; subst ea_)); subst ec_; clear en_))
               have GB68 := aM_ gb68
               have GG68 := aM_ HG68
               clear gb68 gl68 HG68
               (first | simp only [add_plain] at hx495_0 | skip)
               obtain ⟨hx68_0, hf68_0⟩ := Kd.R_celln false HO_10.out (((J51 t468 x11_2).f0) : Int) p68 q68
               replace p68 := eq_true p68
               replace q68 := eq_true q68
               have HP71 := Kd.R_putn HO_10.out (((J51 t468 x11_2).f0) : Int) true
               rw [← Ny496.out] at HP71
               have HQ71 := aM_ HP71
               clear HP71
               refine start_ (n := 25) (S := fun w' => w'.cell? ⟨go68, ((J51 t468 x11_2).f0).toNat, none⟩ = some (.bool true)) (ds := [24]) (bm 25 0) (by kernel_rfl) rfl (by kernel_rfl) (hx495_0) (fun hHeld => ?_); refine with_tabW w14_DagHigh.tab16 w14_DagHigh.bits16 (fun HT_ HW_ => ?_)
               generalize wc.drew = w69 at HO_3 HO_4 HO_6 HO_8 HO_10 BK462 HB GG68 HQ71 hf68_0 hx495_0 hx68_0 hHeld ⊢
               refine sq_ (k := 18) [(0, some 132, false), (1, some 133, false), (2, some 134, false), (3, some 135, false), (4, some 136, false), (5, some 137, true), (6, some 138, false)] (bm 25 127) rfl (sq_of HT_.out HW_.out (by kernel_rfl)) (fun _ _ _ _ _ h => h) hHeld ?_
               repeat (first | (refine SqOn.pure (v := ?_) (a' := ?_) rfl rfl (Or.inl ⟨by kernel_rfl, ?_⟩) ?_ ?_; rotate_left 2; (focus (intro w'; go_simp; with_reducible rfl)); (focus exact pU_)) | (refine SqOn.take (v := ?_) (a' := ?_) rfl rfl (Or.inl ⟨by kernel_rfl, ?_⟩) ?_ ?_; rotate_left 2; (focus (intro w' s0; go_simp; with_reducible rfl)); (focus exact pU_)))
               refine SqOn.nil ?_
               refine sq_ (k := 3) [(7, some 139, false), (8, some 140, false), (9, some 141, false), (10, some 142, false), (11, some 143, false), (12, some 144, false), (13, some 145, false), (14, some 146, false), (15, some 147, false), (16, some 148, false), (17, some 149, false), (18, some 150, false), (19, some 151, false), (20, some 152, false), (21, some 153, false)] (bm 25 4194303) rfl (sq_of HT_.out HW_.out (by kernel_rfl)) (fun _ _ _ _ _ h => h) hHeld ?_
               repeat (refine SqOn.pure (v := undef) (a' := ?_) rfl rfl (Or.inr ⟨by kernel_rfl, rfl⟩) ?_ ?_; rotate_left; (focus (first | (simp only [Act.put, List.setIfInBounds_toArray, List.set_cons_zero, List.set_cons_succ]; rfl) | rfl)))
               refine SqOn.nil ?_
               refine sq_ (k := 1) [(22, some 154, false), (23, some 155, false)] (bm 25 16777215) rfl (sq_of HT_.out HW_.out (by kernel_rfl)) (fun _ _ _ _ _ h => h) hHeld ?_
               repeat (first | (refine SqOn.pure (v := ?_) (a' := ?_) rfl rfl (Or.inl ⟨by kernel_rfl, ?_⟩) ?_ ?_; rotate_left 2; (focus (intro w'; go_simp; with_reducible rfl)); (focus exact pU_)))
               refine SqOn.nil ?_
               refine last_ (i := 24) (N := none) (bm 25 33554431) rfl rfl (one_of HT_.out (by kernel_rfl)) (by decide) (fun K hK => ?_)
               refine skip_ (w1 := ?_) (by rfl) rfl ?_ ?_
               rotate_left
               ·go_simp
                rfl
               refine hK.out _ _ ?_
               clear hK K
               refine done_ (done_of HT_.out (by kernel_rfl)) ?_
               try go_wp2
               go_roundg kj38
               case measure => have := HJ11.out; have := HK2.out; have := HJ38.out; omega
               case rel => exact ⟨(y496), (wrap64 (x11_2 + 1)), eQ_, H, ⟨by have := HJ11.out; have := HK2.out; have := HJ38.out; omega⟩, ⟨by (with_reducible repeat (first | apply Kd.V_alloc | apply Kd.V_drewN | apply Kd.V_drew)); exact Kd.V_mono (Kd.V_far (p := ⟨go68, (((J51 t468 x11_2).f0) : Int).toNat, none⟩) (Kd.V_mono HO_3.out (fun k_ hk => (⟨hk, fun e_ => hk.2.2.2.1 (by rw [e_]; rfl)⟩ : _ ∧ k_ ≠ go68))) (fun _ hk => hk.2) (.bool true)) (fun _ hk => ⟨hk.1.1, ⟨hk.1.2.1, ⟨hk.1.2.2.1, ⟨hk.1.2.2.2.1, hk.1.2.2.2.2⟩⟩⟩⟩)⟩, ⟨by (with_reducible repeat (first | apply Kd.R_alloc | apply Kd.R_drewN | apply Kd.R_drew)); exact Kd.R_mono (Kd.R_far (p := ⟨go68, (((J51 t468 x11_2).f0) : Int).toNat, none⟩) (Kd.R_types HO_4.out GG68.out (by decide)) (fun _ hk => hk.2) (.bool true)) (fun _ hk => trivial)⟩, ⟨by (with_reducible repeat (first | apply Kd.R_alloc | apply Kd.R_drewN | apply Kd.R_drew)); exact Kd.R_mono (Kd.R_far (p := ⟨go68, (((J51 t468 x11_2).f0) : Int).toNat, none⟩) (Kd.R_types HO_6.out GG68.out (by decide)) (fun _ hk => hk.2) (.bool true)) (fun _ hk => hk.1)⟩, ⟨by (with_reducible repeat (first | apply Kd.R_alloc | apply Kd.R_drewN | apply Kd.R_drew)); exact Kd.R_mono (Kd.R_far (p := ⟨go68, (((J51 t468 x11_2).f0) : Int).toNat, none⟩) (Kd.R_types HO_8.out GG68.out (by decide)) (fun _ hk => hk.2) (.bool true)) (fun _ hk => hk.1)⟩, ⟨rR_ HQ71⟩, ⟨by (with_reducible repeat (first | refine kN_ ?_ _ | refine kD_ ?_ | refine kA_ ?_ _)); refine blk_far ?_ (by have h_ := Kd.R_ne HO_10.out BK462.out (by decide); intro e_; exact h_ (by rw [e_]; rfl)) _; (with_reducible repeat (first | refine kN_ ?_ _ | refine kD_ ?_ | refine kA_ ?_ _)); exact BK462.out⟩, ⟨bt_ HB GB68 GE462⟩⟩
              replace c67 := eF_ c67
              subst c67
              rw [if_neg Bool.false_ne_true] at H
              by_cases c72 : ((J51 t468 x11_2).f0) < (t472.length : Int)
              ·rw [if_pos c72] at H
               have c72b0 := dE_ c72
               clear c72
               by_cases c73 : 0 ≤ ((J51 t468 x11_2).f1)
               ·rw [if_pos c73] at H
                have c73b0 := dE_ c73
                clear c73
                by_cases c74 : ((J51 t468 x11_2).f1) < (t472.length : Int)
                ·rw [if_pos c74] at H
                 have c74b0 := dE_ c74
                 clear c74
                 by_cases c75 : 0 ≤ x11_2
                 ·rw [if_pos c75] at H
                  have c75b0 := dE_ c75
                  clear c75
                  by_cases c76 : x11_2 < (t468.length : Int)
                  ·rw [if_pos c76] at H
                   have c76b0 := dE_ c76
                   clear c76
                   obtain ⟨y500, hy500⟩ : ∃ y_ : List Bool, y_ = (x10_2.set (((J51 t468 x11_2).f0) : Int).toNat ((rd t472 ((J51 t468 x11_2).f0)) == (wrap64 ((rd t472 ((J51 t468 x11_2).f1)) + ((J51 t468 x11_2).f2))))) := ⟨_, rfl⟩
                   replace H : (w14_DagHigh.l0 kj38 (rd_L4 t464 1) t468 t472 t476 y500 (wrap64 (x11_2 + 1))) = some r := by first | (rw [hy500]; with_reducible exact H) | (have H2_ := (Option.bind_some _ _).symm.trans H; rw [hy500]; with_reducible exact H2_) | (have H2_ := (Option.bind_some _ _).symm.trans H; with_reducible exact H2_) | with_reducible exact H | (rw [hy500]; exact H) | exact H
                   have Ny500 := aM_ hy500
                   clear hy500
                   replace H := aM_ H
                   try go_wp2
                   replace HO_3 := aM_ (Kd.V_drew HO_3.out)
                   replace HO_4 := aM_ (Kd.R_drew HO_4.out)
                   replace HO_6 := aM_ (Kd.R_drew HO_6.out)
                   replace HO_8 := aM_ (Kd.R_drew HO_8.out)
                   replace HO_10 := aM_ (Kd.R_drew HO_10.out)
                   replace BK462 := aM_ (kD_ BK462.out)
                   replace HB := aM_ (b1_ HB.out)
                   obtain ⟨Ao79, co79, eo79⟩ := Kd.R_slice HO_10.out
                   (first | subst eo79 | (injection eo79 with f1_ f2_ f3_; have f4_ := f1_.symm; have f5_ := f3_.symm; clear f1_ f2_ f3_; subst f4_; subst f5_))
                   have p495 : 0 ≤ (((J51 t468 x11_2).f0) : Int) := oD_
                   have q495 : ((J51 t468 x11_2).f0) < (x10_2.length : Int) := oD_
                   obtain ⟨ad495, e495, hx495_0⟩ := Kd.at_bool (Kd.R_reads' HO_10.out).2.2 ((J51 t468 x11_2).f0) p495 q495
                   (try rw [← Nbq66.out] at hx495_0)
                   cases e495
                   replace p495 := eq_true p495
                   replace q495 := eq_true q495
                   obtain ⟨Ao80, co80, eo80⟩ := Kd.R_slice HO_6.out
                   (first | subst eo80 | (injection eo80 with f1_ f2_ f3_; have f4_ := f1_.symm; have f5_ := f3_.symm; clear f1_ f2_ f3_; subst f4_; subst f5_))
                   have p497 : 0 ≤ (((J51 t468 x11_2).f0) : Int) := oD_
                   have q497 : ((J51 t468 x11_2).f0) < (t472.length : Int) := oD_
                   obtain ⟨ad497, e497, hx497_0⟩ := Kd.at_int (Kd.R_reads' HO_6.out).2.2 ((J51 t468 x11_2).f0) p497 q497
                   cases e497
                   replace p497 := eq_true p497
                   replace q497 := eq_true q497
                   have p498 : 0 ≤ (((J51 t468 x11_2).f1) : Int) := oD_
                   have q498 : ((J51 t468 x11_2).f1) < (t472.length : Int) := oD_
                   obtain ⟨ad498, e498, hx498_0⟩ := Kd.at_int (Kd.R_reads' HO_6.out).2.2 ((J51 t468 x11_2).f1) p498 q498
                   obtain rfl : ad497 = ad498 := (by injection e498)
                   replace p498 := eq_true p498
                   replace q498 := eq_true q498
                   have p499 : 0 ≤ (x11_2 : Int) := oD_
                   have q499 : x11_2 < (t468.length : Int) := oD_
                   obtain ⟨ad499, e499, hx499_0, hx499_1, hx499_2⟩ := at_T51 (Kd.R_reads' HO_4.out).2.2 x11_2 p499 q499
                   obtain rfl : ad486 = ad499 := (by injection e499)
                   replace p499 := eq_true p499
                   replace q499 := eq_true q499
                   have p77 : 0 ≤ (((J51 t468 x11_2).f0) : Int) := oD_
                   have q77 : (((J51 t468 x11_2).f0) : Int) < ((x10_2.length : Int) : Int) := oD_
                   obtain ⟨go77, co77, eo77, gb77, gl77, cl77, HG77⟩ := Kd.R_form HO_10.out (by omega)
                   (first | cases eo77 | (injection eo77 with ea_ en_ ec_; (first | subst ea_ | (injection ea_ with ea_; subst ea_)); subst ec_; clear en_))
                   have GB77 := aM_ gb77
                   have GG77 := aM_ HG77
                   clear gb77 gl77 HG77
                   (first | simp only [add_plain] at hx495_0 | skip)
                   obtain ⟨hx77_0, hf77_0⟩ := Kd.R_celln false HO_10.out (((J51 t468 x11_2).f0) : Int) p77 q77
                   replace p77 := eq_true p77
                   replace q77 := eq_true q77
                   have HP81 := Kd.R_putn HO_10.out (((J51 t468 x11_2).f0) : Int) ((rd t472 ((J51 t468 x11_2).f0)) == (wrap64 ((rd t472 ((J51 t468 x11_2).f1)) + ((J51 t468 x11_2).f2))))
                   rw [← Ny500.out] at HP81
                   have HQ81 := aM_ HP81
                   clear HP81
                   refine start_ (n := 25) (S := fun w' => w'.cell? ⟨go77, ((J51 t468 x11_2).f0).toNat, none⟩ = some (.bool false) ∧ w'.cell? (ad497.add (((J51 t468 x11_2).f0)).toNat) = some (.int .i64 (rd t472 ((J51 t468 x11_2).f0))) ∧ w'.cell? (ad497.add (((J51 t468 x11_2).f1)).toNat) = some (.int .i64 (rd t472 ((J51 t468 x11_2).f1))) ∧ w'.cell? (ad486.add ((x11_2).toNat * 3)) = some (.int .i64 ((J51 t468 x11_2).f0)) ∧ w'.cell? ⟨(ad486.add ((x11_2).toNat * 3)).block, (ad486.add ((x11_2).toNat * 3)).off + 1, none⟩ = some (.int .i64 ((J51 t468 x11_2).f1)) ∧ w'.cell? ⟨(ad486.add ((x11_2).toNat * 3)).block, (ad486.add ((x11_2).toNat * 3)).off + 2, none⟩ = some (.int .i64 ((J51 t468 x11_2).f2))) (ds := [24]) (bm 25 0) (by kernel_rfl) rfl (by kernel_rfl) ⟨hx495_0, hx497_0, hx498_0, hx499_0, hx499_1, hx499_2⟩ (fun hHeld => ?_); refine with_tabW w14_DagHigh.tab16 w14_DagHigh.bits16 (fun HT_ HW_ => ?_)
                   generalize wc.drew = w78 at HO_3 HO_4 HO_6 HO_8 HO_10 BK462 HB GG77 HQ81 hf77_0 hx495_0 hx497_0 hx498_0 hx499_0 hx499_1 hx499_2 hx77_0 hHeld ⊢
                   refine sq_ (k := 1) [(0, some 132, false), (1, some 133, false), (2, some 134, false), (3, some 135, false), (4, some 136, false), (5, some 137, true), (6, some 138, false), (7, some 139, false), (8, some 140, false), (9, some 141, false), (11, some 143, false), (12, some 144, false), (13, some 145, false), (15, some 147, false), (16, some 148, false), (17, some 149, false), (18, some 150, false), (10, some 142, true), (14, some 146, true), (19, some 151, true), (20, some 152, false), (21, some 153, false), (22, some 154, false), (23, some 155, false)] (bm 25 16777215) rfl (sq_of HT_.out HW_.out (by kernel_rfl)) (fun _ _ _ _ _ h => h) hHeld ?_
                   repeat (first | (refine SqOn.pure (v := ?_) (a' := ?_) rfl rfl (Or.inl ⟨by kernel_rfl, ?_⟩) ?_ ?_; rotate_left 2; (focus (intro w'; go_simp; with_reducible rfl)); (focus exact pU_)) | (refine SqOn.take (v := ?_) (a' := ?_) rfl rfl (Or.inl ⟨by kernel_rfl, ?_⟩) ?_ ?_; rotate_left 2; (focus (rintro w' ⟨s0, s1, s2, s3, s4, s5⟩; go_simp; with_reducible rfl)); (focus exact pU_)))
                   refine SqOn.nil ?_
                   refine last_ (i := 24) (N := none) (bm 25 33554431) rfl rfl (one_of HT_.out (by kernel_rfl)) (by decide) (fun K hK => ?_)
                   refine skip_ (w1 := ?_) (by rfl) rfl ?_ ?_
                   rotate_left
                   ·go_simp
                    rfl
                   refine hK.out _ _ ?_
                   clear hK K
                   refine done_ (done_of HT_.out (by kernel_rfl)) ?_
                   try go_wp2
                   go_roundg kj38
                   case measure => have := HJ11.out; have := HK2.out; have := HJ38.out; omega
                   case rel => exact ⟨(y500), (wrap64 (x11_2 + 1)), eQ_, H, ⟨by have := HJ11.out; have := HK2.out; have := HJ38.out; omega⟩, ⟨by (with_reducible repeat (first | apply Kd.V_alloc | apply Kd.V_drewN | apply Kd.V_drew)); exact Kd.V_mono (Kd.V_far (p := ⟨go77, (((J51 t468 x11_2).f0) : Int).toNat, none⟩) (Kd.V_mono HO_3.out (fun k_ hk => (⟨hk, fun e_ => hk.2.2.2.1 (by rw [e_]; rfl)⟩ : _ ∧ k_ ≠ go77))) (fun _ hk => hk.2) (.bool ((rd t472 ((J51 t468 x11_2).f0)) == (wrap64 ((rd t472 ((J51 t468 x11_2).f1)) + ((J51 t468 x11_2).f2)))))) (fun _ hk => ⟨hk.1.1, ⟨hk.1.2.1, ⟨hk.1.2.2.1, ⟨hk.1.2.2.2.1, hk.1.2.2.2.2⟩⟩⟩⟩)⟩, ⟨by (with_reducible repeat (first | apply Kd.R_alloc | apply Kd.R_drewN | apply Kd.R_drew)); exact Kd.R_mono (Kd.R_far (p := ⟨go77, (((J51 t468 x11_2).f0) : Int).toNat, none⟩) (Kd.R_types HO_4.out GG77.out (by decide)) (fun _ hk => hk.2) (.bool ((rd t472 ((J51 t468 x11_2).f0)) == (wrap64 ((rd t472 ((J51 t468 x11_2).f1)) + ((J51 t468 x11_2).f2)))))) (fun _ hk => trivial)⟩, ⟨by (with_reducible repeat (first | apply Kd.R_alloc | apply Kd.R_drewN | apply Kd.R_drew)); exact Kd.R_mono (Kd.R_far (p := ⟨go77, (((J51 t468 x11_2).f0) : Int).toNat, none⟩) (Kd.R_types HO_6.out GG77.out (by decide)) (fun _ hk => hk.2) (.bool ((rd t472 ((J51 t468 x11_2).f0)) == (wrap64 ((rd t472 ((J51 t468 x11_2).f1)) + ((J51 t468 x11_2).f2)))))) (fun _ hk => hk.1)⟩, ⟨by (with_reducible repeat (first | apply Kd.R_alloc | apply Kd.R_drewN | apply Kd.R_drew)); exact Kd.R_mono (Kd.R_far (p := ⟨go77, (((J51 t468 x11_2).f0) : Int).toNat, none⟩) (Kd.R_types HO_8.out GG77.out (by decide)) (fun _ hk => hk.2) (.bool ((rd t472 ((J51 t468 x11_2).f0)) == (wrap64 ((rd t472 ((J51 t468 x11_2).f1)) + ((J51 t468 x11_2).f2)))))) (fun _ hk => hk.1)⟩, ⟨rR_ HQ81⟩, ⟨by (with_reducible repeat (first | refine kN_ ?_ _ | refine kD_ ?_ | refine kA_ ?_ _)); refine blk_far ?_ (by have h_ := Kd.R_ne HO_10.out BK462.out (by decide); intro e_; exact h_ (by rw [e_]; rfl)) _; (with_reducible repeat (first | refine kN_ ?_ _ | refine kD_ ?_ | refine kA_ ?_ _)); exact BK462.out⟩, ⟨bt_ HB GB77 GE462⟩⟩
                  rw [if_neg c76] at H
                  exact absurd H (by simp)
                 rw [if_neg c75] at H
                 exact absurd H (by simp)
                rw [if_neg c74] at H
                exact absurd H (by simp)
               rw [if_neg c73] at H
               exact absurd H (by simp)
              rw [if_neg c72] at H
              exact absurd H (by simp)
             rw [if_neg c65] at H
             exact absurd H (by simp)
            rw [if_neg c64] at H
            exact absurd H (by simp)
         rw [if_neg c38] at H
         exact absurd H (by simp)
        rw [if_neg c37] at H
        have c37b0 := dF_ c37
        clear c37
        replace H := aM_ H
        obtain ⟨Ao82, co82, eo82⟩ := Kd.R_slice HO_4.out
        subst eo82
        go_wp2
        go_loopg [14] k2 (fun kq v14 w' => ∃ (x14_3 : Int), v14 = .int .i64 x14_3 ∧ As_ (w14_DagHigh.l1 kq (rd_L4 t464 1) t472 t476 x10_2 x14_3 = some r) ∧ As_ (kq ≤ k2) ∧ As_ (Kd.V k24 24 w' w.heap.size (fun k_ => some k_ ≠ (v474 : Value).ownBlock ∧ some k_ ≠ (v478 : Value).ownBlock ∧ some k_ ≠ (v484 : Value).ownBlock ∧ k_ ≠ gb462) (.slice A467_0 (rd_L4 t464 1).length c467_0) (rd_L4 t464 1)) ∧ As_ (Kd.R (Kd.int .i64) 3 w' w.heap.size (fun k_ => some k_ ≠ (v478 : Value).ownBlock) v474 t472) ∧ As_ (Kd.R (Kd.int .i64) 3 w' w.heap.size (fun k_ => some k_ ≠ (v474 : Value).ownBlock) v478 t476) ∧ As_ (Kd.R Kd.bool 4 w' w.heap.size (fun _ => True) v484 x10_2) ∧ As_ (w'.heap[gb462]? = some (.cells #[(.slice A0_0 l0_0.length c0_0), .int .i64 a0_1, .int .i64 a0_2, .int .i64 a0_3, .int .i64 a0_4, .int .i64 a0_5, .string a0_6, (.slice A0_7 l0_7.length c0_7)] 27 (0, 0))) ∧ As_ (Below w.heap.size w w'))
        case atStart => exact ⟨(0), eQ_, H, ⟨Nat.le_refl _⟩, ⟨by (with_reducible repeat (first | apply Kd.V_alloc | apply Kd.V_drewN | apply Kd.V_drew)); exact Kd.V_mono HO_3.out (fun _ hk => ⟨hk.2.1, ⟨hk.2.2.1, ⟨hk.2.2.2.1, hk.2.2.2.2⟩⟩⟩)⟩, ⟨rR_ HO_6⟩, ⟨rR_ HO_8⟩, ⟨rR_ HO_10⟩, ⟨rB_ BK462⟩, ⟨bs_ HB GE462⟩⟩
        case round =>
         clear H
         obtain ⟨x14_3, rfl, HA, HK3, HO_3, HO_6, HO_8, HO_10, BK462, HB⟩ := hrel
         cases gk with
         | zero => exact absurd HA.out (by simp [w14_DagHigh.l1])
         | succ k3 =>
          have H := HA.out
          clear HA
          simp only [w14_DagHigh.l1] at H
          by_cases c83 : x14_3 < ((rd_L4 t464 1).length : Int)
          ·rw [if_pos c83] at H
           have c83b0 := dE_ c83
           clear c83
           have HC84 := aM_ H
           clear H
           go_upto_region 20 with (fail)
           go_cut [245] (fun v245 wc => ∃ (kq : Nat) (x245_83 : Bool), v245 = .bool x245_83 ∧ As_ (w14_DagHigh.j4 kq (rd_L4 t464 1) t472 t476 x10_2 x14_3 x245_83 = some r) ∧ As_ (kq ≤ k3) ∧ As_ (Kd.V k24 24 wc w.heap.size (fun k_ => some k_ ≠ (v474 : Value).ownBlock ∧ some k_ ≠ (v478 : Value).ownBlock ∧ some k_ ≠ (v484 : Value).ownBlock ∧ k_ ≠ gb462) (.slice A467_0 (rd_L4 t464 1).length c467_0) (rd_L4 t464 1)) ∧ As_ (Kd.R (Kd.int .i64) 3 wc w.heap.size (fun k_ => some k_ ≠ (v478 : Value).ownBlock) v474 t472) ∧ As_ (Kd.R (Kd.int .i64) 3 wc w.heap.size (fun k_ => some k_ ≠ (v474 : Value).ownBlock) v478 t476) ∧ As_ (Kd.R Kd.bool 4 wc w.heap.size (fun _ => True) v484 x10_2) ∧ As_ (wc.heap[gb462]? = some (.cells #[(.slice A0_0 l0_0.length c0_0), .int .i64 a0_1, .int .i64 a0_2, .int .i64 a0_3, .int .i64 a0_4, .int .i64 a0_5, .string a0_6, (.slice A0_7 l0_7.length c0_7)] 27 (0, 0))) ∧ As_ (Below w.heap.size w wc))
           case first =>
            have H := HC84.out
            clear HC84
            by_cases c85 : 0 ≤ x14_3
            ·rw [if_pos c85] at H
             have c85b0 := dE_ c85
             clear c85
             (first | rw [c85b0] | (simp only [i64_w, i32_w]; rw [c85b0]) | skip)
             by_cases c86 : x14_3 < (x10_2.length : Int)
             ·rw [if_pos c86] at H
              have c86b0 := dE_ c86
              clear c86
              obtain ⟨bq87, hbq87⟩ : ∃ b_ : Bool, b_ = (rdOf false x10_2 x14_3) := ⟨_, rfl⟩
              replace H : (if bq87 = true then (if x14_3 < (t472.length : Int) then ((r3_Latency.f k3 ((J24 (rd_L4 t464 1) x14_3).f0)).bind fun t505 => (if (rd t472 x14_3) < t505 then (w14_DagHigh.j4 k3 (rd_L4 t464 1) t472 t476 x10_2 x14_3 true) else ((r3_Effect.f ((J24 (rd_L4 t464 1) x14_3).f0)).bind fun t507 => (if t507 = true then (if x14_3 < (t476.length : Int) then (if (rd t476 x14_3) > x14_3 then (w14_DagHigh.j4 k3 (rd_L4 t464 1) t472 t476 x10_2 x14_3 true) else (if (rd t476 x14_3) < 0 then (w14_DagHigh.j4 k3 (rd_L4 t464 1) t472 t476 x10_2 x14_3 true) else (if (rd t476 x14_3) > ((rd_L4 t464 1).length : Int) then (w14_DagHigh.j4 k3 (rd_L4 t464 1) t472 t476 x10_2 x14_3 true) else (if (rd t476 x14_3) < ((rd_L4 t464 1).length : Int) then (if 0 ≤ (rd t476 x14_3) then ((r3_Effect.f ((J24 (rd_L4 t464 1) (rd t476 x14_3)).f0)).bind fun t514 => (w14_DagHigh.j4 k3 (rd_L4 t464 1) t472 t476 x10_2 x14_3 (!t514))) else (none)) else (w14_DagHigh.j4 k3 (rd_L4 t464 1) t472 t476 x10_2 x14_3 false))))) else (none)) else (if x14_3 < (t476.length : Int) then (if (rd t476 x14_3) < 0 then (w14_DagHigh.j4 k3 (rd_L4 t464 1) t472 t476 x10_2 x14_3 true) else (if (rd t476 x14_3) > ((rd_L4 t464 1).length : Int) then (w14_DagHigh.j4 k3 (rd_L4 t464 1) t472 t476 x10_2 x14_3 true) else (if (rd t476 x14_3) < ((rd_L4 t464 1).length : Int) then (if 0 ≤ (rd t476 x14_3) then ((r3_Effect.f ((J24 (rd_L4 t464 1) (rd t476 x14_3)).f0)).bind fun t520 => (w14_DagHigh.j4 k3 (rd_L4 t464 1) t472 t476 x10_2 x14_3 (!t520))) else (none)) else (w14_DagHigh.j4 k3 (rd_L4 t464 1) t472 t476 x10_2 x14_3 false)))) else (none)))))) else (none)) else (if x14_3 < (t472.length : Int) then ((r3_Latency.f k3 ((J24 (rd_L4 t464 1) x14_3).f0)).bind fun t523 => (if (rd t472 x14_3) = t523 then ((r3_Latency.f k3 ((J24 (rd_L4 t464 1) x14_3).f0)).bind fun t526 => (if (rd t472 x14_3) < t523 then (w14_DagHigh.j4 k3 (rd_L4 t464 1) t472 t476 x10_2 x14_3 true) else ((r3_Effect.f ((J24 (rd_L4 t464 1) x14_3).f0)).bind fun t528 => (if t528 = true then (if x14_3 < (t476.length : Int) then (if (rd t476 x14_3) > x14_3 then (w14_DagHigh.j4 k3 (rd_L4 t464 1) t472 t476 x10_2 x14_3 true) else (if (rd t476 x14_3) < 0 then (w14_DagHigh.j4 k3 (rd_L4 t464 1) t472 t476 x10_2 x14_3 true) else (if (rd t476 x14_3) > ((rd_L4 t464 1).length : Int) then (w14_DagHigh.j4 k3 (rd_L4 t464 1) t472 t476 x10_2 x14_3 true) else (if (rd t476 x14_3) < ((rd_L4 t464 1).length : Int) then (if 0 ≤ (rd t476 x14_3) then ((r3_Effect.f ((J24 (rd_L4 t464 1) (rd t476 x14_3)).f0)).bind fun t535 => (w14_DagHigh.j4 k3 (rd_L4 t464 1) t472 t476 x10_2 x14_3 (!t535))) else (none)) else (w14_DagHigh.j4 k3 (rd_L4 t464 1) t472 t476 x10_2 x14_3 false))))) else (none)) else (if x14_3 < (t476.length : Int) then (if (rd t476 x14_3) < 0 then (w14_DagHigh.j4 k3 (rd_L4 t464 1) t472 t476 x10_2 x14_3 true) else (if (rd t476 x14_3) > ((rd_L4 t464 1).length : Int) then (w14_DagHigh.j4 k3 (rd_L4 t464 1) t472 t476 x10_2 x14_3 true) else (if (rd t476 x14_3) < ((rd_L4 t464 1).length : Int) then (if 0 ≤ (rd t476 x14_3) then ((r3_Effect.f ((J24 (rd_L4 t464 1) (rd t476 x14_3)).f0)).bind fun t541 => (w14_DagHigh.j4 k3 (rd_L4 t464 1) t472 t476 x10_2 x14_3 (!t541))) else (none)) else (w14_DagHigh.j4 k3 (rd_L4 t464 1) t472 t476 x10_2 x14_3 false)))) else (none)))))) else (w14_DagHigh.j4 k3 (rd_L4 t464 1) t472 t476 x10_2 x14_3 true))) else (none))) = some r := by rw [← hbq87] at H; exact H
              have Nbq87 := aM_ hbq87
              clear hbq87
              by_cases c88 : bq87 = true
              ·subst c88
               rw [if_pos rfl] at H
               by_cases c89 : x14_3 < (t472.length : Int)
               ·rw [if_pos c89] at H
                have c89b0 := dE_ c89
                clear c89
                replace H := oB_ H
                obtain ⟨t505, A90, H⟩ := H
                by_cases c91 : (rd t472 x14_3) < t505
                ·rw [if_pos c91] at H
                 have c91b0 := dE_ c91
                 clear c91
                 first | exact (high_bad4 H hr).elim | exact (high_bad2 H hr).elim | exact (high_bad0 H hr).elim
                rw [if_neg c91] at H
                have c91b0 := dF_ c91
                clear c91
                replace H := oB_ H
                obtain ⟨t507, A95, H⟩ := H
                by_cases c96 : t507 = true
                ·subst c96
                 rw [if_pos rfl] at H
                 by_cases c97 : x14_3 < (t476.length : Int)
                 ·rw [if_pos c97] at H
                  have c97b0 := dE_ c97
                  clear c97
                  by_cases c98 : (rd t476 x14_3) > x14_3
                  ·rw [if_pos c98] at H
                   have c98b0 := dE_ c98
                   clear c98
                   first | exact (high_bad4 H hr).elim | exact (high_bad2 H hr).elim | exact (high_bad0 H hr).elim
                  rw [if_neg c98] at H
                  have c98b0 := dF_ c98
                  clear c98
                  by_cases c103 : (rd t476 x14_3) < 0
                  ·rw [if_pos c103] at H
                   have c103b0 := dE_ c103
                   clear c103
                   first | exact (high_bad4 H hr).elim | exact (high_bad2 H hr).elim | exact (high_bad0 H hr).elim
                  rw [if_neg c103] at H
                  have c103b0 := dF_ c103
                  clear c103
                  by_cases c108 : (rd t476 x14_3) > ((rd_L4 t464 1).length : Int)
                  ·rw [if_pos c108] at H
                   have c108b0 := dE_ c108
                   clear c108
                   first | exact (high_bad4 H hr).elim | exact (high_bad2 H hr).elim | exact (high_bad0 H hr).elim
                  rw [if_neg c108] at H
                  have c108b0 := dF_ c108
                  clear c108
                  by_cases c113 : (rd t476 x14_3) < ((rd_L4 t464 1).length : Int)
                  ·rw [if_pos c113] at H
                   have c113b0 := dE_ c113
                   clear c113
                   by_cases c114 : 0 ≤ (rd t476 x14_3)
                   ·refine wp_normal_only ?_
                    clear_value *
                    as_aux_lemma =>
                     rw [if_pos c114] at H
                     have c114b0 := dE_ c114
                     clear c114
                     replace H := oB_ H
                     obtain ⟨t514, A115, H⟩ := H
                     replace H := aM_ H
                     try go_wp2
                     replace HO_3 := aM_ (Kd.V_drew HO_3.out)
                     replace HO_6 := aM_ (Kd.R_drew HO_6.out)
                     replace HO_8 := aM_ (Kd.R_drew HO_8.out)
                     replace HO_10 := aM_ (Kd.R_drew HO_10.out)
                     replace BK462 := aM_ (kD_ BK462.out)
                     replace HB := aM_ (b1_ HB.out)
                     obtain ⟨Ao117, co117, eo117⟩ := Kd.R_slice HO_10.out
                     (first | subst eo117 | (injection eo117 with f1_ f2_ f3_; have f4_ := f1_.symm; have f5_ := f3_.symm; clear f1_ f2_ f3_; subst f4_; subst f5_))
                     have p502 : 0 ≤ (x14_3 : Int) := oD_
                     have q502 : x14_3 < (x10_2.length : Int) := oD_
                     obtain ⟨ad502, e502, hx502_0⟩ := Kd.at_bool (Kd.R_reads' HO_10.out).2.2 x14_3 p502 q502
                     (try rw [← Nbq87.out] at hx502_0)
                     cases e502
                     replace p502 := eq_true p502
                     replace q502 := eq_true q502
                     obtain ⟨Ao118, co118, eo118⟩ := Kd.R_slice HO_6.out
                     (first | subst eo118 | (injection eo118 with f1_ f2_ f3_; have f4_ := f1_.symm; have f5_ := f3_.symm; clear f1_ f2_ f3_; subst f4_; subst f5_))
                     have p503 : 0 ≤ (x14_3 : Int) := oD_
                     have q503 : x14_3 < (t472.length : Int) := oD_
                     obtain ⟨ad503, e503, hx503_0⟩ := Kd.at_int (Kd.R_reads' HO_6.out).2.2 x14_3 p503 q503
                     cases e503
                     replace p503 := eq_true p503
                     replace q503 := eq_true q503
                     have p504 : 0 ≤ (x14_3 : Int) := oD_
                     have q504 : x14_3 < ((rd_L4 t464 1).length : Int) := oD_
                     obtain ⟨ad504, e504, hx504_0, hx504_1, hx504_2, hx504_3, hx504_4, hx504_5⟩ := at_T24 (Kd.V_reads' HO_3.out).2.2 x14_3 p504 q504
                     cases e504
                     replace p504 := eq_true p504
                     replace q504 := eq_true q504
                     have p506 : 0 ≤ (x14_3 : Int) := oD_
                     have q506 : x14_3 < ((rd_L4 t464 1).length : Int) := oD_
                     obtain ⟨ad506, e506, hx506_0, hx506_1, hx506_2, hx506_3, hx506_4, hx506_5⟩ := at_T24 (Kd.V_reads' HO_3.out).2.2 x14_3 p506 q506
                     obtain rfl : ad504 = ad506 := (by injection e506)
                     replace p506 := eq_true p506
                     replace q506 := eq_true q506
                     have p508 : 0 ≤ (x14_3 : Int) := oD_
                     have q508 : x14_3 < (t476.length : Int) := oD_
                     obtain ⟨AoZ6, coZ6, eoZ6⟩ := Kd.R_slice HO_8.out
                     subst eoZ6
                     obtain ⟨ad508, e508, hx508_0⟩ := Kd.at_int (Kd.R_reads' HO_8.out).2.2 x14_3 p508 q508
                     cases e508
                     replace p508 := eq_true p508
                     replace q508 := eq_true q508
                     have p509 : 0 ≤ (x14_3 : Int) := oD_
                     have q509 : x14_3 < (t476.length : Int) := oD_
                     obtain ⟨ad509, e509, hx509_0⟩ := Kd.at_int (Kd.R_reads' HO_8.out).2.2 x14_3 p509 q509
                     obtain rfl : ad508 = ad509 := (by injection e509)
                     replace p509 := eq_true p509
                     replace q509 := eq_true q509
                     have p510 : 0 ≤ (x14_3 : Int) := oD_
                     have q510 : x14_3 < (t476.length : Int) := oD_
                     obtain ⟨ad510, e510, hx510_0⟩ := Kd.at_int (Kd.R_reads' HO_8.out).2.2 x14_3 p510 q510
                     obtain rfl : ad508 = ad510 := (by injection e510)
                     replace p510 := eq_true p510
                     replace q510 := eq_true q510
                     have p511 : 0 ≤ (x14_3 : Int) := oD_
                     have q511 : x14_3 < (t476.length : Int) := oD_
                     obtain ⟨ad511, e511, hx511_0⟩ := Kd.at_int (Kd.R_reads' HO_8.out).2.2 x14_3 p511 q511
                     obtain rfl : ad508 = ad511 := (by injection e511)
                     replace p511 := eq_true p511
                     replace q511 := eq_true q511
                     have p512 : 0 ≤ (x14_3 : Int) := oD_
                     have q512 : x14_3 < (t476.length : Int) := oD_
                     obtain ⟨ad512, e512, hx512_0⟩ := Kd.at_int (Kd.R_reads' HO_8.out).2.2 x14_3 p512 q512
                     obtain rfl : ad508 = ad512 := (by injection e512)
                     replace p512 := eq_true p512
                     replace q512 := eq_true q512
                     have p513 : 0 ≤ ((rd t476 x14_3) : Int) := oD_
                     have q513 : (rd t476 x14_3) < ((rd_L4 t464 1).length : Int) := oD_
                     obtain ⟨ad513, e513, hx513_0, hx513_1, hx513_2, hx513_3, hx513_4, hx513_5⟩ := at_T24 (Kd.V_reads' HO_3.out).2.2 (rd t476 x14_3) p513 q513
                     obtain rfl : ad504 = ad513 := (by injection e513)
                     replace p513 := eq_true p513
                     replace q513 := eq_true q513
                     refine start_ (n := 84) (S := fun w' => w'.cell? (ad502.add (x14_3).toNat) = some (.bool true) ∧ w'.cell? (ad503.add (x14_3).toNat) = some (.int .i64 (rd t472 x14_3)) ∧ w'.cell? (ad504.add ((x14_3).toNat * 6)) = some (.int .i64 ((J24 (rd_L4 t464 1) x14_3).f0)) ∧ w'.cell? ⟨(ad504.add ((x14_3).toNat * 6)).block, (ad504.add ((x14_3).toNat * 6)).off + 1, none⟩ = some (.int .i64 ((J24 (rd_L4 t464 1) x14_3).f1)) ∧ w'.cell? ⟨(ad504.add ((x14_3).toNat * 6)).block, (ad504.add ((x14_3).toNat * 6)).off + 2, none⟩ = some (.int .i64 ((J24 (rd_L4 t464 1) x14_3).f2)) ∧ w'.cell? ⟨(ad504.add ((x14_3).toNat * 6)).block, (ad504.add ((x14_3).toNat * 6)).off + 3, none⟩ = some (.int .i64 ((J24 (rd_L4 t464 1) x14_3).f3)) ∧ w'.cell? ⟨(ad504.add ((x14_3).toNat * 6)).block, (ad504.add ((x14_3).toNat * 6)).off + 4, none⟩ = some (.int .i64 ((J24 (rd_L4 t464 1) x14_3).f4)) ∧ w'.cell? ⟨(ad504.add ((x14_3).toNat * 6)).block, (ad504.add ((x14_3).toNat * 6)).off + 5, none⟩ = some (.string ((J24 (rd_L4 t464 1) x14_3).f5)) ∧ w'.cell? (ad504.add ((x14_3).toNat * 6)) = some (.int .i64 ((J24 (rd_L4 t464 1) x14_3).f0)) ∧ w'.cell? ⟨(ad504.add ((x14_3).toNat * 6)).block, (ad504.add ((x14_3).toNat * 6)).off + 1, none⟩ = some (.int .i64 ((J24 (rd_L4 t464 1) x14_3).f1)) ∧ w'.cell? ⟨(ad504.add ((x14_3).toNat * 6)).block, (ad504.add ((x14_3).toNat * 6)).off + 2, none⟩ = some (.int .i64 ((J24 (rd_L4 t464 1) x14_3).f2)) ∧ w'.cell? ⟨(ad504.add ((x14_3).toNat * 6)).block, (ad504.add ((x14_3).toNat * 6)).off + 3, none⟩ = some (.int .i64 ((J24 (rd_L4 t464 1) x14_3).f3)) ∧ w'.cell? ⟨(ad504.add ((x14_3).toNat * 6)).block, (ad504.add ((x14_3).toNat * 6)).off + 4, none⟩ = some (.int .i64 ((J24 (rd_L4 t464 1) x14_3).f4)) ∧ w'.cell? ⟨(ad504.add ((x14_3).toNat * 6)).block, (ad504.add ((x14_3).toNat * 6)).off + 5, none⟩ = some (.string ((J24 (rd_L4 t464 1) x14_3).f5)) ∧ w'.cell? (ad508.add (x14_3).toNat) = some (.int .i64 (rd t476 x14_3)) ∧ w'.cell? (ad508.add (x14_3).toNat) = some (.int .i64 (rd t476 x14_3)) ∧ w'.cell? (ad508.add (x14_3).toNat) = some (.int .i64 (rd t476 x14_3)) ∧ w'.cell? (ad508.add (x14_3).toNat) = some (.int .i64 (rd t476 x14_3)) ∧ w'.cell? (ad508.add (x14_3).toNat) = some (.int .i64 (rd t476 x14_3)) ∧ w'.cell? (ad504.add (((rd t476 x14_3)).toNat * 6)) = some (.int .i64 ((J24 (rd_L4 t464 1) (rd t476 x14_3)).f0)) ∧ w'.cell? ⟨(ad504.add (((rd t476 x14_3)).toNat * 6)).block, (ad504.add (((rd t476 x14_3)).toNat * 6)).off + 1, none⟩ = some (.int .i64 ((J24 (rd_L4 t464 1) (rd t476 x14_3)).f1)) ∧ w'.cell? ⟨(ad504.add (((rd t476 x14_3)).toNat * 6)).block, (ad504.add (((rd t476 x14_3)).toNat * 6)).off + 2, none⟩ = some (.int .i64 ((J24 (rd_L4 t464 1) (rd t476 x14_3)).f2)) ∧ w'.cell? ⟨(ad504.add (((rd t476 x14_3)).toNat * 6)).block, (ad504.add (((rd t476 x14_3)).toNat * 6)).off + 3, none⟩ = some (.int .i64 ((J24 (rd_L4 t464 1) (rd t476 x14_3)).f3)) ∧ w'.cell? ⟨(ad504.add (((rd t476 x14_3)).toNat * 6)).block, (ad504.add (((rd t476 x14_3)).toNat * 6)).off + 4, none⟩ = some (.int .i64 ((J24 (rd_L4 t464 1) (rd t476 x14_3)).f4)) ∧ w'.cell? ⟨(ad504.add (((rd t476 x14_3)).toNat * 6)).block, (ad504.add (((rd t476 x14_3)).toNat * 6)).off + 5, none⟩ = some (.string ((J24 (rd_L4 t464 1) (rd t476 x14_3)).f5))) (ds := []) (bm 84 0) (by kernel_rfl) rfl (by kernel_rfl) ⟨hx502_0, hx503_0, hx504_0, hx504_1, hx504_2, hx504_3, hx504_4, hx504_5, hx506_0, hx506_1, hx506_2, hx506_3, hx506_4, hx506_5, hx508_0, hx509_0, hx510_0, hx511_0, hx512_0, hx513_0, hx513_1, hx513_2, hx513_3, hx513_4, hx513_5⟩ (fun hHeld => ?_); refine with_tabW w14_DagHigh.tab20 w14_DagHigh.bits20 (fun HT_ HW_ => ?_)
                     generalize wr.drew = w116 at HO_3 HO_6 HO_8 HO_10 BK462 HB hx502_0 hx503_0 hx504_0 hx504_1 hx504_2 hx504_3 hx504_4 hx504_5 hx506_0 hx506_1 hx506_2 hx506_3 hx506_4 hx506_5 hx508_0 hx509_0 hx510_0 hx511_0 hx512_0 hx513_0 hx513_1 hx513_2 hx513_3 hx513_4 hx513_5 hHeld ⊢
                     refine sq_ (k := 78) [(0, some 162, false), (1, some 163, false), (2, some 164, false), (3, some 165, true), (4, some 166, false), (5, some 167, false)] (bm 84 63) rfl (sq_of HT_.out HW_.out (by kernel_rfl)) (fun _ _ _ _ _ h => h) hHeld ?_
                     repeat (first | (refine SqOn.pure (v := ?_) (a' := ?_) rfl rfl (Or.inl ⟨by kernel_rfl, ?_⟩) ?_ ?_; rotate_left 2; (focus (intro w'; go_simp; with_reducible rfl)); (focus exact pU_)) | (refine SqOn.take (v := ?_) (a' := ?_) rfl rfl (Or.inl ⟨by kernel_rfl, ?_⟩) ?_ ?_; rotate_left 2; (focus (rintro w' ⟨s0, s1, s2, s3, s4, s5, s6, s7, s8, s9, s10, s11, s12, s13, s14, s15, s16, s17, s18, s19, s20, s21, s22, s23, s24⟩; go_simp; with_reducible rfl)); (focus exact pU_)))
                     refine SqOn.nil ?_
                     refine sq_ (k := 67) [(6, some 168, false), (7, some 169, false), (8, some 170, false), (9, some 171, false), (10, some 172, false), (11, some 173, false), (12, some 174, false), (13, some 175, false), (14, some 176, false), (15, some 177, false), (16, some 178, false)] (bm 84 131071) rfl (sq_of HT_.out HW_.out (by kernel_rfl)) (fun _ _ _ _ _ h => h) hHeld ?_
                     repeat (refine SqOn.pure (v := undef) (a' := ?_) rfl rfl (Or.inr ⟨by kernel_rfl, rfl⟩) ?_ ?_; rotate_left; (focus (first | (simp only [Act.put, List.setIfInBounds_toArray, List.set_cons_zero, List.set_cons_succ]; rfl) | rfl)))
                     refine SqOn.nil ?_
                     refine sq_ (k := 56) [(17, some 179, false), (18, some 180, false), (19, some 181, false), (20, some 182, false), (21, some 183, false), (23, some 185, false), (24, some 186, false), (25, some 187, false), (26, some 188, false), (22, some 184, true), (27, some 189, true)] (bm 84 268435455) rfl (sq_of HT_.out HW_.out (by kernel_rfl)) (fun _ _ _ _ _ h => h) hHeld ?_
                     repeat (first | (refine SqOn.pure (v := ?_) (a' := ?_) rfl rfl (Or.inl ⟨by kernel_rfl, ?_⟩) ?_ ?_; rotate_left 2; (focus (intro w'; go_simp; with_reducible rfl)); (focus exact pU_)) | (refine SqOn.take (v := ?_) (a' := ?_) rfl rfl (Or.inl ⟨by kernel_rfl, ?_⟩) ?_ ?_; rotate_left 2; (focus (rintro w' ⟨s0, s1, s2, s3, s4, s5, s6, s7, s8, s9, s10, s11, s12, s13, s14, s15, s16, s17, s18, s19, s20, s21, s22, s23, s24⟩; go_simp; with_reducible rfl)); (focus exact pU_)))
                     refine SqOn.nil ?_
                     refine one_ (i := 28) (N := some 190) (bm 84 536870911) rfl rfl (one_of HT_.out (by kernel_rfl)) (by decide) (fun K hK => ?_)
                     refine gO_ Try.func27 #[.int .i64 ((J24 (rd_L4 t464 1) x14_3).f0)] rfl ?_
                     with_reducible refine (r3_Latency.calls k3 ((J24 (rd_L4 t464 1) x14_3).f0) t505 _ A90.out).mono ?_
                     rintro e w' ⟨rfl, ⟨nd, rfl⟩⟩
                     refine ⟨_, rfl, ?_⟩
                     refine hK.out _ _ ⟨hHeld.1, hHeld.2.1, hHeld.2.2.1, hHeld.2.2.2.1, hHeld.2.2.2.2.1, hHeld.2.2.2.2.2.1, hHeld.2.2.2.2.2.2.1, hHeld.2.2.2.2.2.2.2.1, hHeld.2.2.2.2.2.2.2.2.1, hHeld.2.2.2.2.2.2.2.2.2.1, hHeld.2.2.2.2.2.2.2.2.2.2.1, hHeld.2.2.2.2.2.2.2.2.2.2.2.1, hHeld.2.2.2.2.2.2.2.2.2.2.2.2.1, hHeld.2.2.2.2.2.2.2.2.2.2.2.2.2.1, hHeld.2.2.2.2.2.2.2.2.2.2.2.2.2.2.1, hHeld.2.2.2.2.2.2.2.2.2.2.2.2.2.2.2.1, hHeld.2.2.2.2.2.2.2.2.2.2.2.2.2.2.2.2.1, hHeld.2.2.2.2.2.2.2.2.2.2.2.2.2.2.2.2.2.1, hHeld.2.2.2.2.2.2.2.2.2.2.2.2.2.2.2.2.2.2.1, hHeld.2.2.2.2.2.2.2.2.2.2.2.2.2.2.2.2.2.2.2.1, hHeld.2.2.2.2.2.2.2.2.2.2.2.2.2.2.2.2.2.2.2.2.1, hHeld.2.2.2.2.2.2.2.2.2.2.2.2.2.2.2.2.2.2.2.2.2.1, hHeld.2.2.2.2.2.2.2.2.2.2.2.2.2.2.2.2.2.2.2.2.2.2.1, hHeld.2.2.2.2.2.2.2.2.2.2.2.2.2.2.2.2.2.2.2.2.2.2.2.1, hHeld.2.2.2.2.2.2.2.2.2.2.2.2.2.2.2.2.2.2.2.2.2.2.2.2⟩ (fun hHeld => ?_)
                     clear hK K
                     refine norm_ (a' := ?_) ?_ ?_
                     rotate_left
                     ·show Act.put _ (some 190) _ = _
                      simp only [Act.put, List.setIfInBounds_toArray, List.set_cons_zero, List.set_cons_succ, i64_w, i32_w]
                      rfl
                     refine sq_ (k := 47) [(29, some 191, false), (30, some 192, false), (31, some 193, false), (32, some 194, false), (33, some 195, false), (34, some 196, false), (35, some 197, false), (36, some 198, true)] (bm 84 137438953471) rfl (sq_of HT_.out HW_.out (by kernel_rfl)) (fun _ _ _ _ _ h => h) hHeld ?_
                     repeat (first | (refine SqOn.pure (v := ?_) (a' := ?_) rfl rfl (Or.inl ⟨by kernel_rfl, ?_⟩) ?_ ?_; rotate_left 2; (focus (intro w'; go_simp; with_reducible rfl)); (focus exact pU_)) | (refine SqOn.take (v := ?_) (a' := ?_) rfl rfl (Or.inl ⟨by kernel_rfl, ?_⟩) ?_ ?_; rotate_left 2; (focus (rintro w' ⟨s0, s1, s2, s3, s4, s5, s6, s7, s8, s9, s10, s11, s12, s13, s14, s15, s16, s17, s18, s19, s20, s21, s22, s23, s24⟩; go_simp; with_reducible rfl)); (focus exact pU_)))
                     refine SqOn.nil ?_
                     refine one_ (i := 37) (N := some 199) (bm 84 274877906943) rfl rfl (one_of HT_.out (by kernel_rfl)) (by decide) (fun K hK => ?_)
                     refine gO_ Try.func36 #[.int .i64 ((J24 (rd_L4 t464 1) x14_3).f0)] rfl ?_
                     with_reducible refine (r3_Effect.calls ((J24 (rd_L4 t464 1) x14_3).f0) true _ A95.out).mono ?_
                     rintro e w' ⟨rfl, ⟨nd, rfl⟩⟩
                     refine ⟨_, rfl, ?_⟩
                     obtain ⟨Ao119, co119, eo119⟩ := Kd.R_slice HO_8.out
                     (first | subst eo119 | (injection eo119 with f1_ f2_ f3_; have f4_ := f1_.symm; have f5_ := f3_.symm; clear f1_ f2_ f3_; subst f4_; subst f5_))
                     refine hK.out _ _ ⟨hHeld.1, hHeld.2.1, hHeld.2.2.1, hHeld.2.2.2.1, hHeld.2.2.2.2.1, hHeld.2.2.2.2.2.1, hHeld.2.2.2.2.2.2.1, hHeld.2.2.2.2.2.2.2.1, hHeld.2.2.2.2.2.2.2.2.1, hHeld.2.2.2.2.2.2.2.2.2.1, hHeld.2.2.2.2.2.2.2.2.2.2.1, hHeld.2.2.2.2.2.2.2.2.2.2.2.1, hHeld.2.2.2.2.2.2.2.2.2.2.2.2.1, hHeld.2.2.2.2.2.2.2.2.2.2.2.2.2.1, hHeld.2.2.2.2.2.2.2.2.2.2.2.2.2.2.1, hHeld.2.2.2.2.2.2.2.2.2.2.2.2.2.2.2.1, hHeld.2.2.2.2.2.2.2.2.2.2.2.2.2.2.2.2.1, hHeld.2.2.2.2.2.2.2.2.2.2.2.2.2.2.2.2.2.1, hHeld.2.2.2.2.2.2.2.2.2.2.2.2.2.2.2.2.2.2.1, hHeld.2.2.2.2.2.2.2.2.2.2.2.2.2.2.2.2.2.2.2.1, hHeld.2.2.2.2.2.2.2.2.2.2.2.2.2.2.2.2.2.2.2.2.1, hHeld.2.2.2.2.2.2.2.2.2.2.2.2.2.2.2.2.2.2.2.2.2.1, hHeld.2.2.2.2.2.2.2.2.2.2.2.2.2.2.2.2.2.2.2.2.2.2.1, hHeld.2.2.2.2.2.2.2.2.2.2.2.2.2.2.2.2.2.2.2.2.2.2.2.1, hHeld.2.2.2.2.2.2.2.2.2.2.2.2.2.2.2.2.2.2.2.2.2.2.2.2⟩ (fun hHeld => ?_)
                     clear hK K
                     refine norm_ (a' := ?_) ?_ ?_
                     rotate_left
                     ·show Act.put _ (some 199) _ = _
                      simp only [Act.put, List.setIfInBounds_toArray, List.set_cons_zero, List.set_cons_succ, i64_w, i32_w]
                      rfl
                     refine sq_ (k := 4) [(38, some 200, false), (39, some 201, false), (40, some 202, false), (41, some 203, false), (43, some 205, false), (42, some 204, true), (44, some 206, false), (45, some 207, false), (46, some 208, false), (47, some 209, false), (48, some 210, false), (49, some 211, false), (50, some 212, false), (51, some 213, true), (52, some 214, false), (53, some 215, false), (54, some 216, false), (55, some 217, false), (56, some 218, false), (57, some 219, false), (59, some 221, false), (60, some 222, false), (58, some 220, true), (61, some 223, false), (62, some 224, false), (63, some 225, false), (64, some 226, false), (65, some 227, false), (66, some 228, false), (68, some 230, false), (69, some 231, false), (67, some 229, true), (70, some 232, false), (71, some 233, false), (72, some 234, false), (73, some 235, false), (74, some 236, false), (75, some 237, false), (76, some 238, true), (77, some 239, false), (78, some 240, false), (79, some 241, true)] (bm 84 1208925819614629174706175) rfl (sq_of HT_.out HW_.out (by kernel_rfl)) (fun _ _ _ _ _ h => h) hHeld ?_
                     repeat (first | (refine SqOn.pure (v := ?_) (a' := ?_) rfl rfl (Or.inl ⟨by kernel_rfl, ?_⟩) ?_ ?_; rotate_left 2; (focus (intro w'; go_simp; with_reducible rfl)); (focus exact pU_)) | (refine SqOn.take (v := ?_) (a' := ?_) rfl rfl (Or.inl ⟨by kernel_rfl, ?_⟩) ?_ ?_; rotate_left 2; (focus (rintro w' ⟨s0, s1, s2, s3, s4, s5, s6, s7, s8, s9, s10, s11, s12, s13, s14, s15, s16, s17, s18, s19, s20, s21, s22, s23, s24⟩; go_simp; with_reducible rfl)); (focus exact pU_)))
                     refine SqOn.nil ?_
                     refine one_ (i := 80) (N := some 242) (bm 84 2417851639229258349412351) rfl rfl (one_of HT_.out (by kernel_rfl)) (by decide) (fun K hK => ?_)
                     refine gO_ Try.func36 #[.int .i64 ((J24 (rd_L4 t464 1) (rd t476 x14_3)).f0)] rfl ?_
                     with_reducible refine (r3_Effect.calls ((J24 (rd_L4 t464 1) (rd t476 x14_3)).f0) t514 _ A115.out).mono ?_
                     rintro e w' ⟨rfl, ⟨nd, rfl⟩⟩
                     refine ⟨_, rfl, ?_⟩
                     refine hK.out _ _ ⟨hHeld.1, hHeld.2.1, hHeld.2.2.1, hHeld.2.2.2.1, hHeld.2.2.2.2.1, hHeld.2.2.2.2.2.1, hHeld.2.2.2.2.2.2.1, hHeld.2.2.2.2.2.2.2.1, hHeld.2.2.2.2.2.2.2.2.1, hHeld.2.2.2.2.2.2.2.2.2.1, hHeld.2.2.2.2.2.2.2.2.2.2.1, hHeld.2.2.2.2.2.2.2.2.2.2.2.1, hHeld.2.2.2.2.2.2.2.2.2.2.2.2.1, hHeld.2.2.2.2.2.2.2.2.2.2.2.2.2.1, hHeld.2.2.2.2.2.2.2.2.2.2.2.2.2.2.1, hHeld.2.2.2.2.2.2.2.2.2.2.2.2.2.2.2.1, hHeld.2.2.2.2.2.2.2.2.2.2.2.2.2.2.2.2.1, hHeld.2.2.2.2.2.2.2.2.2.2.2.2.2.2.2.2.2.1, hHeld.2.2.2.2.2.2.2.2.2.2.2.2.2.2.2.2.2.2.1, hHeld.2.2.2.2.2.2.2.2.2.2.2.2.2.2.2.2.2.2.2.1, hHeld.2.2.2.2.2.2.2.2.2.2.2.2.2.2.2.2.2.2.2.2.1, hHeld.2.2.2.2.2.2.2.2.2.2.2.2.2.2.2.2.2.2.2.2.2.1, hHeld.2.2.2.2.2.2.2.2.2.2.2.2.2.2.2.2.2.2.2.2.2.2.1, hHeld.2.2.2.2.2.2.2.2.2.2.2.2.2.2.2.2.2.2.2.2.2.2.2.1, hHeld.2.2.2.2.2.2.2.2.2.2.2.2.2.2.2.2.2.2.2.2.2.2.2.2⟩ (fun hHeld => ?_)
                     clear hK K
                     refine norm_ (a' := ?_) ?_ ?_
                     rotate_left
                     ·show Act.put _ (some 242) _ = _
                      simp only [Act.put, List.setIfInBounds_toArray, List.set_cons_zero, List.set_cons_succ, i64_w, i32_w]
                      rfl
                     refine sq_ (k := 0) [(81, some 243, false), (82, some 244, false), (83, some 245, false)] (bm 84 19342813113834066795298815) rfl (sq_of HT_.out HW_.out (by kernel_rfl)) (fun _ _ _ _ _ h => h) hHeld ?_
                     repeat (first | (refine SqOn.pure (v := ?_) (a' := ?_) rfl rfl (Or.inl ⟨by kernel_rfl, ?_⟩) ?_ ?_; rotate_left 2; (focus (intro w'; go_simp; with_reducible rfl)); (focus exact pU_)))
                     refine SqOn.nil ?_
                     refine done_ (done_of HT_.out (by kernel_rfl)) ?_
                     simp only [OnlyNormal]
                     try go_wp2
                     go_meet
                     case rel => exact ⟨_, (!t514), eQ_, H, ⟨by have := HJ11.out; have := HK2.out; have := HK3.out; first | omega | exact Nat.le_refl _⟩, ⟨by (with_reducible repeat (first | apply Kd.V_alloc | apply Kd.V_drewN | apply Kd.V_drew)); exact HO_3.out⟩, ⟨rR_ HO_6⟩, ⟨rR_ HO_8⟩, ⟨rR_ HO_10⟩, ⟨rB_ BK462⟩, ⟨bs_ HB GE462⟩⟩
                   rw [if_neg c114] at H
                   exact absurd H (by simp)
                  refine wp_normal_only ?_
                  clear_value *
                  as_aux_lemma =>
                   rw [if_neg c113] at H
                   have c113b0 := dF_ c113
                   clear c113
                   replace H := aM_ H
                   try go_wp2
                   replace HO_3 := aM_ (Kd.V_drew HO_3.out)
                   replace HO_6 := aM_ (Kd.R_drew HO_6.out)
                   replace HO_8 := aM_ (Kd.R_drew HO_8.out)
                   replace HO_10 := aM_ (Kd.R_drew HO_10.out)
                   replace BK462 := aM_ (kD_ BK462.out)
                   replace HB := aM_ (b1_ HB.out)
                   obtain ⟨Ao121, co121, eo121⟩ := Kd.R_slice HO_10.out
                   (first | subst eo121 | (injection eo121 with f1_ f2_ f3_; have f4_ := f1_.symm; have f5_ := f3_.symm; clear f1_ f2_ f3_; subst f4_; subst f5_))
                   have p502 : 0 ≤ (x14_3 : Int) := oD_
                   have q502 : x14_3 < (x10_2.length : Int) := oD_
                   obtain ⟨ad502, e502, hx502_0⟩ := Kd.at_bool (Kd.R_reads' HO_10.out).2.2 x14_3 p502 q502
                   (try rw [← Nbq87.out] at hx502_0)
                   cases e502
                   replace p502 := eq_true p502
                   replace q502 := eq_true q502
                   obtain ⟨Ao122, co122, eo122⟩ := Kd.R_slice HO_6.out
                   (first | subst eo122 | (injection eo122 with f1_ f2_ f3_; have f4_ := f1_.symm; have f5_ := f3_.symm; clear f1_ f2_ f3_; subst f4_; subst f5_))
                   have p503 : 0 ≤ (x14_3 : Int) := oD_
                   have q503 : x14_3 < (t472.length : Int) := oD_
                   obtain ⟨ad503, e503, hx503_0⟩ := Kd.at_int (Kd.R_reads' HO_6.out).2.2 x14_3 p503 q503
                   cases e503
                   replace p503 := eq_true p503
                   replace q503 := eq_true q503
                   have p504 : 0 ≤ (x14_3 : Int) := oD_
                   have q504 : x14_3 < ((rd_L4 t464 1).length : Int) := oD_
                   obtain ⟨ad504, e504, hx504_0, hx504_1, hx504_2, hx504_3, hx504_4, hx504_5⟩ := at_T24 (Kd.V_reads' HO_3.out).2.2 x14_3 p504 q504
                   cases e504
                   replace p504 := eq_true p504
                   replace q504 := eq_true q504
                   have p506 : 0 ≤ (x14_3 : Int) := oD_
                   have q506 : x14_3 < ((rd_L4 t464 1).length : Int) := oD_
                   obtain ⟨ad506, e506, hx506_0, hx506_1, hx506_2, hx506_3, hx506_4, hx506_5⟩ := at_T24 (Kd.V_reads' HO_3.out).2.2 x14_3 p506 q506
                   obtain rfl : ad504 = ad506 := (by injection e506)
                   replace p506 := eq_true p506
                   replace q506 := eq_true q506
                   have p508 : 0 ≤ (x14_3 : Int) := oD_
                   have q508 : x14_3 < (t476.length : Int) := oD_
                   obtain ⟨AoZ7, coZ7, eoZ7⟩ := Kd.R_slice HO_8.out
                   subst eoZ7
                   obtain ⟨ad508, e508, hx508_0⟩ := Kd.at_int (Kd.R_reads' HO_8.out).2.2 x14_3 p508 q508
                   cases e508
                   replace p508 := eq_true p508
                   replace q508 := eq_true q508
                   have p509 : 0 ≤ (x14_3 : Int) := oD_
                   have q509 : x14_3 < (t476.length : Int) := oD_
                   obtain ⟨ad509, e509, hx509_0⟩ := Kd.at_int (Kd.R_reads' HO_8.out).2.2 x14_3 p509 q509
                   obtain rfl : ad508 = ad509 := (by injection e509)
                   replace p509 := eq_true p509
                   replace q509 := eq_true q509
                   have p510 : 0 ≤ (x14_3 : Int) := oD_
                   have q510 : x14_3 < (t476.length : Int) := oD_
                   obtain ⟨ad510, e510, hx510_0⟩ := Kd.at_int (Kd.R_reads' HO_8.out).2.2 x14_3 p510 q510
                   obtain rfl : ad508 = ad510 := (by injection e510)
                   replace p510 := eq_true p510
                   replace q510 := eq_true q510
                   have p511 : 0 ≤ (x14_3 : Int) := oD_
                   have q511 : x14_3 < (t476.length : Int) := oD_
                   obtain ⟨ad511, e511, hx511_0⟩ := Kd.at_int (Kd.R_reads' HO_8.out).2.2 x14_3 p511 q511
                   obtain rfl : ad508 = ad511 := (by injection e511)
                   replace p511 := eq_true p511
                   replace q511 := eq_true q511
                   refine start_ (n := 84) (S := fun w' => w'.cell? (ad502.add (x14_3).toNat) = some (.bool true) ∧ w'.cell? (ad503.add (x14_3).toNat) = some (.int .i64 (rd t472 x14_3)) ∧ w'.cell? (ad504.add ((x14_3).toNat * 6)) = some (.int .i64 ((J24 (rd_L4 t464 1) x14_3).f0)) ∧ w'.cell? ⟨(ad504.add ((x14_3).toNat * 6)).block, (ad504.add ((x14_3).toNat * 6)).off + 1, none⟩ = some (.int .i64 ((J24 (rd_L4 t464 1) x14_3).f1)) ∧ w'.cell? ⟨(ad504.add ((x14_3).toNat * 6)).block, (ad504.add ((x14_3).toNat * 6)).off + 2, none⟩ = some (.int .i64 ((J24 (rd_L4 t464 1) x14_3).f2)) ∧ w'.cell? ⟨(ad504.add ((x14_3).toNat * 6)).block, (ad504.add ((x14_3).toNat * 6)).off + 3, none⟩ = some (.int .i64 ((J24 (rd_L4 t464 1) x14_3).f3)) ∧ w'.cell? ⟨(ad504.add ((x14_3).toNat * 6)).block, (ad504.add ((x14_3).toNat * 6)).off + 4, none⟩ = some (.int .i64 ((J24 (rd_L4 t464 1) x14_3).f4)) ∧ w'.cell? ⟨(ad504.add ((x14_3).toNat * 6)).block, (ad504.add ((x14_3).toNat * 6)).off + 5, none⟩ = some (.string ((J24 (rd_L4 t464 1) x14_3).f5)) ∧ w'.cell? (ad504.add ((x14_3).toNat * 6)) = some (.int .i64 ((J24 (rd_L4 t464 1) x14_3).f0)) ∧ w'.cell? ⟨(ad504.add ((x14_3).toNat * 6)).block, (ad504.add ((x14_3).toNat * 6)).off + 1, none⟩ = some (.int .i64 ((J24 (rd_L4 t464 1) x14_3).f1)) ∧ w'.cell? ⟨(ad504.add ((x14_3).toNat * 6)).block, (ad504.add ((x14_3).toNat * 6)).off + 2, none⟩ = some (.int .i64 ((J24 (rd_L4 t464 1) x14_3).f2)) ∧ w'.cell? ⟨(ad504.add ((x14_3).toNat * 6)).block, (ad504.add ((x14_3).toNat * 6)).off + 3, none⟩ = some (.int .i64 ((J24 (rd_L4 t464 1) x14_3).f3)) ∧ w'.cell? ⟨(ad504.add ((x14_3).toNat * 6)).block, (ad504.add ((x14_3).toNat * 6)).off + 4, none⟩ = some (.int .i64 ((J24 (rd_L4 t464 1) x14_3).f4)) ∧ w'.cell? ⟨(ad504.add ((x14_3).toNat * 6)).block, (ad504.add ((x14_3).toNat * 6)).off + 5, none⟩ = some (.string ((J24 (rd_L4 t464 1) x14_3).f5)) ∧ w'.cell? (ad508.add (x14_3).toNat) = some (.int .i64 (rd t476 x14_3)) ∧ w'.cell? (ad508.add (x14_3).toNat) = some (.int .i64 (rd t476 x14_3)) ∧ w'.cell? (ad508.add (x14_3).toNat) = some (.int .i64 (rd t476 x14_3)) ∧ w'.cell? (ad508.add (x14_3).toNat) = some (.int .i64 (rd t476 x14_3))) (ds := []) (bm 84 0) (by kernel_rfl) rfl (by kernel_rfl) ⟨hx502_0, hx503_0, hx504_0, hx504_1, hx504_2, hx504_3, hx504_4, hx504_5, hx506_0, hx506_1, hx506_2, hx506_3, hx506_4, hx506_5, hx508_0, hx509_0, hx510_0, hx511_0⟩ (fun hHeld => ?_); refine with_tabW w14_DagHigh.tab20 w14_DagHigh.bits20 (fun HT_ HW_ => ?_)
                   generalize wr.drew = w120 at HO_3 HO_6 HO_8 HO_10 BK462 HB hx502_0 hx503_0 hx504_0 hx504_1 hx504_2 hx504_3 hx504_4 hx504_5 hx506_0 hx506_1 hx506_2 hx506_3 hx506_4 hx506_5 hx508_0 hx509_0 hx510_0 hx511_0 hHeld ⊢
                   refine sq_ (k := 78) [(0, some 162, false), (1, some 163, false), (2, some 164, false), (3, some 165, true), (4, some 166, false), (5, some 167, false)] (bm 84 63) rfl (sq_of HT_.out HW_.out (by kernel_rfl)) (fun _ _ _ _ _ h => h) hHeld ?_
                   repeat (first | (refine SqOn.pure (v := ?_) (a' := ?_) rfl rfl (Or.inl ⟨by kernel_rfl, ?_⟩) ?_ ?_; rotate_left 2; (focus (intro w'; go_simp; with_reducible rfl)); (focus exact pU_)) | (refine SqOn.take (v := ?_) (a' := ?_) rfl rfl (Or.inl ⟨by kernel_rfl, ?_⟩) ?_ ?_; rotate_left 2; (focus (rintro w' ⟨s0, s1, s2, s3, s4, s5, s6, s7, s8, s9, s10, s11, s12, s13, s14, s15, s16, s17⟩; go_simp; with_reducible rfl)); (focus exact pU_)))
                   refine SqOn.nil ?_
                   refine sq_ (k := 67) [(6, some 168, false), (7, some 169, false), (8, some 170, false), (9, some 171, false), (10, some 172, false), (11, some 173, false), (12, some 174, false), (13, some 175, false), (14, some 176, false), (15, some 177, false), (16, some 178, false)] (bm 84 131071) rfl (sq_of HT_.out HW_.out (by kernel_rfl)) (fun _ _ _ _ _ h => h) hHeld ?_
                   repeat (refine SqOn.pure (v := undef) (a' := ?_) rfl rfl (Or.inr ⟨by kernel_rfl, rfl⟩) ?_ ?_; rotate_left; (focus (first | (simp only [Act.put, List.setIfInBounds_toArray, List.set_cons_zero, List.set_cons_succ]; rfl) | rfl)))
                   refine SqOn.nil ?_
                   refine sq_ (k := 56) [(17, some 179, false), (18, some 180, false), (19, some 181, false), (20, some 182, false), (21, some 183, false), (23, some 185, false), (24, some 186, false), (25, some 187, false), (26, some 188, false), (22, some 184, true), (27, some 189, true)] (bm 84 268435455) rfl (sq_of HT_.out HW_.out (by kernel_rfl)) (fun _ _ _ _ _ h => h) hHeld ?_
                   repeat (first | (refine SqOn.pure (v := ?_) (a' := ?_) rfl rfl (Or.inl ⟨by kernel_rfl, ?_⟩) ?_ ?_; rotate_left 2; (focus (intro w'; go_simp; with_reducible rfl)); (focus exact pU_)) | (refine SqOn.take (v := ?_) (a' := ?_) rfl rfl (Or.inl ⟨by kernel_rfl, ?_⟩) ?_ ?_; rotate_left 2; (focus (rintro w' ⟨s0, s1, s2, s3, s4, s5, s6, s7, s8, s9, s10, s11, s12, s13, s14, s15, s16, s17⟩; go_simp; with_reducible rfl)); (focus exact pU_)))
                   refine SqOn.nil ?_
                   refine one_ (i := 28) (N := some 190) (bm 84 536870911) rfl rfl (one_of HT_.out (by kernel_rfl)) (by decide) (fun K hK => ?_)
                   refine gO_ Try.func27 #[.int .i64 ((J24 (rd_L4 t464 1) x14_3).f0)] rfl ?_
                   with_reducible refine (r3_Latency.calls k3 ((J24 (rd_L4 t464 1) x14_3).f0) t505 _ A90.out).mono ?_
                   rintro e w' ⟨rfl, ⟨nd, rfl⟩⟩
                   refine ⟨_, rfl, ?_⟩
                   refine hK.out _ _ ⟨hHeld.1, hHeld.2.1, hHeld.2.2.1, hHeld.2.2.2.1, hHeld.2.2.2.2.1, hHeld.2.2.2.2.2.1, hHeld.2.2.2.2.2.2.1, hHeld.2.2.2.2.2.2.2.1, hHeld.2.2.2.2.2.2.2.2.1, hHeld.2.2.2.2.2.2.2.2.2.1, hHeld.2.2.2.2.2.2.2.2.2.2.1, hHeld.2.2.2.2.2.2.2.2.2.2.2.1, hHeld.2.2.2.2.2.2.2.2.2.2.2.2.1, hHeld.2.2.2.2.2.2.2.2.2.2.2.2.2.1, hHeld.2.2.2.2.2.2.2.2.2.2.2.2.2.2.1, hHeld.2.2.2.2.2.2.2.2.2.2.2.2.2.2.2.1, hHeld.2.2.2.2.2.2.2.2.2.2.2.2.2.2.2.2.1, hHeld.2.2.2.2.2.2.2.2.2.2.2.2.2.2.2.2.2⟩ (fun hHeld => ?_)
                   clear hK K
                   refine norm_ (a' := ?_) ?_ ?_
                   rotate_left
                   ·show Act.put _ (some 190) _ = _
                    simp only [Act.put, List.setIfInBounds_toArray, List.set_cons_zero, List.set_cons_succ, i64_w, i32_w]
                    rfl
                   refine sq_ (k := 47) [(29, some 191, false), (30, some 192, false), (31, some 193, false), (32, some 194, false), (33, some 195, false), (34, some 196, false), (35, some 197, false), (36, some 198, true)] (bm 84 137438953471) rfl (sq_of HT_.out HW_.out (by kernel_rfl)) (fun _ _ _ _ _ h => h) hHeld ?_
                   repeat (first | (refine SqOn.pure (v := ?_) (a' := ?_) rfl rfl (Or.inl ⟨by kernel_rfl, ?_⟩) ?_ ?_; rotate_left 2; (focus (intro w'; go_simp; with_reducible rfl)); (focus exact pU_)) | (refine SqOn.take (v := ?_) (a' := ?_) rfl rfl (Or.inl ⟨by kernel_rfl, ?_⟩) ?_ ?_; rotate_left 2; (focus (rintro w' ⟨s0, s1, s2, s3, s4, s5, s6, s7, s8, s9, s10, s11, s12, s13, s14, s15, s16, s17⟩; go_simp; with_reducible rfl)); (focus exact pU_)))
                   refine SqOn.nil ?_
                   refine one_ (i := 37) (N := some 199) (bm 84 274877906943) rfl rfl (one_of HT_.out (by kernel_rfl)) (by decide) (fun K hK => ?_)
                   refine gO_ Try.func36 #[.int .i64 ((J24 (rd_L4 t464 1) x14_3).f0)] rfl ?_
                   with_reducible refine (r3_Effect.calls ((J24 (rd_L4 t464 1) x14_3).f0) true _ A95.out).mono ?_
                   rintro e w' ⟨rfl, ⟨nd, rfl⟩⟩
                   refine ⟨_, rfl, ?_⟩
                   obtain ⟨Ao123, co123, eo123⟩ := Kd.R_slice HO_8.out
                   (first | subst eo123 | (injection eo123 with f1_ f2_ f3_; have f4_ := f1_.symm; have f5_ := f3_.symm; clear f1_ f2_ f3_; subst f4_; subst f5_))
                   refine hK.out _ _ ⟨hHeld.1, hHeld.2.1, hHeld.2.2.1, hHeld.2.2.2.1, hHeld.2.2.2.2.1, hHeld.2.2.2.2.2.1, hHeld.2.2.2.2.2.2.1, hHeld.2.2.2.2.2.2.2.1, hHeld.2.2.2.2.2.2.2.2.1, hHeld.2.2.2.2.2.2.2.2.2.1, hHeld.2.2.2.2.2.2.2.2.2.2.1, hHeld.2.2.2.2.2.2.2.2.2.2.2.1, hHeld.2.2.2.2.2.2.2.2.2.2.2.2.1, hHeld.2.2.2.2.2.2.2.2.2.2.2.2.2.1, hHeld.2.2.2.2.2.2.2.2.2.2.2.2.2.2.1, hHeld.2.2.2.2.2.2.2.2.2.2.2.2.2.2.2.1, hHeld.2.2.2.2.2.2.2.2.2.2.2.2.2.2.2.2.1, hHeld.2.2.2.2.2.2.2.2.2.2.2.2.2.2.2.2.2⟩ (fun hHeld => ?_)
                   clear hK K
                   refine norm_ (a' := ?_) ?_ ?_
                   rotate_left
                   ·show Act.put _ (some 199) _ = _
                    simp only [Act.put, List.setIfInBounds_toArray, List.set_cons_zero, List.set_cons_succ, i64_w, i32_w]
                    rfl
                   refine sq_ (k := 12) [(38, some 200, false), (39, some 201, false), (40, some 202, false), (41, some 203, false), (43, some 205, false), (42, some 204, true), (44, some 206, false), (45, some 207, false), (46, some 208, false), (47, some 209, false), (48, some 210, false), (49, some 211, false), (50, some 212, false), (51, some 213, true), (52, some 214, false), (53, some 215, false), (54, some 216, false), (55, some 217, false), (56, some 218, false), (57, some 219, false), (59, some 221, false), (60, some 222, false), (58, some 220, true), (61, some 223, false), (62, some 224, false), (63, some 225, false), (64, some 226, false), (65, some 227, false), (66, some 228, false), (68, some 230, false), (69, some 231, false), (67, some 229, true), (70, some 232, false), (71, some 233, false)] (bm 84 4722366482869645213695) rfl (sq_of HT_.out HW_.out (by kernel_rfl)) (fun _ _ _ _ _ h => h) hHeld ?_
                   repeat (first | (refine SqOn.pure (v := ?_) (a' := ?_) rfl rfl (Or.inl ⟨by kernel_rfl, ?_⟩) ?_ ?_; rotate_left 2; (focus (intro w'; go_simp; with_reducible rfl)); (focus exact pU_)) | (refine SqOn.take (v := ?_) (a' := ?_) rfl rfl (Or.inl ⟨by kernel_rfl, ?_⟩) ?_ ?_; rotate_left 2; (focus (rintro w' ⟨s0, s1, s2, s3, s4, s5, s6, s7, s8, s9, s10, s11, s12, s13, s14, s15, s16, s17⟩; go_simp; with_reducible rfl)); (focus exact pU_)))
                   refine SqOn.nil ?_
                   refine sq_ (k := 2) [(72, some 234, false), (73, some 235, false), (74, some 236, false), (75, some 237, false), (76, some 238, false), (77, some 239, false), (78, some 240, false), (79, some 241, false), (80, some 242, false), (81, some 243, false)] (bm 84 4835703278458516698824703) rfl (sq_of HT_.out HW_.out (by kernel_rfl)) (fun _ _ _ _ _ h => h) hHeld ?_
                   repeat (refine SqOn.pure (v := undef) (a' := ?_) rfl rfl (Or.inr ⟨by kernel_rfl, rfl⟩) ?_ ?_; rotate_left; (focus (first | (simp only [Act.put, List.setIfInBounds_toArray, List.set_cons_zero, List.set_cons_succ]; rfl) | rfl)))
                   refine SqOn.nil ?_
                   refine sq_ (k := 0) [(82, some 244, false), (83, some 245, false)] (bm 84 19342813113834066795298815) rfl (sq_of HT_.out HW_.out (by kernel_rfl)) (fun _ _ _ _ _ h => h) hHeld ?_
                   repeat (first | (refine SqOn.pure (v := ?_) (a' := ?_) rfl rfl (Or.inl ⟨by kernel_rfl, ?_⟩) ?_ ?_; rotate_left 2; (focus (intro w'; go_simp; with_reducible rfl)); (focus exact pU_)))
                   refine SqOn.nil ?_
                   refine done_ (done_of HT_.out (by kernel_rfl)) ?_
                   simp only [OnlyNormal]
                   try go_wp2
                   go_meet
                   case rel => exact ⟨_, (false), eQ_, H, ⟨by have := HJ11.out; have := HK2.out; have := HK3.out; first | omega | exact Nat.le_refl _⟩, ⟨by (with_reducible repeat (first | apply Kd.V_alloc | apply Kd.V_drewN | apply Kd.V_drew)); exact HO_3.out⟩, ⟨rR_ HO_6⟩, ⟨rR_ HO_8⟩, ⟨rR_ HO_10⟩, ⟨rB_ BK462⟩, ⟨bs_ HB GE462⟩⟩
                 rw [if_neg c97] at H
                 exact absurd H (by simp)
                replace c96 := eF_ c96
                subst c96
                rw [if_neg Bool.false_ne_true] at H
                by_cases c124 : x14_3 < (t476.length : Int)
                ·rw [if_pos c124] at H
                 have c124b0 := dE_ c124
                 clear c124
                 by_cases c125 : (rd t476 x14_3) < 0
                 ·rw [if_pos c125] at H
                  have c125b0 := dE_ c125
                  clear c125
                  first | exact (high_bad4 H hr).elim | exact (high_bad2 H hr).elim | exact (high_bad0 H hr).elim
                 rw [if_neg c125] at H
                 have c125b0 := dF_ c125
                 clear c125
                 by_cases c130 : (rd t476 x14_3) > ((rd_L4 t464 1).length : Int)
                 ·rw [if_pos c130] at H
                  have c130b0 := dE_ c130
                  clear c130
                  first | exact (high_bad4 H hr).elim | exact (high_bad2 H hr).elim | exact (high_bad0 H hr).elim
                 rw [if_neg c130] at H
                 have c130b0 := dF_ c130
                 clear c130
                 by_cases c135 : (rd t476 x14_3) < ((rd_L4 t464 1).length : Int)
                 ·rw [if_pos c135] at H
                  have c135b0 := dE_ c135
                  clear c135
                  by_cases c136 : 0 ≤ (rd t476 x14_3)
                  ·refine wp_normal_only ?_
                   clear_value *
                   as_aux_lemma =>
                    rw [if_pos c136] at H
                    have c136b0 := dE_ c136
                    clear c136
                    replace H := oB_ H
                    obtain ⟨t520, A137, H⟩ := H
                    replace H := aM_ H
                    try go_wp2
                    replace HO_3 := aM_ (Kd.V_drew HO_3.out)
                    replace HO_6 := aM_ (Kd.R_drew HO_6.out)
                    replace HO_8 := aM_ (Kd.R_drew HO_8.out)
                    replace HO_10 := aM_ (Kd.R_drew HO_10.out)
                    replace BK462 := aM_ (kD_ BK462.out)
                    replace HB := aM_ (b1_ HB.out)
                    obtain ⟨Ao139, co139, eo139⟩ := Kd.R_slice HO_10.out
                    (first | subst eo139 | (injection eo139 with f1_ f2_ f3_; have f4_ := f1_.symm; have f5_ := f3_.symm; clear f1_ f2_ f3_; subst f4_; subst f5_))
                    have p502 : 0 ≤ (x14_3 : Int) := oD_
                    have q502 : x14_3 < (x10_2.length : Int) := oD_
                    obtain ⟨ad502, e502, hx502_0⟩ := Kd.at_bool (Kd.R_reads' HO_10.out).2.2 x14_3 p502 q502
                    (try rw [← Nbq87.out] at hx502_0)
                    cases e502
                    replace p502 := eq_true p502
                    replace q502 := eq_true q502
                    obtain ⟨Ao140, co140, eo140⟩ := Kd.R_slice HO_6.out
                    (first | subst eo140 | (injection eo140 with f1_ f2_ f3_; have f4_ := f1_.symm; have f5_ := f3_.symm; clear f1_ f2_ f3_; subst f4_; subst f5_))
                    have p503 : 0 ≤ (x14_3 : Int) := oD_
                    have q503 : x14_3 < (t472.length : Int) := oD_
                    obtain ⟨ad503, e503, hx503_0⟩ := Kd.at_int (Kd.R_reads' HO_6.out).2.2 x14_3 p503 q503
                    cases e503
                    replace p503 := eq_true p503
                    replace q503 := eq_true q503
                    have p504 : 0 ≤ (x14_3 : Int) := oD_
                    have q504 : x14_3 < ((rd_L4 t464 1).length : Int) := oD_
                    obtain ⟨ad504, e504, hx504_0, hx504_1, hx504_2, hx504_3, hx504_4, hx504_5⟩ := at_T24 (Kd.V_reads' HO_3.out).2.2 x14_3 p504 q504
                    cases e504
                    replace p504 := eq_true p504
                    replace q504 := eq_true q504
                    have p506 : 0 ≤ (x14_3 : Int) := oD_
                    have q506 : x14_3 < ((rd_L4 t464 1).length : Int) := oD_
                    obtain ⟨ad506, e506, hx506_0, hx506_1, hx506_2, hx506_3, hx506_4, hx506_5⟩ := at_T24 (Kd.V_reads' HO_3.out).2.2 x14_3 p506 q506
                    obtain rfl : ad504 = ad506 := (by injection e506)
                    replace p506 := eq_true p506
                    replace q506 := eq_true q506
                    have p515 : 0 ≤ (x14_3 : Int) := oD_
                    have q515 : x14_3 < (t476.length : Int) := oD_
                    obtain ⟨AoZ10, coZ10, eoZ10⟩ := Kd.R_slice HO_8.out
                    subst eoZ10
                    obtain ⟨ad515, e515, hx515_0⟩ := Kd.at_int (Kd.R_reads' HO_8.out).2.2 x14_3 p515 q515
                    cases e515
                    replace p515 := eq_true p515
                    replace q515 := eq_true q515
                    have p516 : 0 ≤ (x14_3 : Int) := oD_
                    have q516 : x14_3 < (t476.length : Int) := oD_
                    obtain ⟨ad516, e516, hx516_0⟩ := Kd.at_int (Kd.R_reads' HO_8.out).2.2 x14_3 p516 q516
                    obtain rfl : ad515 = ad516 := (by injection e516)
                    replace p516 := eq_true p516
                    replace q516 := eq_true q516
                    have p517 : 0 ≤ (x14_3 : Int) := oD_
                    have q517 : x14_3 < (t476.length : Int) := oD_
                    obtain ⟨ad517, e517, hx517_0⟩ := Kd.at_int (Kd.R_reads' HO_8.out).2.2 x14_3 p517 q517
                    obtain rfl : ad515 = ad517 := (by injection e517)
                    replace p517 := eq_true p517
                    replace q517 := eq_true q517
                    have p518 : 0 ≤ (x14_3 : Int) := oD_
                    have q518 : x14_3 < (t476.length : Int) := oD_
                    obtain ⟨ad518, e518, hx518_0⟩ := Kd.at_int (Kd.R_reads' HO_8.out).2.2 x14_3 p518 q518
                    obtain rfl : ad515 = ad518 := (by injection e518)
                    replace p518 := eq_true p518
                    replace q518 := eq_true q518
                    have p519 : 0 ≤ ((rd t476 x14_3) : Int) := oD_
                    have q519 : (rd t476 x14_3) < ((rd_L4 t464 1).length : Int) := oD_
                    obtain ⟨ad519, e519, hx519_0, hx519_1, hx519_2, hx519_3, hx519_4, hx519_5⟩ := at_T24 (Kd.V_reads' HO_3.out).2.2 (rd t476 x14_3) p519 q519
                    obtain rfl : ad504 = ad519 := (by injection e519)
                    replace p519 := eq_true p519
                    replace q519 := eq_true q519
                    refine start_ (n := 84) (S := fun w' => w'.cell? (ad502.add (x14_3).toNat) = some (.bool true) ∧ w'.cell? (ad503.add (x14_3).toNat) = some (.int .i64 (rd t472 x14_3)) ∧ w'.cell? (ad504.add ((x14_3).toNat * 6)) = some (.int .i64 ((J24 (rd_L4 t464 1) x14_3).f0)) ∧ w'.cell? ⟨(ad504.add ((x14_3).toNat * 6)).block, (ad504.add ((x14_3).toNat * 6)).off + 1, none⟩ = some (.int .i64 ((J24 (rd_L4 t464 1) x14_3).f1)) ∧ w'.cell? ⟨(ad504.add ((x14_3).toNat * 6)).block, (ad504.add ((x14_3).toNat * 6)).off + 2, none⟩ = some (.int .i64 ((J24 (rd_L4 t464 1) x14_3).f2)) ∧ w'.cell? ⟨(ad504.add ((x14_3).toNat * 6)).block, (ad504.add ((x14_3).toNat * 6)).off + 3, none⟩ = some (.int .i64 ((J24 (rd_L4 t464 1) x14_3).f3)) ∧ w'.cell? ⟨(ad504.add ((x14_3).toNat * 6)).block, (ad504.add ((x14_3).toNat * 6)).off + 4, none⟩ = some (.int .i64 ((J24 (rd_L4 t464 1) x14_3).f4)) ∧ w'.cell? ⟨(ad504.add ((x14_3).toNat * 6)).block, (ad504.add ((x14_3).toNat * 6)).off + 5, none⟩ = some (.string ((J24 (rd_L4 t464 1) x14_3).f5)) ∧ w'.cell? (ad504.add ((x14_3).toNat * 6)) = some (.int .i64 ((J24 (rd_L4 t464 1) x14_3).f0)) ∧ w'.cell? ⟨(ad504.add ((x14_3).toNat * 6)).block, (ad504.add ((x14_3).toNat * 6)).off + 1, none⟩ = some (.int .i64 ((J24 (rd_L4 t464 1) x14_3).f1)) ∧ w'.cell? ⟨(ad504.add ((x14_3).toNat * 6)).block, (ad504.add ((x14_3).toNat * 6)).off + 2, none⟩ = some (.int .i64 ((J24 (rd_L4 t464 1) x14_3).f2)) ∧ w'.cell? ⟨(ad504.add ((x14_3).toNat * 6)).block, (ad504.add ((x14_3).toNat * 6)).off + 3, none⟩ = some (.int .i64 ((J24 (rd_L4 t464 1) x14_3).f3)) ∧ w'.cell? ⟨(ad504.add ((x14_3).toNat * 6)).block, (ad504.add ((x14_3).toNat * 6)).off + 4, none⟩ = some (.int .i64 ((J24 (rd_L4 t464 1) x14_3).f4)) ∧ w'.cell? ⟨(ad504.add ((x14_3).toNat * 6)).block, (ad504.add ((x14_3).toNat * 6)).off + 5, none⟩ = some (.string ((J24 (rd_L4 t464 1) x14_3).f5)) ∧ w'.cell? (ad515.add (x14_3).toNat) = some (.int .i64 (rd t476 x14_3)) ∧ w'.cell? (ad515.add (x14_3).toNat) = some (.int .i64 (rd t476 x14_3)) ∧ w'.cell? (ad515.add (x14_3).toNat) = some (.int .i64 (rd t476 x14_3)) ∧ w'.cell? (ad515.add (x14_3).toNat) = some (.int .i64 (rd t476 x14_3)) ∧ w'.cell? (ad504.add (((rd t476 x14_3)).toNat * 6)) = some (.int .i64 ((J24 (rd_L4 t464 1) (rd t476 x14_3)).f0)) ∧ w'.cell? ⟨(ad504.add (((rd t476 x14_3)).toNat * 6)).block, (ad504.add (((rd t476 x14_3)).toNat * 6)).off + 1, none⟩ = some (.int .i64 ((J24 (rd_L4 t464 1) (rd t476 x14_3)).f1)) ∧ w'.cell? ⟨(ad504.add (((rd t476 x14_3)).toNat * 6)).block, (ad504.add (((rd t476 x14_3)).toNat * 6)).off + 2, none⟩ = some (.int .i64 ((J24 (rd_L4 t464 1) (rd t476 x14_3)).f2)) ∧ w'.cell? ⟨(ad504.add (((rd t476 x14_3)).toNat * 6)).block, (ad504.add (((rd t476 x14_3)).toNat * 6)).off + 3, none⟩ = some (.int .i64 ((J24 (rd_L4 t464 1) (rd t476 x14_3)).f3)) ∧ w'.cell? ⟨(ad504.add (((rd t476 x14_3)).toNat * 6)).block, (ad504.add (((rd t476 x14_3)).toNat * 6)).off + 4, none⟩ = some (.int .i64 ((J24 (rd_L4 t464 1) (rd t476 x14_3)).f4)) ∧ w'.cell? ⟨(ad504.add (((rd t476 x14_3)).toNat * 6)).block, (ad504.add (((rd t476 x14_3)).toNat * 6)).off + 5, none⟩ = some (.string ((J24 (rd_L4 t464 1) (rd t476 x14_3)).f5))) (ds := []) (bm 84 0) (by kernel_rfl) rfl (by kernel_rfl) ⟨hx502_0, hx503_0, hx504_0, hx504_1, hx504_2, hx504_3, hx504_4, hx504_5, hx506_0, hx506_1, hx506_2, hx506_3, hx506_4, hx506_5, hx515_0, hx516_0, hx517_0, hx518_0, hx519_0, hx519_1, hx519_2, hx519_3, hx519_4, hx519_5⟩ (fun hHeld => ?_); refine with_tabW w14_DagHigh.tab20 w14_DagHigh.bits20 (fun HT_ HW_ => ?_)
                    generalize wr.drew = w138 at HO_3 HO_6 HO_8 HO_10 BK462 HB hx502_0 hx503_0 hx504_0 hx504_1 hx504_2 hx504_3 hx504_4 hx504_5 hx506_0 hx506_1 hx506_2 hx506_3 hx506_4 hx506_5 hx515_0 hx516_0 hx517_0 hx518_0 hx519_0 hx519_1 hx519_2 hx519_3 hx519_4 hx519_5 hHeld ⊢
                    refine sq_ (k := 78) [(0, some 162, false), (1, some 163, false), (2, some 164, false), (3, some 165, true), (4, some 166, false), (5, some 167, false)] (bm 84 63) rfl (sq_of HT_.out HW_.out (by kernel_rfl)) (fun _ _ _ _ _ h => h) hHeld ?_
                    repeat (first | (refine SqOn.pure (v := ?_) (a' := ?_) rfl rfl (Or.inl ⟨by kernel_rfl, ?_⟩) ?_ ?_; rotate_left 2; (focus (intro w'; go_simp; with_reducible rfl)); (focus exact pU_)) | (refine SqOn.take (v := ?_) (a' := ?_) rfl rfl (Or.inl ⟨by kernel_rfl, ?_⟩) ?_ ?_; rotate_left 2; (focus (rintro w' ⟨s0, s1, s2, s3, s4, s5, s6, s7, s8, s9, s10, s11, s12, s13, s14, s15, s16, s17, s18, s19, s20, s21, s22, s23⟩; go_simp; with_reducible rfl)); (focus exact pU_)))
                    refine SqOn.nil ?_
                    refine sq_ (k := 67) [(6, some 168, false), (7, some 169, false), (8, some 170, false), (9, some 171, false), (10, some 172, false), (11, some 173, false), (12, some 174, false), (13, some 175, false), (14, some 176, false), (15, some 177, false), (16, some 178, false)] (bm 84 131071) rfl (sq_of HT_.out HW_.out (by kernel_rfl)) (fun _ _ _ _ _ h => h) hHeld ?_
                    repeat (refine SqOn.pure (v := undef) (a' := ?_) rfl rfl (Or.inr ⟨by kernel_rfl, rfl⟩) ?_ ?_; rotate_left; (focus (first | (simp only [Act.put, List.setIfInBounds_toArray, List.set_cons_zero, List.set_cons_succ]; rfl) | rfl)))
                    refine SqOn.nil ?_
                    refine sq_ (k := 56) [(17, some 179, false), (18, some 180, false), (19, some 181, false), (20, some 182, false), (21, some 183, false), (23, some 185, false), (24, some 186, false), (25, some 187, false), (26, some 188, false), (22, some 184, true), (27, some 189, true)] (bm 84 268435455) rfl (sq_of HT_.out HW_.out (by kernel_rfl)) (fun _ _ _ _ _ h => h) hHeld ?_
                    repeat (first | (refine SqOn.pure (v := ?_) (a' := ?_) rfl rfl (Or.inl ⟨by kernel_rfl, ?_⟩) ?_ ?_; rotate_left 2; (focus (intro w'; go_simp; with_reducible rfl)); (focus exact pU_)) | (refine SqOn.take (v := ?_) (a' := ?_) rfl rfl (Or.inl ⟨by kernel_rfl, ?_⟩) ?_ ?_; rotate_left 2; (focus (rintro w' ⟨s0, s1, s2, s3, s4, s5, s6, s7, s8, s9, s10, s11, s12, s13, s14, s15, s16, s17, s18, s19, s20, s21, s22, s23⟩; go_simp; with_reducible rfl)); (focus exact pU_)))
                    refine SqOn.nil ?_
                    refine one_ (i := 28) (N := some 190) (bm 84 536870911) rfl rfl (one_of HT_.out (by kernel_rfl)) (by decide) (fun K hK => ?_)
                    refine gO_ Try.func27 #[.int .i64 ((J24 (rd_L4 t464 1) x14_3).f0)] rfl ?_
                    with_reducible refine (r3_Latency.calls k3 ((J24 (rd_L4 t464 1) x14_3).f0) t505 _ A90.out).mono ?_
                    rintro e w' ⟨rfl, ⟨nd, rfl⟩⟩
                    refine ⟨_, rfl, ?_⟩
                    refine hK.out _ _ ⟨hHeld.1, hHeld.2.1, hHeld.2.2.1, hHeld.2.2.2.1, hHeld.2.2.2.2.1, hHeld.2.2.2.2.2.1, hHeld.2.2.2.2.2.2.1, hHeld.2.2.2.2.2.2.2.1, hHeld.2.2.2.2.2.2.2.2.1, hHeld.2.2.2.2.2.2.2.2.2.1, hHeld.2.2.2.2.2.2.2.2.2.2.1, hHeld.2.2.2.2.2.2.2.2.2.2.2.1, hHeld.2.2.2.2.2.2.2.2.2.2.2.2.1, hHeld.2.2.2.2.2.2.2.2.2.2.2.2.2.1, hHeld.2.2.2.2.2.2.2.2.2.2.2.2.2.2.1, hHeld.2.2.2.2.2.2.2.2.2.2.2.2.2.2.2.1, hHeld.2.2.2.2.2.2.2.2.2.2.2.2.2.2.2.2.1, hHeld.2.2.2.2.2.2.2.2.2.2.2.2.2.2.2.2.2.1, hHeld.2.2.2.2.2.2.2.2.2.2.2.2.2.2.2.2.2.2.1, hHeld.2.2.2.2.2.2.2.2.2.2.2.2.2.2.2.2.2.2.2.1, hHeld.2.2.2.2.2.2.2.2.2.2.2.2.2.2.2.2.2.2.2.2.1, hHeld.2.2.2.2.2.2.2.2.2.2.2.2.2.2.2.2.2.2.2.2.2.1, hHeld.2.2.2.2.2.2.2.2.2.2.2.2.2.2.2.2.2.2.2.2.2.2.1, hHeld.2.2.2.2.2.2.2.2.2.2.2.2.2.2.2.2.2.2.2.2.2.2.2⟩ (fun hHeld => ?_)
                    clear hK K
                    refine norm_ (a' := ?_) ?_ ?_
                    rotate_left
                    ·show Act.put _ (some 190) _ = _
                     simp only [Act.put, List.setIfInBounds_toArray, List.set_cons_zero, List.set_cons_succ, i64_w, i32_w]
                     rfl
                    refine sq_ (k := 47) [(29, some 191, false), (30, some 192, false), (31, some 193, false), (32, some 194, false), (33, some 195, false), (34, some 196, false), (35, some 197, false), (36, some 198, true)] (bm 84 137438953471) rfl (sq_of HT_.out HW_.out (by kernel_rfl)) (fun _ _ _ _ _ h => h) hHeld ?_
                    repeat (first | (refine SqOn.pure (v := ?_) (a' := ?_) rfl rfl (Or.inl ⟨by kernel_rfl, ?_⟩) ?_ ?_; rotate_left 2; (focus (intro w'; go_simp; with_reducible rfl)); (focus exact pU_)) | (refine SqOn.take (v := ?_) (a' := ?_) rfl rfl (Or.inl ⟨by kernel_rfl, ?_⟩) ?_ ?_; rotate_left 2; (focus (rintro w' ⟨s0, s1, s2, s3, s4, s5, s6, s7, s8, s9, s10, s11, s12, s13, s14, s15, s16, s17, s18, s19, s20, s21, s22, s23⟩; go_simp; with_reducible rfl)); (focus exact pU_)))
                    refine SqOn.nil ?_
                    refine one_ (i := 37) (N := some 199) (bm 84 274877906943) rfl rfl (one_of HT_.out (by kernel_rfl)) (by decide) (fun K hK => ?_)
                    refine gO_ Try.func36 #[.int .i64 ((J24 (rd_L4 t464 1) x14_3).f0)] rfl ?_
                    with_reducible refine (r3_Effect.calls ((J24 (rd_L4 t464 1) x14_3).f0) false _ A95.out).mono ?_
                    rintro e w' ⟨rfl, ⟨nd, rfl⟩⟩
                    refine ⟨_, rfl, ?_⟩
                    obtain ⟨Ao141, co141, eo141⟩ := Kd.R_slice HO_8.out
                    (first | subst eo141 | (injection eo141 with f1_ f2_ f3_; have f4_ := f1_.symm; have f5_ := f3_.symm; clear f1_ f2_ f3_; subst f4_; subst f5_))
                    refine hK.out _ _ ⟨hHeld.1, hHeld.2.1, hHeld.2.2.1, hHeld.2.2.2.1, hHeld.2.2.2.2.1, hHeld.2.2.2.2.2.1, hHeld.2.2.2.2.2.2.1, hHeld.2.2.2.2.2.2.2.1, hHeld.2.2.2.2.2.2.2.2.1, hHeld.2.2.2.2.2.2.2.2.2.1, hHeld.2.2.2.2.2.2.2.2.2.2.1, hHeld.2.2.2.2.2.2.2.2.2.2.2.1, hHeld.2.2.2.2.2.2.2.2.2.2.2.2.1, hHeld.2.2.2.2.2.2.2.2.2.2.2.2.2.1, hHeld.2.2.2.2.2.2.2.2.2.2.2.2.2.2.1, hHeld.2.2.2.2.2.2.2.2.2.2.2.2.2.2.2.1, hHeld.2.2.2.2.2.2.2.2.2.2.2.2.2.2.2.2.1, hHeld.2.2.2.2.2.2.2.2.2.2.2.2.2.2.2.2.2.1, hHeld.2.2.2.2.2.2.2.2.2.2.2.2.2.2.2.2.2.2.1, hHeld.2.2.2.2.2.2.2.2.2.2.2.2.2.2.2.2.2.2.2.1, hHeld.2.2.2.2.2.2.2.2.2.2.2.2.2.2.2.2.2.2.2.2.1, hHeld.2.2.2.2.2.2.2.2.2.2.2.2.2.2.2.2.2.2.2.2.2.1, hHeld.2.2.2.2.2.2.2.2.2.2.2.2.2.2.2.2.2.2.2.2.2.2.1, hHeld.2.2.2.2.2.2.2.2.2.2.2.2.2.2.2.2.2.2.2.2.2.2.2⟩ (fun hHeld => ?_)
                    clear hK K
                    refine norm_ (a' := ?_) ?_ ?_
                    rotate_left
                    ·show Act.put _ (some 199) _ = _
                     simp only [Act.put, List.setIfInBounds_toArray, List.set_cons_zero, List.set_cons_succ, i64_w, i32_w]
                     rfl
                    refine pure_ (i := 38) (N := some 200) (v := ?_) (a' := ?_) (bm 84 549755813887) rfl rfl (any_of HT_.out (by kernel_rfl)) (fun _ _ _ h => h) (Or.inl ⟨by rfl, ?_⟩) ?_ ?_
                    rotate_left
                    ·intro w'
                     go_simp
                     with_reducible rfl
                    rotate_left
                    ·simp only [Act.put, List.setIfInBounds_toArray, List.set_cons_zero, List.set_cons_succ, i64_w, i32_w]
                     rfl
                    refine sq_ (k := 39) [(39, some 201, false), (40, some 202, false), (41, some 203, false), (42, some 204, false), (43, some 205, false), (44, some 206, false)] (bm 84 35184372088831) rfl (sq_of HT_.out HW_.out (by kernel_rfl)) (fun _ _ _ _ _ h => h) hHeld ?_
                    repeat (refine SqOn.pure (v := undef) (a' := ?_) rfl rfl (Or.inr ⟨by kernel_rfl, rfl⟩) ?_ ?_; rotate_left; (focus (first | (simp only [Act.put, List.setIfInBounds_toArray, List.set_cons_zero, List.set_cons_succ]; rfl) | rfl)))
                    refine SqOn.nil ?_
                    refine sq_ (k := 4) [(45, some 207, false), (46, some 208, false), (47, some 209, false), (48, some 210, false), (49, some 211, false), (50, some 212, false), (51, some 213, true), (52, some 214, false), (53, some 215, false), (54, some 216, false), (55, some 217, false), (56, some 218, false), (57, some 219, false), (59, some 221, false), (60, some 222, false), (58, some 220, true), (61, some 223, false), (62, some 224, false), (63, some 225, false), (64, some 226, false), (65, some 227, false), (66, some 228, false), (68, some 230, false), (69, some 231, false), (67, some 229, true), (70, some 232, false), (71, some 233, false), (72, some 234, false), (73, some 235, false), (74, some 236, false), (75, some 237, false), (76, some 238, true), (77, some 239, false), (78, some 240, false), (79, some 241, true)] (bm 84 1208925819614629174706175) rfl (sq_of HT_.out HW_.out (by kernel_rfl)) (fun _ _ _ _ _ h => h) hHeld ?_
                    repeat (first | (refine SqOn.pure (v := ?_) (a' := ?_) rfl rfl (Or.inl ⟨by kernel_rfl, ?_⟩) ?_ ?_; rotate_left 2; (focus (intro w'; go_simp; with_reducible rfl)); (focus exact pU_)) | (refine SqOn.take (v := ?_) (a' := ?_) rfl rfl (Or.inl ⟨by kernel_rfl, ?_⟩) ?_ ?_; rotate_left 2; (focus (rintro w' ⟨s0, s1, s2, s3, s4, s5, s6, s7, s8, s9, s10, s11, s12, s13, s14, s15, s16, s17, s18, s19, s20, s21, s22, s23⟩; go_simp; with_reducible rfl)); (focus exact pU_)))
                    refine SqOn.nil ?_
                    refine one_ (i := 80) (N := some 242) (bm 84 2417851639229258349412351) rfl rfl (one_of HT_.out (by kernel_rfl)) (by decide) (fun K hK => ?_)
                    refine gO_ Try.func36 #[.int .i64 ((J24 (rd_L4 t464 1) (rd t476 x14_3)).f0)] rfl ?_
                    with_reducible refine (r3_Effect.calls ((J24 (rd_L4 t464 1) (rd t476 x14_3)).f0) t520 _ A137.out).mono ?_
                    rintro e w' ⟨rfl, ⟨nd, rfl⟩⟩
                    refine ⟨_, rfl, ?_⟩
                    refine hK.out _ _ ⟨hHeld.1, hHeld.2.1, hHeld.2.2.1, hHeld.2.2.2.1, hHeld.2.2.2.2.1, hHeld.2.2.2.2.2.1, hHeld.2.2.2.2.2.2.1, hHeld.2.2.2.2.2.2.2.1, hHeld.2.2.2.2.2.2.2.2.1, hHeld.2.2.2.2.2.2.2.2.2.1, hHeld.2.2.2.2.2.2.2.2.2.2.1, hHeld.2.2.2.2.2.2.2.2.2.2.2.1, hHeld.2.2.2.2.2.2.2.2.2.2.2.2.1, hHeld.2.2.2.2.2.2.2.2.2.2.2.2.2.1, hHeld.2.2.2.2.2.2.2.2.2.2.2.2.2.2.1, hHeld.2.2.2.2.2.2.2.2.2.2.2.2.2.2.2.1, hHeld.2.2.2.2.2.2.2.2.2.2.2.2.2.2.2.2.1, hHeld.2.2.2.2.2.2.2.2.2.2.2.2.2.2.2.2.2.1, hHeld.2.2.2.2.2.2.2.2.2.2.2.2.2.2.2.2.2.2.1, hHeld.2.2.2.2.2.2.2.2.2.2.2.2.2.2.2.2.2.2.2.1, hHeld.2.2.2.2.2.2.2.2.2.2.2.2.2.2.2.2.2.2.2.2.1, hHeld.2.2.2.2.2.2.2.2.2.2.2.2.2.2.2.2.2.2.2.2.2.1, hHeld.2.2.2.2.2.2.2.2.2.2.2.2.2.2.2.2.2.2.2.2.2.2.1, hHeld.2.2.2.2.2.2.2.2.2.2.2.2.2.2.2.2.2.2.2.2.2.2.2⟩ (fun hHeld => ?_)
                    clear hK K
                    refine norm_ (a' := ?_) ?_ ?_
                    rotate_left
                    ·show Act.put _ (some 242) _ = _
                     simp only [Act.put, List.setIfInBounds_toArray, List.set_cons_zero, List.set_cons_succ, i64_w, i32_w]
                     rfl
                    refine sq_ (k := 0) [(81, some 243, false), (82, some 244, false), (83, some 245, false)] (bm 84 19342813113834066795298815) rfl (sq_of HT_.out HW_.out (by kernel_rfl)) (fun _ _ _ _ _ h => h) hHeld ?_
                    repeat (first | (refine SqOn.pure (v := ?_) (a' := ?_) rfl rfl (Or.inl ⟨by kernel_rfl, ?_⟩) ?_ ?_; rotate_left 2; (focus (intro w'; go_simp; with_reducible rfl)); (focus exact pU_)))
                    refine SqOn.nil ?_
                    refine done_ (done_of HT_.out (by kernel_rfl)) ?_
                    simp only [OnlyNormal]
                    try go_wp2
                    go_meet
                    case rel => exact ⟨_, (!t520), eQ_, H, ⟨by have := HJ11.out; have := HK2.out; have := HK3.out; first | omega | exact Nat.le_refl _⟩, ⟨by (with_reducible repeat (first | apply Kd.V_alloc | apply Kd.V_drewN | apply Kd.V_drew)); exact HO_3.out⟩, ⟨rR_ HO_6⟩, ⟨rR_ HO_8⟩, ⟨rR_ HO_10⟩, ⟨rB_ BK462⟩, ⟨bs_ HB GE462⟩⟩
                  rw [if_neg c136] at H
                  exact absurd H (by simp)
                 refine wp_normal_only ?_
                 clear_value *
                 as_aux_lemma =>
                  rw [if_neg c135] at H
                  have c135b0 := dF_ c135
                  clear c135
                  replace H := aM_ H
                  try go_wp2
                  replace HO_3 := aM_ (Kd.V_drew HO_3.out)
                  replace HO_6 := aM_ (Kd.R_drew HO_6.out)
                  replace HO_8 := aM_ (Kd.R_drew HO_8.out)
                  replace HO_10 := aM_ (Kd.R_drew HO_10.out)
                  replace BK462 := aM_ (kD_ BK462.out)
                  replace HB := aM_ (b1_ HB.out)
                  obtain ⟨Ao143, co143, eo143⟩ := Kd.R_slice HO_10.out
                  (first | subst eo143 | (injection eo143 with f1_ f2_ f3_; have f4_ := f1_.symm; have f5_ := f3_.symm; clear f1_ f2_ f3_; subst f4_; subst f5_))
                  have p502 : 0 ≤ (x14_3 : Int) := oD_
                  have q502 : x14_3 < (x10_2.length : Int) := oD_
                  obtain ⟨ad502, e502, hx502_0⟩ := Kd.at_bool (Kd.R_reads' HO_10.out).2.2 x14_3 p502 q502
                  (try rw [← Nbq87.out] at hx502_0)
                  cases e502
                  replace p502 := eq_true p502
                  replace q502 := eq_true q502
                  obtain ⟨Ao144, co144, eo144⟩ := Kd.R_slice HO_6.out
                  (first | subst eo144 | (injection eo144 with f1_ f2_ f3_; have f4_ := f1_.symm; have f5_ := f3_.symm; clear f1_ f2_ f3_; subst f4_; subst f5_))
                  have p503 : 0 ≤ (x14_3 : Int) := oD_
                  have q503 : x14_3 < (t472.length : Int) := oD_
                  obtain ⟨ad503, e503, hx503_0⟩ := Kd.at_int (Kd.R_reads' HO_6.out).2.2 x14_3 p503 q503
                  cases e503
                  replace p503 := eq_true p503
                  replace q503 := eq_true q503
                  have p504 : 0 ≤ (x14_3 : Int) := oD_
                  have q504 : x14_3 < ((rd_L4 t464 1).length : Int) := oD_
                  obtain ⟨ad504, e504, hx504_0, hx504_1, hx504_2, hx504_3, hx504_4, hx504_5⟩ := at_T24 (Kd.V_reads' HO_3.out).2.2 x14_3 p504 q504
                  cases e504
                  replace p504 := eq_true p504
                  replace q504 := eq_true q504
                  have p506 : 0 ≤ (x14_3 : Int) := oD_
                  have q506 : x14_3 < ((rd_L4 t464 1).length : Int) := oD_
                  obtain ⟨ad506, e506, hx506_0, hx506_1, hx506_2, hx506_3, hx506_4, hx506_5⟩ := at_T24 (Kd.V_reads' HO_3.out).2.2 x14_3 p506 q506
                  obtain rfl : ad504 = ad506 := (by injection e506)
                  replace p506 := eq_true p506
                  replace q506 := eq_true q506
                  have p515 : 0 ≤ (x14_3 : Int) := oD_
                  have q515 : x14_3 < (t476.length : Int) := oD_
                  obtain ⟨AoZ11, coZ11, eoZ11⟩ := Kd.R_slice HO_8.out
                  subst eoZ11
                  obtain ⟨ad515, e515, hx515_0⟩ := Kd.at_int (Kd.R_reads' HO_8.out).2.2 x14_3 p515 q515
                  cases e515
                  replace p515 := eq_true p515
                  replace q515 := eq_true q515
                  have p516 : 0 ≤ (x14_3 : Int) := oD_
                  have q516 : x14_3 < (t476.length : Int) := oD_
                  obtain ⟨ad516, e516, hx516_0⟩ := Kd.at_int (Kd.R_reads' HO_8.out).2.2 x14_3 p516 q516
                  obtain rfl : ad515 = ad516 := (by injection e516)
                  replace p516 := eq_true p516
                  replace q516 := eq_true q516
                  have p517 : 0 ≤ (x14_3 : Int) := oD_
                  have q517 : x14_3 < (t476.length : Int) := oD_
                  obtain ⟨ad517, e517, hx517_0⟩ := Kd.at_int (Kd.R_reads' HO_8.out).2.2 x14_3 p517 q517
                  obtain rfl : ad515 = ad517 := (by injection e517)
                  replace p517 := eq_true p517
                  replace q517 := eq_true q517
                  refine start_ (n := 84) (S := fun w' => w'.cell? (ad502.add (x14_3).toNat) = some (.bool true) ∧ w'.cell? (ad503.add (x14_3).toNat) = some (.int .i64 (rd t472 x14_3)) ∧ w'.cell? (ad504.add ((x14_3).toNat * 6)) = some (.int .i64 ((J24 (rd_L4 t464 1) x14_3).f0)) ∧ w'.cell? ⟨(ad504.add ((x14_3).toNat * 6)).block, (ad504.add ((x14_3).toNat * 6)).off + 1, none⟩ = some (.int .i64 ((J24 (rd_L4 t464 1) x14_3).f1)) ∧ w'.cell? ⟨(ad504.add ((x14_3).toNat * 6)).block, (ad504.add ((x14_3).toNat * 6)).off + 2, none⟩ = some (.int .i64 ((J24 (rd_L4 t464 1) x14_3).f2)) ∧ w'.cell? ⟨(ad504.add ((x14_3).toNat * 6)).block, (ad504.add ((x14_3).toNat * 6)).off + 3, none⟩ = some (.int .i64 ((J24 (rd_L4 t464 1) x14_3).f3)) ∧ w'.cell? ⟨(ad504.add ((x14_3).toNat * 6)).block, (ad504.add ((x14_3).toNat * 6)).off + 4, none⟩ = some (.int .i64 ((J24 (rd_L4 t464 1) x14_3).f4)) ∧ w'.cell? ⟨(ad504.add ((x14_3).toNat * 6)).block, (ad504.add ((x14_3).toNat * 6)).off + 5, none⟩ = some (.string ((J24 (rd_L4 t464 1) x14_3).f5)) ∧ w'.cell? (ad504.add ((x14_3).toNat * 6)) = some (.int .i64 ((J24 (rd_L4 t464 1) x14_3).f0)) ∧ w'.cell? ⟨(ad504.add ((x14_3).toNat * 6)).block, (ad504.add ((x14_3).toNat * 6)).off + 1, none⟩ = some (.int .i64 ((J24 (rd_L4 t464 1) x14_3).f1)) ∧ w'.cell? ⟨(ad504.add ((x14_3).toNat * 6)).block, (ad504.add ((x14_3).toNat * 6)).off + 2, none⟩ = some (.int .i64 ((J24 (rd_L4 t464 1) x14_3).f2)) ∧ w'.cell? ⟨(ad504.add ((x14_3).toNat * 6)).block, (ad504.add ((x14_3).toNat * 6)).off + 3, none⟩ = some (.int .i64 ((J24 (rd_L4 t464 1) x14_3).f3)) ∧ w'.cell? ⟨(ad504.add ((x14_3).toNat * 6)).block, (ad504.add ((x14_3).toNat * 6)).off + 4, none⟩ = some (.int .i64 ((J24 (rd_L4 t464 1) x14_3).f4)) ∧ w'.cell? ⟨(ad504.add ((x14_3).toNat * 6)).block, (ad504.add ((x14_3).toNat * 6)).off + 5, none⟩ = some (.string ((J24 (rd_L4 t464 1) x14_3).f5)) ∧ w'.cell? (ad515.add (x14_3).toNat) = some (.int .i64 (rd t476 x14_3)) ∧ w'.cell? (ad515.add (x14_3).toNat) = some (.int .i64 (rd t476 x14_3)) ∧ w'.cell? (ad515.add (x14_3).toNat) = some (.int .i64 (rd t476 x14_3))) (ds := []) (bm 84 0) (by kernel_rfl) rfl (by kernel_rfl) ⟨hx502_0, hx503_0, hx504_0, hx504_1, hx504_2, hx504_3, hx504_4, hx504_5, hx506_0, hx506_1, hx506_2, hx506_3, hx506_4, hx506_5, hx515_0, hx516_0, hx517_0⟩ (fun hHeld => ?_); refine with_tabW w14_DagHigh.tab20 w14_DagHigh.bits20 (fun HT_ HW_ => ?_)
                  generalize wr.drew = w142 at HO_3 HO_6 HO_8 HO_10 BK462 HB hx502_0 hx503_0 hx504_0 hx504_1 hx504_2 hx504_3 hx504_4 hx504_5 hx506_0 hx506_1 hx506_2 hx506_3 hx506_4 hx506_5 hx515_0 hx516_0 hx517_0 hHeld ⊢
                  refine sq_ (k := 78) [(0, some 162, false), (1, some 163, false), (2, some 164, false), (3, some 165, true), (4, some 166, false), (5, some 167, false)] (bm 84 63) rfl (sq_of HT_.out HW_.out (by kernel_rfl)) (fun _ _ _ _ _ h => h) hHeld ?_
                  repeat (first | (refine SqOn.pure (v := ?_) (a' := ?_) rfl rfl (Or.inl ⟨by kernel_rfl, ?_⟩) ?_ ?_; rotate_left 2; (focus (intro w'; go_simp; with_reducible rfl)); (focus exact pU_)) | (refine SqOn.take (v := ?_) (a' := ?_) rfl rfl (Or.inl ⟨by kernel_rfl, ?_⟩) ?_ ?_; rotate_left 2; (focus (rintro w' ⟨s0, s1, s2, s3, s4, s5, s6, s7, s8, s9, s10, s11, s12, s13, s14, s15, s16⟩; go_simp; with_reducible rfl)); (focus exact pU_)))
                  refine SqOn.nil ?_
                  refine sq_ (k := 67) [(6, some 168, false), (7, some 169, false), (8, some 170, false), (9, some 171, false), (10, some 172, false), (11, some 173, false), (12, some 174, false), (13, some 175, false), (14, some 176, false), (15, some 177, false), (16, some 178, false)] (bm 84 131071) rfl (sq_of HT_.out HW_.out (by kernel_rfl)) (fun _ _ _ _ _ h => h) hHeld ?_
                  repeat (refine SqOn.pure (v := undef) (a' := ?_) rfl rfl (Or.inr ⟨by kernel_rfl, rfl⟩) ?_ ?_; rotate_left; (focus (first | (simp only [Act.put, List.setIfInBounds_toArray, List.set_cons_zero, List.set_cons_succ]; rfl) | rfl)))
                  refine SqOn.nil ?_
                  refine sq_ (k := 56) [(17, some 179, false), (18, some 180, false), (19, some 181, false), (20, some 182, false), (21, some 183, false), (23, some 185, false), (24, some 186, false), (25, some 187, false), (26, some 188, false), (22, some 184, true), (27, some 189, true)] (bm 84 268435455) rfl (sq_of HT_.out HW_.out (by kernel_rfl)) (fun _ _ _ _ _ h => h) hHeld ?_
                  repeat (first | (refine SqOn.pure (v := ?_) (a' := ?_) rfl rfl (Or.inl ⟨by kernel_rfl, ?_⟩) ?_ ?_; rotate_left 2; (focus (intro w'; go_simp; with_reducible rfl)); (focus exact pU_)) | (refine SqOn.take (v := ?_) (a' := ?_) rfl rfl (Or.inl ⟨by kernel_rfl, ?_⟩) ?_ ?_; rotate_left 2; (focus (rintro w' ⟨s0, s1, s2, s3, s4, s5, s6, s7, s8, s9, s10, s11, s12, s13, s14, s15, s16⟩; go_simp; with_reducible rfl)); (focus exact pU_)))
                  refine SqOn.nil ?_
                  refine one_ (i := 28) (N := some 190) (bm 84 536870911) rfl rfl (one_of HT_.out (by kernel_rfl)) (by decide) (fun K hK => ?_)
                  refine gO_ Try.func27 #[.int .i64 ((J24 (rd_L4 t464 1) x14_3).f0)] rfl ?_
                  with_reducible refine (r3_Latency.calls k3 ((J24 (rd_L4 t464 1) x14_3).f0) t505 _ A90.out).mono ?_
                  rintro e w' ⟨rfl, ⟨nd, rfl⟩⟩
                  refine ⟨_, rfl, ?_⟩
                  refine hK.out _ _ ⟨hHeld.1, hHeld.2.1, hHeld.2.2.1, hHeld.2.2.2.1, hHeld.2.2.2.2.1, hHeld.2.2.2.2.2.1, hHeld.2.2.2.2.2.2.1, hHeld.2.2.2.2.2.2.2.1, hHeld.2.2.2.2.2.2.2.2.1, hHeld.2.2.2.2.2.2.2.2.2.1, hHeld.2.2.2.2.2.2.2.2.2.2.1, hHeld.2.2.2.2.2.2.2.2.2.2.2.1, hHeld.2.2.2.2.2.2.2.2.2.2.2.2.1, hHeld.2.2.2.2.2.2.2.2.2.2.2.2.2.1, hHeld.2.2.2.2.2.2.2.2.2.2.2.2.2.2.1, hHeld.2.2.2.2.2.2.2.2.2.2.2.2.2.2.2.1, hHeld.2.2.2.2.2.2.2.2.2.2.2.2.2.2.2.2⟩ (fun hHeld => ?_)
                  clear hK K
                  refine norm_ (a' := ?_) ?_ ?_
                  rotate_left
                  ·show Act.put _ (some 190) _ = _
                   simp only [Act.put, List.setIfInBounds_toArray, List.set_cons_zero, List.set_cons_succ, i64_w, i32_w]
                   rfl
                  refine sq_ (k := 47) [(29, some 191, false), (30, some 192, false), (31, some 193, false), (32, some 194, false), (33, some 195, false), (34, some 196, false), (35, some 197, false), (36, some 198, true)] (bm 84 137438953471) rfl (sq_of HT_.out HW_.out (by kernel_rfl)) (fun _ _ _ _ _ h => h) hHeld ?_
                  repeat (first | (refine SqOn.pure (v := ?_) (a' := ?_) rfl rfl (Or.inl ⟨by kernel_rfl, ?_⟩) ?_ ?_; rotate_left 2; (focus (intro w'; go_simp; with_reducible rfl)); (focus exact pU_)) | (refine SqOn.take (v := ?_) (a' := ?_) rfl rfl (Or.inl ⟨by kernel_rfl, ?_⟩) ?_ ?_; rotate_left 2; (focus (rintro w' ⟨s0, s1, s2, s3, s4, s5, s6, s7, s8, s9, s10, s11, s12, s13, s14, s15, s16⟩; go_simp; with_reducible rfl)); (focus exact pU_)))
                  refine SqOn.nil ?_
                  refine one_ (i := 37) (N := some 199) (bm 84 274877906943) rfl rfl (one_of HT_.out (by kernel_rfl)) (by decide) (fun K hK => ?_)
                  refine gO_ Try.func36 #[.int .i64 ((J24 (rd_L4 t464 1) x14_3).f0)] rfl ?_
                  with_reducible refine (r3_Effect.calls ((J24 (rd_L4 t464 1) x14_3).f0) false _ A95.out).mono ?_
                  rintro e w' ⟨rfl, ⟨nd, rfl⟩⟩
                  refine ⟨_, rfl, ?_⟩
                  obtain ⟨Ao145, co145, eo145⟩ := Kd.R_slice HO_8.out
                  (first | subst eo145 | (injection eo145 with f1_ f2_ f3_; have f4_ := f1_.symm; have f5_ := f3_.symm; clear f1_ f2_ f3_; subst f4_; subst f5_))
                  refine hK.out _ _ ⟨hHeld.1, hHeld.2.1, hHeld.2.2.1, hHeld.2.2.2.1, hHeld.2.2.2.2.1, hHeld.2.2.2.2.2.1, hHeld.2.2.2.2.2.2.1, hHeld.2.2.2.2.2.2.2.1, hHeld.2.2.2.2.2.2.2.2.1, hHeld.2.2.2.2.2.2.2.2.2.1, hHeld.2.2.2.2.2.2.2.2.2.2.1, hHeld.2.2.2.2.2.2.2.2.2.2.2.1, hHeld.2.2.2.2.2.2.2.2.2.2.2.2.1, hHeld.2.2.2.2.2.2.2.2.2.2.2.2.2.1, hHeld.2.2.2.2.2.2.2.2.2.2.2.2.2.2.1, hHeld.2.2.2.2.2.2.2.2.2.2.2.2.2.2.2.1, hHeld.2.2.2.2.2.2.2.2.2.2.2.2.2.2.2.2⟩ (fun hHeld => ?_)
                  clear hK K
                  refine norm_ (a' := ?_) ?_ ?_
                  rotate_left
                  ·show Act.put _ (some 199) _ = _
                   simp only [Act.put, List.setIfInBounds_toArray, List.set_cons_zero, List.set_cons_succ, i64_w, i32_w]
                   rfl
                  refine pure_ (i := 38) (N := some 200) (v := ?_) (a' := ?_) (bm 84 549755813887) rfl rfl (any_of HT_.out (by kernel_rfl)) (fun _ _ _ h => h) (Or.inl ⟨by rfl, ?_⟩) ?_ ?_
                  rotate_left
                  ·intro w'
                   go_simp
                   with_reducible rfl
                  rotate_left
                  ·simp only [Act.put, List.setIfInBounds_toArray, List.set_cons_zero, List.set_cons_succ, i64_w, i32_w]
                   rfl
                  refine sq_ (k := 39) [(39, some 201, false), (40, some 202, false), (41, some 203, false), (42, some 204, false), (43, some 205, false), (44, some 206, false)] (bm 84 35184372088831) rfl (sq_of HT_.out HW_.out (by kernel_rfl)) (fun _ _ _ _ _ h => h) hHeld ?_
                  repeat (refine SqOn.pure (v := undef) (a' := ?_) rfl rfl (Or.inr ⟨by kernel_rfl, rfl⟩) ?_ ?_; rotate_left; (focus (first | (simp only [Act.put, List.setIfInBounds_toArray, List.set_cons_zero, List.set_cons_succ]; rfl) | rfl)))
                  refine SqOn.nil ?_
                  refine sq_ (k := 12) [(45, some 207, false), (46, some 208, false), (47, some 209, false), (48, some 210, false), (49, some 211, false), (50, some 212, false), (51, some 213, true), (52, some 214, false), (53, some 215, false), (54, some 216, false), (55, some 217, false), (56, some 218, false), (57, some 219, false), (59, some 221, false), (60, some 222, false), (58, some 220, true), (61, some 223, false), (62, some 224, false), (63, some 225, false), (64, some 226, false), (65, some 227, false), (66, some 228, false), (68, some 230, false), (69, some 231, false), (67, some 229, true), (70, some 232, false), (71, some 233, false)] (bm 84 4722366482869645213695) rfl (sq_of HT_.out HW_.out (by kernel_rfl)) (fun _ _ _ _ _ h => h) hHeld ?_
                  repeat (first | (refine SqOn.pure (v := ?_) (a' := ?_) rfl rfl (Or.inl ⟨by kernel_rfl, ?_⟩) ?_ ?_; rotate_left 2; (focus (intro w'; go_simp; with_reducible rfl)); (focus exact pU_)) | (refine SqOn.take (v := ?_) (a' := ?_) rfl rfl (Or.inl ⟨by kernel_rfl, ?_⟩) ?_ ?_; rotate_left 2; (focus (rintro w' ⟨s0, s1, s2, s3, s4, s5, s6, s7, s8, s9, s10, s11, s12, s13, s14, s15, s16⟩; go_simp; with_reducible rfl)); (focus exact pU_)))
                  refine SqOn.nil ?_
                  refine sq_ (k := 2) [(72, some 234, false), (73, some 235, false), (74, some 236, false), (75, some 237, false), (76, some 238, false), (77, some 239, false), (78, some 240, false), (79, some 241, false), (80, some 242, false), (81, some 243, false)] (bm 84 4835703278458516698824703) rfl (sq_of HT_.out HW_.out (by kernel_rfl)) (fun _ _ _ _ _ h => h) hHeld ?_
                  repeat (refine SqOn.pure (v := undef) (a' := ?_) rfl rfl (Or.inr ⟨by kernel_rfl, rfl⟩) ?_ ?_; rotate_left; (focus (first | (simp only [Act.put, List.setIfInBounds_toArray, List.set_cons_zero, List.set_cons_succ]; rfl) | rfl)))
                  refine SqOn.nil ?_
                  refine sq_ (k := 0) [(82, some 244, false), (83, some 245, false)] (bm 84 19342813113834066795298815) rfl (sq_of HT_.out HW_.out (by kernel_rfl)) (fun _ _ _ _ _ h => h) hHeld ?_
                  repeat (first | (refine SqOn.pure (v := ?_) (a' := ?_) rfl rfl (Or.inl ⟨by kernel_rfl, ?_⟩) ?_ ?_; rotate_left 2; (focus (intro w'; go_simp; with_reducible rfl)); (focus exact pU_)))
                  refine SqOn.nil ?_
                  refine done_ (done_of HT_.out (by kernel_rfl)) ?_
                  simp only [OnlyNormal]
                  try go_wp2
                  go_meet
                  case rel => exact ⟨_, (false), eQ_, H, ⟨by have := HJ11.out; have := HK2.out; have := HK3.out; first | omega | exact Nat.le_refl _⟩, ⟨by (with_reducible repeat (first | apply Kd.V_alloc | apply Kd.V_drewN | apply Kd.V_drew)); exact HO_3.out⟩, ⟨rR_ HO_6⟩, ⟨rR_ HO_8⟩, ⟨rR_ HO_10⟩, ⟨rB_ BK462⟩, ⟨bs_ HB GE462⟩⟩
                rw [if_neg c124] at H
                exact absurd H (by simp)
               rw [if_neg c89] at H
               exact absurd H (by simp)
              replace c88 := eF_ c88
              subst c88
              rw [if_neg Bool.false_ne_true] at H
              by_cases c146 : x14_3 < (t472.length : Int)
              ·rw [if_pos c146] at H
               have c146b0 := dE_ c146
               clear c146
               replace H := oB_ H
               obtain ⟨t523, A147, H⟩ := H
               by_cases c148 : (rd t472 x14_3) = t523
               ·rw [if_pos c148] at H
                have c148b0 := bH_ c148
                have c148b1 := bF_ c148
                clear c148
                replace H := oB_ H
                obtain ⟨t526, A149, H⟩ := H
                obtain rfl : t523 = t526 := Option.some.inj (A147.out.symm.trans A149.out)
                by_cases c150 : (rd t472 x14_3) < t523
                ·rw [if_pos c150] at H
                 have c150b0 := dE_ c150
                 clear c150
                 first | exact (high_bad4 H hr).elim | exact (high_bad2 H hr).elim | exact (high_bad0 H hr).elim
                rw [if_neg c150] at H
                have c150b0 := dF_ c150
                clear c150
                replace H := oB_ H
                obtain ⟨t528, A154, H⟩ := H
                by_cases c155 : t528 = true
                ·subst c155
                 rw [if_pos rfl] at H
                 by_cases c156 : x14_3 < (t476.length : Int)
                 ·rw [if_pos c156] at H
                  have c156b0 := dE_ c156
                  clear c156
                  by_cases c157 : (rd t476 x14_3) > x14_3
                  ·rw [if_pos c157] at H
                   have c157b0 := dE_ c157
                   clear c157
                   first | exact (high_bad4 H hr).elim | exact (high_bad2 H hr).elim | exact (high_bad0 H hr).elim
                  rw [if_neg c157] at H
                  have c157b0 := dF_ c157
                  clear c157
                  by_cases c162 : (rd t476 x14_3) < 0
                  ·rw [if_pos c162] at H
                   have c162b0 := dE_ c162
                   clear c162
                   first | exact (high_bad4 H hr).elim | exact (high_bad2 H hr).elim | exact (high_bad0 H hr).elim
                  rw [if_neg c162] at H
                  have c162b0 := dF_ c162
                  clear c162
                  by_cases c167 : (rd t476 x14_3) > ((rd_L4 t464 1).length : Int)
                  ·rw [if_pos c167] at H
                   have c167b0 := dE_ c167
                   clear c167
                   first | exact (high_bad4 H hr).elim | exact (high_bad2 H hr).elim | exact (high_bad0 H hr).elim
                  rw [if_neg c167] at H
                  have c167b0 := dF_ c167
                  clear c167
                  by_cases c172 : (rd t476 x14_3) < ((rd_L4 t464 1).length : Int)
                  ·rw [if_pos c172] at H
                   have c172b0 := dE_ c172
                   clear c172
                   by_cases c173 : 0 ≤ (rd t476 x14_3)
                   ·refine wp_normal_only ?_
                    clear_value *
                    as_aux_lemma =>
                     rw [if_pos c173] at H
                     have c173b0 := dE_ c173
                     clear c173
                     replace H := oB_ H
                     obtain ⟨t535, A174, H⟩ := H
                     replace H := aM_ H
                     try go_wp2
                     replace HO_3 := aM_ (Kd.V_drew HO_3.out)
                     replace HO_6 := aM_ (Kd.R_drew HO_6.out)
                     replace HO_8 := aM_ (Kd.R_drew HO_8.out)
                     replace HO_10 := aM_ (Kd.R_drew HO_10.out)
                     replace BK462 := aM_ (kD_ BK462.out)
                     replace HB := aM_ (b1_ HB.out)
                     obtain ⟨Ao176, co176, eo176⟩ := Kd.R_slice HO_10.out
                     (first | subst eo176 | (injection eo176 with f1_ f2_ f3_; have f4_ := f1_.symm; have f5_ := f3_.symm; clear f1_ f2_ f3_; subst f4_; subst f5_))
                     have p502 : 0 ≤ (x14_3 : Int) := oD_
                     have q502 : x14_3 < (x10_2.length : Int) := oD_
                     obtain ⟨ad502, e502, hx502_0⟩ := Kd.at_bool (Kd.R_reads' HO_10.out).2.2 x14_3 p502 q502
                     (try rw [← Nbq87.out] at hx502_0)
                     cases e502
                     replace p502 := eq_true p502
                     replace q502 := eq_true q502
                     obtain ⟨Ao177, co177, eo177⟩ := Kd.R_slice HO_6.out
                     (first | subst eo177 | (injection eo177 with f1_ f2_ f3_; have f4_ := f1_.symm; have f5_ := f3_.symm; clear f1_ f2_ f3_; subst f4_; subst f5_))
                     have p521 : 0 ≤ (x14_3 : Int) := oD_
                     have q521 : x14_3 < (t472.length : Int) := oD_
                     obtain ⟨ad521, e521, hx521_0⟩ := Kd.at_int (Kd.R_reads' HO_6.out).2.2 x14_3 p521 q521
                     cases e521
                     replace p521 := eq_true p521
                     replace q521 := eq_true q521
                     have p522 : 0 ≤ (x14_3 : Int) := oD_
                     have q522 : x14_3 < ((rd_L4 t464 1).length : Int) := oD_
                     obtain ⟨ad522, e522, hx522_0, hx522_1, hx522_2, hx522_3, hx522_4, hx522_5⟩ := at_T24 (Kd.V_reads' HO_3.out).2.2 x14_3 p522 q522
                     cases e522
                     replace p522 := eq_true p522
                     replace q522 := eq_true q522
                     have p524 : 0 ≤ (x14_3 : Int) := oD_
                     have q524 : x14_3 < (t472.length : Int) := oD_
                     obtain ⟨ad524, e524, hx524_0⟩ := Kd.at_int (Kd.R_reads' HO_6.out).2.2 x14_3 p524 q524
                     obtain rfl : ad521 = ad524 := (by injection e524)
                     replace p524 := eq_true p524
                     replace q524 := eq_true q524
                     have p525 : 0 ≤ (x14_3 : Int) := oD_
                     have q525 : x14_3 < ((rd_L4 t464 1).length : Int) := oD_
                     obtain ⟨ad525, e525, hx525_0, hx525_1, hx525_2, hx525_3, hx525_4, hx525_5⟩ := at_T24 (Kd.V_reads' HO_3.out).2.2 x14_3 p525 q525
                     obtain rfl : ad522 = ad525 := (by injection e525)
                     replace p525 := eq_true p525
                     replace q525 := eq_true q525
                     have p527 : 0 ≤ (x14_3 : Int) := oD_
                     have q527 : x14_3 < ((rd_L4 t464 1).length : Int) := oD_
                     obtain ⟨ad527, e527, hx527_0, hx527_1, hx527_2, hx527_3, hx527_4, hx527_5⟩ := at_T24 (Kd.V_reads' HO_3.out).2.2 x14_3 p527 q527
                     obtain rfl : ad522 = ad527 := (by injection e527)
                     replace p527 := eq_true p527
                     replace q527 := eq_true q527
                     have p529 : 0 ≤ (x14_3 : Int) := oD_
                     have q529 : x14_3 < (t476.length : Int) := oD_
                     obtain ⟨AoZ15, coZ15, eoZ15⟩ := Kd.R_slice HO_8.out
                     subst eoZ15
                     obtain ⟨ad529, e529, hx529_0⟩ := Kd.at_int (Kd.R_reads' HO_8.out).2.2 x14_3 p529 q529
                     cases e529
                     replace p529 := eq_true p529
                     replace q529 := eq_true q529
                     have p530 : 0 ≤ (x14_3 : Int) := oD_
                     have q530 : x14_3 < (t476.length : Int) := oD_
                     obtain ⟨ad530, e530, hx530_0⟩ := Kd.at_int (Kd.R_reads' HO_8.out).2.2 x14_3 p530 q530
                     obtain rfl : ad529 = ad530 := (by injection e530)
                     replace p530 := eq_true p530
                     replace q530 := eq_true q530
                     have p531 : 0 ≤ (x14_3 : Int) := oD_
                     have q531 : x14_3 < (t476.length : Int) := oD_
                     obtain ⟨ad531, e531, hx531_0⟩ := Kd.at_int (Kd.R_reads' HO_8.out).2.2 x14_3 p531 q531
                     obtain rfl : ad529 = ad531 := (by injection e531)
                     replace p531 := eq_true p531
                     replace q531 := eq_true q531
                     have p532 : 0 ≤ (x14_3 : Int) := oD_
                     have q532 : x14_3 < (t476.length : Int) := oD_
                     obtain ⟨ad532, e532, hx532_0⟩ := Kd.at_int (Kd.R_reads' HO_8.out).2.2 x14_3 p532 q532
                     obtain rfl : ad529 = ad532 := (by injection e532)
                     replace p532 := eq_true p532
                     replace q532 := eq_true q532
                     have p533 : 0 ≤ (x14_3 : Int) := oD_
                     have q533 : x14_3 < (t476.length : Int) := oD_
                     obtain ⟨ad533, e533, hx533_0⟩ := Kd.at_int (Kd.R_reads' HO_8.out).2.2 x14_3 p533 q533
                     obtain rfl : ad529 = ad533 := (by injection e533)
                     replace p533 := eq_true p533
                     replace q533 := eq_true q533
                     have p534 : 0 ≤ ((rd t476 x14_3) : Int) := oD_
                     have q534 : (rd t476 x14_3) < ((rd_L4 t464 1).length : Int) := oD_
                     obtain ⟨ad534, e534, hx534_0, hx534_1, hx534_2, hx534_3, hx534_4, hx534_5⟩ := at_T24 (Kd.V_reads' HO_3.out).2.2 (rd t476 x14_3) p534 q534
                     obtain rfl : ad522 = ad534 := (by injection e534)
                     replace p534 := eq_true p534
                     replace q534 := eq_true q534
                     refine start_ (n := 84) (S := fun w' => w'.cell? (ad502.add (x14_3).toNat) = some (.bool false) ∧ w'.cell? (ad521.add (x14_3).toNat) = some (.int .i64 (rd t472 x14_3)) ∧ w'.cell? (ad522.add ((x14_3).toNat * 6)) = some (.int .i64 ((J24 (rd_L4 t464 1) x14_3).f0)) ∧ w'.cell? ⟨(ad522.add ((x14_3).toNat * 6)).block, (ad522.add ((x14_3).toNat * 6)).off + 1, none⟩ = some (.int .i64 ((J24 (rd_L4 t464 1) x14_3).f1)) ∧ w'.cell? ⟨(ad522.add ((x14_3).toNat * 6)).block, (ad522.add ((x14_3).toNat * 6)).off + 2, none⟩ = some (.int .i64 ((J24 (rd_L4 t464 1) x14_3).f2)) ∧ w'.cell? ⟨(ad522.add ((x14_3).toNat * 6)).block, (ad522.add ((x14_3).toNat * 6)).off + 3, none⟩ = some (.int .i64 ((J24 (rd_L4 t464 1) x14_3).f3)) ∧ w'.cell? ⟨(ad522.add ((x14_3).toNat * 6)).block, (ad522.add ((x14_3).toNat * 6)).off + 4, none⟩ = some (.int .i64 ((J24 (rd_L4 t464 1) x14_3).f4)) ∧ w'.cell? ⟨(ad522.add ((x14_3).toNat * 6)).block, (ad522.add ((x14_3).toNat * 6)).off + 5, none⟩ = some (.string ((J24 (rd_L4 t464 1) x14_3).f5)) ∧ w'.cell? (ad521.add (x14_3).toNat) = some (.int .i64 (rd t472 x14_3)) ∧ w'.cell? (ad522.add ((x14_3).toNat * 6)) = some (.int .i64 ((J24 (rd_L4 t464 1) x14_3).f0)) ∧ w'.cell? ⟨(ad522.add ((x14_3).toNat * 6)).block, (ad522.add ((x14_3).toNat * 6)).off + 1, none⟩ = some (.int .i64 ((J24 (rd_L4 t464 1) x14_3).f1)) ∧ w'.cell? ⟨(ad522.add ((x14_3).toNat * 6)).block, (ad522.add ((x14_3).toNat * 6)).off + 2, none⟩ = some (.int .i64 ((J24 (rd_L4 t464 1) x14_3).f2)) ∧ w'.cell? ⟨(ad522.add ((x14_3).toNat * 6)).block, (ad522.add ((x14_3).toNat * 6)).off + 3, none⟩ = some (.int .i64 ((J24 (rd_L4 t464 1) x14_3).f3)) ∧ w'.cell? ⟨(ad522.add ((x14_3).toNat * 6)).block, (ad522.add ((x14_3).toNat * 6)).off + 4, none⟩ = some (.int .i64 ((J24 (rd_L4 t464 1) x14_3).f4)) ∧ w'.cell? ⟨(ad522.add ((x14_3).toNat * 6)).block, (ad522.add ((x14_3).toNat * 6)).off + 5, none⟩ = some (.string ((J24 (rd_L4 t464 1) x14_3).f5)) ∧ w'.cell? (ad522.add ((x14_3).toNat * 6)) = some (.int .i64 ((J24 (rd_L4 t464 1) x14_3).f0)) ∧ w'.cell? ⟨(ad522.add ((x14_3).toNat * 6)).block, (ad522.add ((x14_3).toNat * 6)).off + 1, none⟩ = some (.int .i64 ((J24 (rd_L4 t464 1) x14_3).f1)) ∧ w'.cell? ⟨(ad522.add ((x14_3).toNat * 6)).block, (ad522.add ((x14_3).toNat * 6)).off + 2, none⟩ = some (.int .i64 ((J24 (rd_L4 t464 1) x14_3).f2)) ∧ w'.cell? ⟨(ad522.add ((x14_3).toNat * 6)).block, (ad522.add ((x14_3).toNat * 6)).off + 3, none⟩ = some (.int .i64 ((J24 (rd_L4 t464 1) x14_3).f3)) ∧ w'.cell? ⟨(ad522.add ((x14_3).toNat * 6)).block, (ad522.add ((x14_3).toNat * 6)).off + 4, none⟩ = some (.int .i64 ((J24 (rd_L4 t464 1) x14_3).f4)) ∧ w'.cell? ⟨(ad522.add ((x14_3).toNat * 6)).block, (ad522.add ((x14_3).toNat * 6)).off + 5, none⟩ = some (.string ((J24 (rd_L4 t464 1) x14_3).f5)) ∧ w'.cell? (ad529.add (x14_3).toNat) = some (.int .i64 (rd t476 x14_3)) ∧ w'.cell? (ad529.add (x14_3).toNat) = some (.int .i64 (rd t476 x14_3)) ∧ w'.cell? (ad529.add (x14_3).toNat) = some (.int .i64 (rd t476 x14_3)) ∧ w'.cell? (ad529.add (x14_3).toNat) = some (.int .i64 (rd t476 x14_3)) ∧ w'.cell? (ad529.add (x14_3).toNat) = some (.int .i64 (rd t476 x14_3)) ∧ w'.cell? (ad522.add (((rd t476 x14_3)).toNat * 6)) = some (.int .i64 ((J24 (rd_L4 t464 1) (rd t476 x14_3)).f0)) ∧ w'.cell? ⟨(ad522.add (((rd t476 x14_3)).toNat * 6)).block, (ad522.add (((rd t476 x14_3)).toNat * 6)).off + 1, none⟩ = some (.int .i64 ((J24 (rd_L4 t464 1) (rd t476 x14_3)).f1)) ∧ w'.cell? ⟨(ad522.add (((rd t476 x14_3)).toNat * 6)).block, (ad522.add (((rd t476 x14_3)).toNat * 6)).off + 2, none⟩ = some (.int .i64 ((J24 (rd_L4 t464 1) (rd t476 x14_3)).f2)) ∧ w'.cell? ⟨(ad522.add (((rd t476 x14_3)).toNat * 6)).block, (ad522.add (((rd t476 x14_3)).toNat * 6)).off + 3, none⟩ = some (.int .i64 ((J24 (rd_L4 t464 1) (rd t476 x14_3)).f3)) ∧ w'.cell? ⟨(ad522.add (((rd t476 x14_3)).toNat * 6)).block, (ad522.add (((rd t476 x14_3)).toNat * 6)).off + 4, none⟩ = some (.int .i64 ((J24 (rd_L4 t464 1) (rd t476 x14_3)).f4)) ∧ w'.cell? ⟨(ad522.add (((rd t476 x14_3)).toNat * 6)).block, (ad522.add (((rd t476 x14_3)).toNat * 6)).off + 5, none⟩ = some (.string ((J24 (rd_L4 t464 1) (rd t476 x14_3)).f5))) (ds := []) (bm 84 0) (by kernel_rfl) rfl (by kernel_rfl) ⟨hx502_0, hx521_0, hx522_0, hx522_1, hx522_2, hx522_3, hx522_4, hx522_5, hx524_0, hx525_0, hx525_1, hx525_2, hx525_3, hx525_4, hx525_5, hx527_0, hx527_1, hx527_2, hx527_3, hx527_4, hx527_5, hx529_0, hx530_0, hx531_0, hx532_0, hx533_0, hx534_0, hx534_1, hx534_2, hx534_3, hx534_4, hx534_5⟩ (fun hHeld => ?_); refine with_tabW w14_DagHigh.tab20 w14_DagHigh.bits20 (fun HT_ HW_ => ?_)
                     generalize wr.drew = w175 at HO_3 HO_6 HO_8 HO_10 BK462 HB hx502_0 hx521_0 hx522_0 hx522_1 hx522_2 hx522_3 hx522_4 hx522_5 hx524_0 hx525_0 hx525_1 hx525_2 hx525_3 hx525_4 hx525_5 hx527_0 hx527_1 hx527_2 hx527_3 hx527_4 hx527_5 hx529_0 hx530_0 hx531_0 hx532_0 hx533_0 hx534_0 hx534_1 hx534_2 hx534_3 hx534_4 hx534_5 hHeld ⊢
                     refine sq_ (k := 69) [(0, some 162, false), (1, some 163, false), (2, some 164, false), (3, some 165, true), (4, some 166, false), (5, some 167, false), (6, some 168, false), (7, some 169, false), (8, some 170, false), (10, some 172, false), (11, some 173, false), (12, some 174, false), (13, some 175, false), (9, some 171, true), (14, some 176, true)] (bm 84 32767) rfl (sq_of HT_.out HW_.out (by kernel_rfl)) (fun _ _ _ _ _ h => h) hHeld ?_
                     repeat (first | (refine SqOn.pure (v := ?_) (a' := ?_) rfl rfl (Or.inl ⟨by kernel_rfl, ?_⟩) ?_ ?_; rotate_left 2; (focus (intro w'; go_simp; with_reducible rfl)); (focus exact pU_)) | (refine SqOn.take (v := ?_) (a' := ?_) rfl rfl (Or.inl ⟨by kernel_rfl, ?_⟩) ?_ ?_; rotate_left 2; (focus (rintro w' ⟨s0, s1, s2, s3, s4, s5, s6, s7, s8, s9, s10, s11, s12, s13, s14, s15, s16, s17, s18, s19, s20, s21, s22, s23, s24, s25, s26, s27, s28, s29, s30, s31⟩; go_simp; with_reducible rfl)); (focus exact pU_)))
                     refine SqOn.nil ?_
                     refine one_ (i := 15) (N := some 177) (bm 84 65535) rfl rfl (one_of HT_.out (by kernel_rfl)) (by decide) (fun K hK => ?_)
                     refine gO_ Try.func27 #[.int .i64 ((J24 (rd_L4 t464 1) x14_3).f0)] rfl ?_
                     with_reducible refine (r3_Latency.calls k3 ((J24 (rd_L4 t464 1) x14_3).f0) t523 _ A147.out).mono ?_
                     rintro e w' ⟨rfl, ⟨nd, rfl⟩⟩
                     refine ⟨_, rfl, ?_⟩
                     refine hK.out _ _ ⟨hHeld.1, hHeld.2.1, hHeld.2.2.1, hHeld.2.2.2.1, hHeld.2.2.2.2.1, hHeld.2.2.2.2.2.1, hHeld.2.2.2.2.2.2.1, hHeld.2.2.2.2.2.2.2.1, hHeld.2.2.2.2.2.2.2.2.1, hHeld.2.2.2.2.2.2.2.2.2.1, hHeld.2.2.2.2.2.2.2.2.2.2.1, hHeld.2.2.2.2.2.2.2.2.2.2.2.1, hHeld.2.2.2.2.2.2.2.2.2.2.2.2.1, hHeld.2.2.2.2.2.2.2.2.2.2.2.2.2.1, hHeld.2.2.2.2.2.2.2.2.2.2.2.2.2.2.1, hHeld.2.2.2.2.2.2.2.2.2.2.2.2.2.2.2.1, hHeld.2.2.2.2.2.2.2.2.2.2.2.2.2.2.2.2.1, hHeld.2.2.2.2.2.2.2.2.2.2.2.2.2.2.2.2.2.1, hHeld.2.2.2.2.2.2.2.2.2.2.2.2.2.2.2.2.2.2.1, hHeld.2.2.2.2.2.2.2.2.2.2.2.2.2.2.2.2.2.2.2.1, hHeld.2.2.2.2.2.2.2.2.2.2.2.2.2.2.2.2.2.2.2.2.1, hHeld.2.2.2.2.2.2.2.2.2.2.2.2.2.2.2.2.2.2.2.2.2.1, hHeld.2.2.2.2.2.2.2.2.2.2.2.2.2.2.2.2.2.2.2.2.2.2.1, hHeld.2.2.2.2.2.2.2.2.2.2.2.2.2.2.2.2.2.2.2.2.2.2.2.1, hHeld.2.2.2.2.2.2.2.2.2.2.2.2.2.2.2.2.2.2.2.2.2.2.2.2.1, hHeld.2.2.2.2.2.2.2.2.2.2.2.2.2.2.2.2.2.2.2.2.2.2.2.2.2.1, hHeld.2.2.2.2.2.2.2.2.2.2.2.2.2.2.2.2.2.2.2.2.2.2.2.2.2.2.1, hHeld.2.2.2.2.2.2.2.2.2.2.2.2.2.2.2.2.2.2.2.2.2.2.2.2.2.2.2.1, hHeld.2.2.2.2.2.2.2.2.2.2.2.2.2.2.2.2.2.2.2.2.2.2.2.2.2.2.2.2.1, hHeld.2.2.2.2.2.2.2.2.2.2.2.2.2.2.2.2.2.2.2.2.2.2.2.2.2.2.2.2.2.1, hHeld.2.2.2.2.2.2.2.2.2.2.2.2.2.2.2.2.2.2.2.2.2.2.2.2.2.2.2.2.2.2.1, hHeld.2.2.2.2.2.2.2.2.2.2.2.2.2.2.2.2.2.2.2.2.2.2.2.2.2.2.2.2.2.2.2⟩ (fun hHeld => ?_)
                     clear hK K
                     refine norm_ (a' := ?_) ?_ ?_
                     rotate_left
                     ·show Act.put _ (some 177) _ = _
                      simp only [Act.put, List.setIfInBounds_toArray, List.set_cons_zero, List.set_cons_succ, i64_w, i32_w]
                      rfl
                     refine sq_ (k := 56) [(16, some 178, false), (17, some 179, false), (18, some 180, false), (19, some 181, false), (20, some 182, false), (21, some 183, false), (23, some 185, false), (24, some 186, false), (25, some 187, false), (26, some 188, false), (22, some 184, true), (27, some 189, true)] (bm 84 268435455) rfl (sq_of HT_.out HW_.out (by kernel_rfl)) (fun _ _ _ _ _ h => h) hHeld ?_
                     repeat (first | (refine SqOn.pure (v := ?_) (a' := ?_) rfl rfl (Or.inl ⟨by kernel_rfl, ?_⟩) ?_ ?_; rotate_left 2; (focus (intro w'; go_simp; with_reducible rfl)); (focus exact pU_)) | (refine SqOn.take (v := ?_) (a' := ?_) rfl rfl (Or.inl ⟨by kernel_rfl, ?_⟩) ?_ ?_; rotate_left 2; (focus (rintro w' ⟨s0, s1, s2, s3, s4, s5, s6, s7, s8, s9, s10, s11, s12, s13, s14, s15, s16, s17, s18, s19, s20, s21, s22, s23, s24, s25, s26, s27, s28, s29, s30, s31⟩; go_simp; with_reducible rfl)); (focus exact pU_)))
                     refine SqOn.nil ?_
                     refine one_ (i := 28) (N := some 190) (bm 84 536870911) rfl rfl (one_of HT_.out (by kernel_rfl)) (by decide) (fun K hK => ?_)
                     refine gO_ Try.func27 #[.int .i64 ((J24 (rd_L4 t464 1) x14_3).f0)] rfl ?_
                     with_reducible refine (r3_Latency.calls k3 ((J24 (rd_L4 t464 1) x14_3).f0) t523 _ A149.out).mono ?_
                     rintro e w' ⟨rfl, ⟨nd, rfl⟩⟩
                     refine ⟨_, rfl, ?_⟩
                     refine hK.out _ _ ⟨hHeld.1, hHeld.2.1, hHeld.2.2.1, hHeld.2.2.2.1, hHeld.2.2.2.2.1, hHeld.2.2.2.2.2.1, hHeld.2.2.2.2.2.2.1, hHeld.2.2.2.2.2.2.2.1, hHeld.2.2.2.2.2.2.2.2.1, hHeld.2.2.2.2.2.2.2.2.2.1, hHeld.2.2.2.2.2.2.2.2.2.2.1, hHeld.2.2.2.2.2.2.2.2.2.2.2.1, hHeld.2.2.2.2.2.2.2.2.2.2.2.2.1, hHeld.2.2.2.2.2.2.2.2.2.2.2.2.2.1, hHeld.2.2.2.2.2.2.2.2.2.2.2.2.2.2.1, hHeld.2.2.2.2.2.2.2.2.2.2.2.2.2.2.2.1, hHeld.2.2.2.2.2.2.2.2.2.2.2.2.2.2.2.2.1, hHeld.2.2.2.2.2.2.2.2.2.2.2.2.2.2.2.2.2.1, hHeld.2.2.2.2.2.2.2.2.2.2.2.2.2.2.2.2.2.2.1, hHeld.2.2.2.2.2.2.2.2.2.2.2.2.2.2.2.2.2.2.2.1, hHeld.2.2.2.2.2.2.2.2.2.2.2.2.2.2.2.2.2.2.2.2.1, hHeld.2.2.2.2.2.2.2.2.2.2.2.2.2.2.2.2.2.2.2.2.2.1, hHeld.2.2.2.2.2.2.2.2.2.2.2.2.2.2.2.2.2.2.2.2.2.2.1, hHeld.2.2.2.2.2.2.2.2.2.2.2.2.2.2.2.2.2.2.2.2.2.2.2.1, hHeld.2.2.2.2.2.2.2.2.2.2.2.2.2.2.2.2.2.2.2.2.2.2.2.2.1, hHeld.2.2.2.2.2.2.2.2.2.2.2.2.2.2.2.2.2.2.2.2.2.2.2.2.2.1, hHeld.2.2.2.2.2.2.2.2.2.2.2.2.2.2.2.2.2.2.2.2.2.2.2.2.2.2.1, hHeld.2.2.2.2.2.2.2.2.2.2.2.2.2.2.2.2.2.2.2.2.2.2.2.2.2.2.2.1, hHeld.2.2.2.2.2.2.2.2.2.2.2.2.2.2.2.2.2.2.2.2.2.2.2.2.2.2.2.2.1, hHeld.2.2.2.2.2.2.2.2.2.2.2.2.2.2.2.2.2.2.2.2.2.2.2.2.2.2.2.2.2.1, hHeld.2.2.2.2.2.2.2.2.2.2.2.2.2.2.2.2.2.2.2.2.2.2.2.2.2.2.2.2.2.2.1, hHeld.2.2.2.2.2.2.2.2.2.2.2.2.2.2.2.2.2.2.2.2.2.2.2.2.2.2.2.2.2.2.2⟩ (fun hHeld => ?_)
                     clear hK K
                     refine norm_ (a' := ?_) ?_ ?_
                     rotate_left
                     ·show Act.put _ (some 190) _ = _
                      simp only [Act.put, List.setIfInBounds_toArray, List.set_cons_zero, List.set_cons_succ, i64_w, i32_w]
                      rfl
                     refine sq_ (k := 47) [(29, some 191, false), (30, some 192, false), (31, some 193, false), (32, some 194, false), (33, some 195, false), (34, some 196, false), (35, some 197, false), (36, some 198, true)] (bm 84 137438953471) rfl (sq_of HT_.out HW_.out (by kernel_rfl)) (fun _ _ _ _ _ h => h) hHeld ?_
                     repeat (first | (refine SqOn.pure (v := ?_) (a' := ?_) rfl rfl (Or.inl ⟨by kernel_rfl, ?_⟩) ?_ ?_; rotate_left 2; (focus (intro w'; go_simp; with_reducible rfl)); (focus exact pU_)) | (refine SqOn.take (v := ?_) (a' := ?_) rfl rfl (Or.inl ⟨by kernel_rfl, ?_⟩) ?_ ?_; rotate_left 2; (focus (rintro w' ⟨s0, s1, s2, s3, s4, s5, s6, s7, s8, s9, s10, s11, s12, s13, s14, s15, s16, s17, s18, s19, s20, s21, s22, s23, s24, s25, s26, s27, s28, s29, s30, s31⟩; go_simp; with_reducible rfl)); (focus exact pU_)))
                     refine SqOn.nil ?_
                     refine one_ (i := 37) (N := some 199) (bm 84 274877906943) rfl rfl (one_of HT_.out (by kernel_rfl)) (by decide) (fun K hK => ?_)
                     refine gO_ Try.func36 #[.int .i64 ((J24 (rd_L4 t464 1) x14_3).f0)] rfl ?_
                     with_reducible refine (r3_Effect.calls ((J24 (rd_L4 t464 1) x14_3).f0) true _ A154.out).mono ?_
                     rintro e w' ⟨rfl, ⟨nd, rfl⟩⟩
                     refine ⟨_, rfl, ?_⟩
                     obtain ⟨Ao178, co178, eo178⟩ := Kd.R_slice HO_8.out
                     (first | subst eo178 | (injection eo178 with f1_ f2_ f3_; have f4_ := f1_.symm; have f5_ := f3_.symm; clear f1_ f2_ f3_; subst f4_; subst f5_))
                     refine hK.out _ _ ⟨hHeld.1, hHeld.2.1, hHeld.2.2.1, hHeld.2.2.2.1, hHeld.2.2.2.2.1, hHeld.2.2.2.2.2.1, hHeld.2.2.2.2.2.2.1, hHeld.2.2.2.2.2.2.2.1, hHeld.2.2.2.2.2.2.2.2.1, hHeld.2.2.2.2.2.2.2.2.2.1, hHeld.2.2.2.2.2.2.2.2.2.2.1, hHeld.2.2.2.2.2.2.2.2.2.2.2.1, hHeld.2.2.2.2.2.2.2.2.2.2.2.2.1, hHeld.2.2.2.2.2.2.2.2.2.2.2.2.2.1, hHeld.2.2.2.2.2.2.2.2.2.2.2.2.2.2.1, hHeld.2.2.2.2.2.2.2.2.2.2.2.2.2.2.2.1, hHeld.2.2.2.2.2.2.2.2.2.2.2.2.2.2.2.2.1, hHeld.2.2.2.2.2.2.2.2.2.2.2.2.2.2.2.2.2.1, hHeld.2.2.2.2.2.2.2.2.2.2.2.2.2.2.2.2.2.2.1, hHeld.2.2.2.2.2.2.2.2.2.2.2.2.2.2.2.2.2.2.2.1, hHeld.2.2.2.2.2.2.2.2.2.2.2.2.2.2.2.2.2.2.2.2.1, hHeld.2.2.2.2.2.2.2.2.2.2.2.2.2.2.2.2.2.2.2.2.2.1, hHeld.2.2.2.2.2.2.2.2.2.2.2.2.2.2.2.2.2.2.2.2.2.2.1, hHeld.2.2.2.2.2.2.2.2.2.2.2.2.2.2.2.2.2.2.2.2.2.2.2.1, hHeld.2.2.2.2.2.2.2.2.2.2.2.2.2.2.2.2.2.2.2.2.2.2.2.2.1, hHeld.2.2.2.2.2.2.2.2.2.2.2.2.2.2.2.2.2.2.2.2.2.2.2.2.2.1, hHeld.2.2.2.2.2.2.2.2.2.2.2.2.2.2.2.2.2.2.2.2.2.2.2.2.2.2.1, hHeld.2.2.2.2.2.2.2.2.2.2.2.2.2.2.2.2.2.2.2.2.2.2.2.2.2.2.2.1, hHeld.2.2.2.2.2.2.2.2.2.2.2.2.2.2.2.2.2.2.2.2.2.2.2.2.2.2.2.2.1, hHeld.2.2.2.2.2.2.2.2.2.2.2.2.2.2.2.2.2.2.2.2.2.2.2.2.2.2.2.2.2.1, hHeld.2.2.2.2.2.2.2.2.2.2.2.2.2.2.2.2.2.2.2.2.2.2.2.2.2.2.2.2.2.2.1, hHeld.2.2.2.2.2.2.2.2.2.2.2.2.2.2.2.2.2.2.2.2.2.2.2.2.2.2.2.2.2.2.2⟩ (fun hHeld => ?_)
                     clear hK K
                     refine norm_ (a' := ?_) ?_ ?_
                     rotate_left
                     ·show Act.put _ (some 199) _ = _
                      simp only [Act.put, List.setIfInBounds_toArray, List.set_cons_zero, List.set_cons_succ, i64_w, i32_w]
                      rfl
                     refine sq_ (k := 4) [(38, some 200, false), (39, some 201, false), (40, some 202, false), (41, some 203, false), (43, some 205, false), (42, some 204, true), (44, some 206, false), (45, some 207, false), (46, some 208, false), (47, some 209, false), (48, some 210, false), (49, some 211, false), (50, some 212, false), (51, some 213, true), (52, some 214, false), (53, some 215, false), (54, some 216, false), (55, some 217, false), (56, some 218, false), (57, some 219, false), (59, some 221, false), (60, some 222, false), (58, some 220, true), (61, some 223, false), (62, some 224, false), (63, some 225, false), (64, some 226, false), (65, some 227, false), (66, some 228, false), (68, some 230, false), (69, some 231, false), (67, some 229, true), (70, some 232, false), (71, some 233, false), (72, some 234, false), (73, some 235, false), (74, some 236, false), (75, some 237, false), (76, some 238, true), (77, some 239, false), (78, some 240, false), (79, some 241, true)] (bm 84 1208925819614629174706175) rfl (sq_of HT_.out HW_.out (by kernel_rfl)) (fun _ _ _ _ _ h => h) hHeld ?_
                     repeat (first | (refine SqOn.pure (v := ?_) (a' := ?_) rfl rfl (Or.inl ⟨by kernel_rfl, ?_⟩) ?_ ?_; rotate_left 2; (focus (intro w'; go_simp; with_reducible rfl)); (focus exact pU_)) | (refine SqOn.take (v := ?_) (a' := ?_) rfl rfl (Or.inl ⟨by kernel_rfl, ?_⟩) ?_ ?_; rotate_left 2; (focus (rintro w' ⟨s0, s1, s2, s3, s4, s5, s6, s7, s8, s9, s10, s11, s12, s13, s14, s15, s16, s17, s18, s19, s20, s21, s22, s23, s24, s25, s26, s27, s28, s29, s30, s31⟩; go_simp; with_reducible rfl)); (focus exact pU_)))
                     refine SqOn.nil ?_
                     refine one_ (i := 80) (N := some 242) (bm 84 2417851639229258349412351) rfl rfl (one_of HT_.out (by kernel_rfl)) (by decide) (fun K hK => ?_)
                     refine gO_ Try.func36 #[.int .i64 ((J24 (rd_L4 t464 1) (rd t476 x14_3)).f0)] rfl ?_
                     with_reducible refine (r3_Effect.calls ((J24 (rd_L4 t464 1) (rd t476 x14_3)).f0) t535 _ A174.out).mono ?_
                     rintro e w' ⟨rfl, ⟨nd, rfl⟩⟩
                     refine ⟨_, rfl, ?_⟩
                     refine hK.out _ _ ⟨hHeld.1, hHeld.2.1, hHeld.2.2.1, hHeld.2.2.2.1, hHeld.2.2.2.2.1, hHeld.2.2.2.2.2.1, hHeld.2.2.2.2.2.2.1, hHeld.2.2.2.2.2.2.2.1, hHeld.2.2.2.2.2.2.2.2.1, hHeld.2.2.2.2.2.2.2.2.2.1, hHeld.2.2.2.2.2.2.2.2.2.2.1, hHeld.2.2.2.2.2.2.2.2.2.2.2.1, hHeld.2.2.2.2.2.2.2.2.2.2.2.2.1, hHeld.2.2.2.2.2.2.2.2.2.2.2.2.2.1, hHeld.2.2.2.2.2.2.2.2.2.2.2.2.2.2.1, hHeld.2.2.2.2.2.2.2.2.2.2.2.2.2.2.2.1, hHeld.2.2.2.2.2.2.2.2.2.2.2.2.2.2.2.2.1, hHeld.2.2.2.2.2.2.2.2.2.2.2.2.2.2.2.2.2.1, hHeld.2.2.2.2.2.2.2.2.2.2.2.2.2.2.2.2.2.2.1, hHeld.2.2.2.2.2.2.2.2.2.2.2.2.2.2.2.2.2.2.2.1, hHeld.2.2.2.2.2.2.2.2.2.2.2.2.2.2.2.2.2.2.2.2.1, hHeld.2.2.2.2.2.2.2.2.2.2.2.2.2.2.2.2.2.2.2.2.2.1, hHeld.2.2.2.2.2.2.2.2.2.2.2.2.2.2.2.2.2.2.2.2.2.2.1, hHeld.2.2.2.2.2.2.2.2.2.2.2.2.2.2.2.2.2.2.2.2.2.2.2.1, hHeld.2.2.2.2.2.2.2.2.2.2.2.2.2.2.2.2.2.2.2.2.2.2.2.2.1, hHeld.2.2.2.2.2.2.2.2.2.2.2.2.2.2.2.2.2.2.2.2.2.2.2.2.2.1, hHeld.2.2.2.2.2.2.2.2.2.2.2.2.2.2.2.2.2.2.2.2.2.2.2.2.2.2.1, hHeld.2.2.2.2.2.2.2.2.2.2.2.2.2.2.2.2.2.2.2.2.2.2.2.2.2.2.2.1, hHeld.2.2.2.2.2.2.2.2.2.2.2.2.2.2.2.2.2.2.2.2.2.2.2.2.2.2.2.2.1, hHeld.2.2.2.2.2.2.2.2.2.2.2.2.2.2.2.2.2.2.2.2.2.2.2.2.2.2.2.2.2.1, hHeld.2.2.2.2.2.2.2.2.2.2.2.2.2.2.2.2.2.2.2.2.2.2.2.2.2.2.2.2.2.2.1, hHeld.2.2.2.2.2.2.2.2.2.2.2.2.2.2.2.2.2.2.2.2.2.2.2.2.2.2.2.2.2.2.2⟩ (fun hHeld => ?_)
                     clear hK K
                     refine norm_ (a' := ?_) ?_ ?_
                     rotate_left
                     ·show Act.put _ (some 242) _ = _
                      simp only [Act.put, List.setIfInBounds_toArray, List.set_cons_zero, List.set_cons_succ, i64_w, i32_w]
                      rfl
                     refine sq_ (k := 0) [(81, some 243, false), (82, some 244, false), (83, some 245, false)] (bm 84 19342813113834066795298815) rfl (sq_of HT_.out HW_.out (by kernel_rfl)) (fun _ _ _ _ _ h => h) hHeld ?_
                     repeat (first | (refine SqOn.pure (v := ?_) (a' := ?_) rfl rfl (Or.inl ⟨by kernel_rfl, ?_⟩) ?_ ?_; rotate_left 2; (focus (intro w'; go_simp; with_reducible rfl)); (focus exact pU_)))
                     refine SqOn.nil ?_
                     refine done_ (done_of HT_.out (by kernel_rfl)) ?_
                     simp only [OnlyNormal]
                     try go_wp2
                     go_meet
                     case rel => exact ⟨_, (!t535), eQ_, H, ⟨by have := HJ11.out; have := HK2.out; have := HK3.out; first | omega | exact Nat.le_refl _⟩, ⟨by (with_reducible repeat (first | apply Kd.V_alloc | apply Kd.V_drewN | apply Kd.V_drew)); exact HO_3.out⟩, ⟨rR_ HO_6⟩, ⟨rR_ HO_8⟩, ⟨rR_ HO_10⟩, ⟨rB_ BK462⟩, ⟨bs_ HB GE462⟩⟩
                   rw [if_neg c173] at H
                   exact absurd H (by simp)
                  refine wp_normal_only ?_
                  clear_value *
                  as_aux_lemma =>
                   rw [if_neg c172] at H
                   have c172b0 := dF_ c172
                   clear c172
                   replace H := aM_ H
                   try go_wp2
                   replace HO_3 := aM_ (Kd.V_drew HO_3.out)
                   replace HO_6 := aM_ (Kd.R_drew HO_6.out)
                   replace HO_8 := aM_ (Kd.R_drew HO_8.out)
                   replace HO_10 := aM_ (Kd.R_drew HO_10.out)
                   replace BK462 := aM_ (kD_ BK462.out)
                   replace HB := aM_ (b1_ HB.out)
                   obtain ⟨Ao180, co180, eo180⟩ := Kd.R_slice HO_10.out
                   (first | subst eo180 | (injection eo180 with f1_ f2_ f3_; have f4_ := f1_.symm; have f5_ := f3_.symm; clear f1_ f2_ f3_; subst f4_; subst f5_))
                   have p502 : 0 ≤ (x14_3 : Int) := oD_
                   have q502 : x14_3 < (x10_2.length : Int) := oD_
                   obtain ⟨ad502, e502, hx502_0⟩ := Kd.at_bool (Kd.R_reads' HO_10.out).2.2 x14_3 p502 q502
                   (try rw [← Nbq87.out] at hx502_0)
                   cases e502
                   replace p502 := eq_true p502
                   replace q502 := eq_true q502
                   obtain ⟨Ao181, co181, eo181⟩ := Kd.R_slice HO_6.out
                   (first | subst eo181 | (injection eo181 with f1_ f2_ f3_; have f4_ := f1_.symm; have f5_ := f3_.symm; clear f1_ f2_ f3_; subst f4_; subst f5_))
                   have p521 : 0 ≤ (x14_3 : Int) := oD_
                   have q521 : x14_3 < (t472.length : Int) := oD_
                   obtain ⟨ad521, e521, hx521_0⟩ := Kd.at_int (Kd.R_reads' HO_6.out).2.2 x14_3 p521 q521
                   cases e521
                   replace p521 := eq_true p521
                   replace q521 := eq_true q521
                   have p522 : 0 ≤ (x14_3 : Int) := oD_
                   have q522 : x14_3 < ((rd_L4 t464 1).length : Int) := oD_
                   obtain ⟨ad522, e522, hx522_0, hx522_1, hx522_2, hx522_3, hx522_4, hx522_5⟩ := at_T24 (Kd.V_reads' HO_3.out).2.2 x14_3 p522 q522
                   cases e522
                   replace p522 := eq_true p522
                   replace q522 := eq_true q522
                   have p524 : 0 ≤ (x14_3 : Int) := oD_
                   have q524 : x14_3 < (t472.length : Int) := oD_
                   obtain ⟨ad524, e524, hx524_0⟩ := Kd.at_int (Kd.R_reads' HO_6.out).2.2 x14_3 p524 q524
                   obtain rfl : ad521 = ad524 := (by injection e524)
                   replace p524 := eq_true p524
                   replace q524 := eq_true q524
                   have p525 : 0 ≤ (x14_3 : Int) := oD_
                   have q525 : x14_3 < ((rd_L4 t464 1).length : Int) := oD_
                   obtain ⟨ad525, e525, hx525_0, hx525_1, hx525_2, hx525_3, hx525_4, hx525_5⟩ := at_T24 (Kd.V_reads' HO_3.out).2.2 x14_3 p525 q525
                   obtain rfl : ad522 = ad525 := (by injection e525)
                   replace p525 := eq_true p525
                   replace q525 := eq_true q525
                   have p527 : 0 ≤ (x14_3 : Int) := oD_
                   have q527 : x14_3 < ((rd_L4 t464 1).length : Int) := oD_
                   obtain ⟨ad527, e527, hx527_0, hx527_1, hx527_2, hx527_3, hx527_4, hx527_5⟩ := at_T24 (Kd.V_reads' HO_3.out).2.2 x14_3 p527 q527
                   obtain rfl : ad522 = ad527 := (by injection e527)
                   replace p527 := eq_true p527
                   replace q527 := eq_true q527
                   have p529 : 0 ≤ (x14_3 : Int) := oD_
                   have q529 : x14_3 < (t476.length : Int) := oD_
                   obtain ⟨AoZ16, coZ16, eoZ16⟩ := Kd.R_slice HO_8.out
                   subst eoZ16
                   obtain ⟨ad529, e529, hx529_0⟩ := Kd.at_int (Kd.R_reads' HO_8.out).2.2 x14_3 p529 q529
                   cases e529
                   replace p529 := eq_true p529
                   replace q529 := eq_true q529
                   have p530 : 0 ≤ (x14_3 : Int) := oD_
                   have q530 : x14_3 < (t476.length : Int) := oD_
                   obtain ⟨ad530, e530, hx530_0⟩ := Kd.at_int (Kd.R_reads' HO_8.out).2.2 x14_3 p530 q530
                   obtain rfl : ad529 = ad530 := (by injection e530)
                   replace p530 := eq_true p530
                   replace q530 := eq_true q530
                   have p531 : 0 ≤ (x14_3 : Int) := oD_
                   have q531 : x14_3 < (t476.length : Int) := oD_
                   obtain ⟨ad531, e531, hx531_0⟩ := Kd.at_int (Kd.R_reads' HO_8.out).2.2 x14_3 p531 q531
                   obtain rfl : ad529 = ad531 := (by injection e531)
                   replace p531 := eq_true p531
                   replace q531 := eq_true q531
                   have p532 : 0 ≤ (x14_3 : Int) := oD_
                   have q532 : x14_3 < (t476.length : Int) := oD_
                   obtain ⟨ad532, e532, hx532_0⟩ := Kd.at_int (Kd.R_reads' HO_8.out).2.2 x14_3 p532 q532
                   obtain rfl : ad529 = ad532 := (by injection e532)
                   replace p532 := eq_true p532
                   replace q532 := eq_true q532
                   refine start_ (n := 84) (S := fun w' => w'.cell? (ad502.add (x14_3).toNat) = some (.bool false) ∧ w'.cell? (ad521.add (x14_3).toNat) = some (.int .i64 (rd t472 x14_3)) ∧ w'.cell? (ad522.add ((x14_3).toNat * 6)) = some (.int .i64 ((J24 (rd_L4 t464 1) x14_3).f0)) ∧ w'.cell? ⟨(ad522.add ((x14_3).toNat * 6)).block, (ad522.add ((x14_3).toNat * 6)).off + 1, none⟩ = some (.int .i64 ((J24 (rd_L4 t464 1) x14_3).f1)) ∧ w'.cell? ⟨(ad522.add ((x14_3).toNat * 6)).block, (ad522.add ((x14_3).toNat * 6)).off + 2, none⟩ = some (.int .i64 ((J24 (rd_L4 t464 1) x14_3).f2)) ∧ w'.cell? ⟨(ad522.add ((x14_3).toNat * 6)).block, (ad522.add ((x14_3).toNat * 6)).off + 3, none⟩ = some (.int .i64 ((J24 (rd_L4 t464 1) x14_3).f3)) ∧ w'.cell? ⟨(ad522.add ((x14_3).toNat * 6)).block, (ad522.add ((x14_3).toNat * 6)).off + 4, none⟩ = some (.int .i64 ((J24 (rd_L4 t464 1) x14_3).f4)) ∧ w'.cell? ⟨(ad522.add ((x14_3).toNat * 6)).block, (ad522.add ((x14_3).toNat * 6)).off + 5, none⟩ = some (.string ((J24 (rd_L4 t464 1) x14_3).f5)) ∧ w'.cell? (ad521.add (x14_3).toNat) = some (.int .i64 (rd t472 x14_3)) ∧ w'.cell? (ad522.add ((x14_3).toNat * 6)) = some (.int .i64 ((J24 (rd_L4 t464 1) x14_3).f0)) ∧ w'.cell? ⟨(ad522.add ((x14_3).toNat * 6)).block, (ad522.add ((x14_3).toNat * 6)).off + 1, none⟩ = some (.int .i64 ((J24 (rd_L4 t464 1) x14_3).f1)) ∧ w'.cell? ⟨(ad522.add ((x14_3).toNat * 6)).block, (ad522.add ((x14_3).toNat * 6)).off + 2, none⟩ = some (.int .i64 ((J24 (rd_L4 t464 1) x14_3).f2)) ∧ w'.cell? ⟨(ad522.add ((x14_3).toNat * 6)).block, (ad522.add ((x14_3).toNat * 6)).off + 3, none⟩ = some (.int .i64 ((J24 (rd_L4 t464 1) x14_3).f3)) ∧ w'.cell? ⟨(ad522.add ((x14_3).toNat * 6)).block, (ad522.add ((x14_3).toNat * 6)).off + 4, none⟩ = some (.int .i64 ((J24 (rd_L4 t464 1) x14_3).f4)) ∧ w'.cell? ⟨(ad522.add ((x14_3).toNat * 6)).block, (ad522.add ((x14_3).toNat * 6)).off + 5, none⟩ = some (.string ((J24 (rd_L4 t464 1) x14_3).f5)) ∧ w'.cell? (ad522.add ((x14_3).toNat * 6)) = some (.int .i64 ((J24 (rd_L4 t464 1) x14_3).f0)) ∧ w'.cell? ⟨(ad522.add ((x14_3).toNat * 6)).block, (ad522.add ((x14_3).toNat * 6)).off + 1, none⟩ = some (.int .i64 ((J24 (rd_L4 t464 1) x14_3).f1)) ∧ w'.cell? ⟨(ad522.add ((x14_3).toNat * 6)).block, (ad522.add ((x14_3).toNat * 6)).off + 2, none⟩ = some (.int .i64 ((J24 (rd_L4 t464 1) x14_3).f2)) ∧ w'.cell? ⟨(ad522.add ((x14_3).toNat * 6)).block, (ad522.add ((x14_3).toNat * 6)).off + 3, none⟩ = some (.int .i64 ((J24 (rd_L4 t464 1) x14_3).f3)) ∧ w'.cell? ⟨(ad522.add ((x14_3).toNat * 6)).block, (ad522.add ((x14_3).toNat * 6)).off + 4, none⟩ = some (.int .i64 ((J24 (rd_L4 t464 1) x14_3).f4)) ∧ w'.cell? ⟨(ad522.add ((x14_3).toNat * 6)).block, (ad522.add ((x14_3).toNat * 6)).off + 5, none⟩ = some (.string ((J24 (rd_L4 t464 1) x14_3).f5)) ∧ w'.cell? (ad529.add (x14_3).toNat) = some (.int .i64 (rd t476 x14_3)) ∧ w'.cell? (ad529.add (x14_3).toNat) = some (.int .i64 (rd t476 x14_3)) ∧ w'.cell? (ad529.add (x14_3).toNat) = some (.int .i64 (rd t476 x14_3)) ∧ w'.cell? (ad529.add (x14_3).toNat) = some (.int .i64 (rd t476 x14_3))) (ds := []) (bm 84 0) (by kernel_rfl) rfl (by kernel_rfl) ⟨hx502_0, hx521_0, hx522_0, hx522_1, hx522_2, hx522_3, hx522_4, hx522_5, hx524_0, hx525_0, hx525_1, hx525_2, hx525_3, hx525_4, hx525_5, hx527_0, hx527_1, hx527_2, hx527_3, hx527_4, hx527_5, hx529_0, hx530_0, hx531_0, hx532_0⟩ (fun hHeld => ?_); refine with_tabW w14_DagHigh.tab20 w14_DagHigh.bits20 (fun HT_ HW_ => ?_)
                   generalize wr.drew = w179 at HO_3 HO_6 HO_8 HO_10 BK462 HB hx502_0 hx521_0 hx522_0 hx522_1 hx522_2 hx522_3 hx522_4 hx522_5 hx524_0 hx525_0 hx525_1 hx525_2 hx525_3 hx525_4 hx525_5 hx527_0 hx527_1 hx527_2 hx527_3 hx527_4 hx527_5 hx529_0 hx530_0 hx531_0 hx532_0 hHeld ⊢
                   refine sq_ (k := 69) [(0, some 162, false), (1, some 163, false), (2, some 164, false), (3, some 165, true), (4, some 166, false), (5, some 167, false), (6, some 168, false), (7, some 169, false), (8, some 170, false), (10, some 172, false), (11, some 173, false), (12, some 174, false), (13, some 175, false), (9, some 171, true), (14, some 176, true)] (bm 84 32767) rfl (sq_of HT_.out HW_.out (by kernel_rfl)) (fun _ _ _ _ _ h => h) hHeld ?_
                   repeat (first | (refine SqOn.pure (v := ?_) (a' := ?_) rfl rfl (Or.inl ⟨by kernel_rfl, ?_⟩) ?_ ?_; rotate_left 2; (focus (intro w'; go_simp; with_reducible rfl)); (focus exact pU_)) | (refine SqOn.take (v := ?_) (a' := ?_) rfl rfl (Or.inl ⟨by kernel_rfl, ?_⟩) ?_ ?_; rotate_left 2; (focus (rintro w' ⟨s0, s1, s2, s3, s4, s5, s6, s7, s8, s9, s10, s11, s12, s13, s14, s15, s16, s17, s18, s19, s20, s21, s22, s23, s24⟩; go_simp; with_reducible rfl)); (focus exact pU_)))
                   refine SqOn.nil ?_
                   refine one_ (i := 15) (N := some 177) (bm 84 65535) rfl rfl (one_of HT_.out (by kernel_rfl)) (by decide) (fun K hK => ?_)
                   refine gO_ Try.func27 #[.int .i64 ((J24 (rd_L4 t464 1) x14_3).f0)] rfl ?_
                   with_reducible refine (r3_Latency.calls k3 ((J24 (rd_L4 t464 1) x14_3).f0) t523 _ A147.out).mono ?_
                   rintro e w' ⟨rfl, ⟨nd, rfl⟩⟩
                   refine ⟨_, rfl, ?_⟩
                   refine hK.out _ _ ⟨hHeld.1, hHeld.2.1, hHeld.2.2.1, hHeld.2.2.2.1, hHeld.2.2.2.2.1, hHeld.2.2.2.2.2.1, hHeld.2.2.2.2.2.2.1, hHeld.2.2.2.2.2.2.2.1, hHeld.2.2.2.2.2.2.2.2.1, hHeld.2.2.2.2.2.2.2.2.2.1, hHeld.2.2.2.2.2.2.2.2.2.2.1, hHeld.2.2.2.2.2.2.2.2.2.2.2.1, hHeld.2.2.2.2.2.2.2.2.2.2.2.2.1, hHeld.2.2.2.2.2.2.2.2.2.2.2.2.2.1, hHeld.2.2.2.2.2.2.2.2.2.2.2.2.2.2.1, hHeld.2.2.2.2.2.2.2.2.2.2.2.2.2.2.2.1, hHeld.2.2.2.2.2.2.2.2.2.2.2.2.2.2.2.2.1, hHeld.2.2.2.2.2.2.2.2.2.2.2.2.2.2.2.2.2.1, hHeld.2.2.2.2.2.2.2.2.2.2.2.2.2.2.2.2.2.2.1, hHeld.2.2.2.2.2.2.2.2.2.2.2.2.2.2.2.2.2.2.2.1, hHeld.2.2.2.2.2.2.2.2.2.2.2.2.2.2.2.2.2.2.2.2.1, hHeld.2.2.2.2.2.2.2.2.2.2.2.2.2.2.2.2.2.2.2.2.2.1, hHeld.2.2.2.2.2.2.2.2.2.2.2.2.2.2.2.2.2.2.2.2.2.2.1, hHeld.2.2.2.2.2.2.2.2.2.2.2.2.2.2.2.2.2.2.2.2.2.2.2.1, hHeld.2.2.2.2.2.2.2.2.2.2.2.2.2.2.2.2.2.2.2.2.2.2.2.2⟩ (fun hHeld => ?_)
                   clear hK K
                   refine norm_ (a' := ?_) ?_ ?_
                   rotate_left
                   ·show Act.put _ (some 177) _ = _
                    simp only [Act.put, List.setIfInBounds_toArray, List.set_cons_zero, List.set_cons_succ, i64_w, i32_w]
                    rfl
                   refine sq_ (k := 56) [(16, some 178, false), (17, some 179, false), (18, some 180, false), (19, some 181, false), (20, some 182, false), (21, some 183, false), (23, some 185, false), (24, some 186, false), (25, some 187, false), (26, some 188, false), (22, some 184, true), (27, some 189, true)] (bm 84 268435455) rfl (sq_of HT_.out HW_.out (by kernel_rfl)) (fun _ _ _ _ _ h => h) hHeld ?_
                   repeat (first | (refine SqOn.pure (v := ?_) (a' := ?_) rfl rfl (Or.inl ⟨by kernel_rfl, ?_⟩) ?_ ?_; rotate_left 2; (focus (intro w'; go_simp; with_reducible rfl)); (focus exact pU_)) | (refine SqOn.take (v := ?_) (a' := ?_) rfl rfl (Or.inl ⟨by kernel_rfl, ?_⟩) ?_ ?_; rotate_left 2; (focus (rintro w' ⟨s0, s1, s2, s3, s4, s5, s6, s7, s8, s9, s10, s11, s12, s13, s14, s15, s16, s17, s18, s19, s20, s21, s22, s23, s24⟩; go_simp; with_reducible rfl)); (focus exact pU_)))
                   refine SqOn.nil ?_
                   refine one_ (i := 28) (N := some 190) (bm 84 536870911) rfl rfl (one_of HT_.out (by kernel_rfl)) (by decide) (fun K hK => ?_)
                   refine gO_ Try.func27 #[.int .i64 ((J24 (rd_L4 t464 1) x14_3).f0)] rfl ?_
                   with_reducible refine (r3_Latency.calls k3 ((J24 (rd_L4 t464 1) x14_3).f0) t523 _ A149.out).mono ?_
                   rintro e w' ⟨rfl, ⟨nd, rfl⟩⟩
                   refine ⟨_, rfl, ?_⟩
                   refine hK.out _ _ ⟨hHeld.1, hHeld.2.1, hHeld.2.2.1, hHeld.2.2.2.1, hHeld.2.2.2.2.1, hHeld.2.2.2.2.2.1, hHeld.2.2.2.2.2.2.1, hHeld.2.2.2.2.2.2.2.1, hHeld.2.2.2.2.2.2.2.2.1, hHeld.2.2.2.2.2.2.2.2.2.1, hHeld.2.2.2.2.2.2.2.2.2.2.1, hHeld.2.2.2.2.2.2.2.2.2.2.2.1, hHeld.2.2.2.2.2.2.2.2.2.2.2.2.1, hHeld.2.2.2.2.2.2.2.2.2.2.2.2.2.1, hHeld.2.2.2.2.2.2.2.2.2.2.2.2.2.2.1, hHeld.2.2.2.2.2.2.2.2.2.2.2.2.2.2.2.1, hHeld.2.2.2.2.2.2.2.2.2.2.2.2.2.2.2.2.1, hHeld.2.2.2.2.2.2.2.2.2.2.2.2.2.2.2.2.2.1, hHeld.2.2.2.2.2.2.2.2.2.2.2.2.2.2.2.2.2.2.1, hHeld.2.2.2.2.2.2.2.2.2.2.2.2.2.2.2.2.2.2.2.1, hHeld.2.2.2.2.2.2.2.2.2.2.2.2.2.2.2.2.2.2.2.2.1, hHeld.2.2.2.2.2.2.2.2.2.2.2.2.2.2.2.2.2.2.2.2.2.1, hHeld.2.2.2.2.2.2.2.2.2.2.2.2.2.2.2.2.2.2.2.2.2.2.1, hHeld.2.2.2.2.2.2.2.2.2.2.2.2.2.2.2.2.2.2.2.2.2.2.2.1, hHeld.2.2.2.2.2.2.2.2.2.2.2.2.2.2.2.2.2.2.2.2.2.2.2.2⟩ (fun hHeld => ?_)
                   clear hK K
                   refine norm_ (a' := ?_) ?_ ?_
                   rotate_left
                   ·show Act.put _ (some 190) _ = _
                    simp only [Act.put, List.setIfInBounds_toArray, List.set_cons_zero, List.set_cons_succ, i64_w, i32_w]
                    rfl
                   refine sq_ (k := 47) [(29, some 191, false), (30, some 192, false), (31, some 193, false), (32, some 194, false), (33, some 195, false), (34, some 196, false), (35, some 197, false), (36, some 198, true)] (bm 84 137438953471) rfl (sq_of HT_.out HW_.out (by kernel_rfl)) (fun _ _ _ _ _ h => h) hHeld ?_
                   repeat (first | (refine SqOn.pure (v := ?_) (a' := ?_) rfl rfl (Or.inl ⟨by kernel_rfl, ?_⟩) ?_ ?_; rotate_left 2; (focus (intro w'; go_simp; with_reducible rfl)); (focus exact pU_)) | (refine SqOn.take (v := ?_) (a' := ?_) rfl rfl (Or.inl ⟨by kernel_rfl, ?_⟩) ?_ ?_; rotate_left 2; (focus (rintro w' ⟨s0, s1, s2, s3, s4, s5, s6, s7, s8, s9, s10, s11, s12, s13, s14, s15, s16, s17, s18, s19, s20, s21, s22, s23, s24⟩; go_simp; with_reducible rfl)); (focus exact pU_)))
                   refine SqOn.nil ?_
                   refine one_ (i := 37) (N := some 199) (bm 84 274877906943) rfl rfl (one_of HT_.out (by kernel_rfl)) (by decide) (fun K hK => ?_)
                   refine gO_ Try.func36 #[.int .i64 ((J24 (rd_L4 t464 1) x14_3).f0)] rfl ?_
                   with_reducible refine (r3_Effect.calls ((J24 (rd_L4 t464 1) x14_3).f0) true _ A154.out).mono ?_
                   rintro e w' ⟨rfl, ⟨nd, rfl⟩⟩
                   refine ⟨_, rfl, ?_⟩
                   obtain ⟨Ao182, co182, eo182⟩ := Kd.R_slice HO_8.out
                   (first | subst eo182 | (injection eo182 with f1_ f2_ f3_; have f4_ := f1_.symm; have f5_ := f3_.symm; clear f1_ f2_ f3_; subst f4_; subst f5_))
                   refine hK.out _ _ ⟨hHeld.1, hHeld.2.1, hHeld.2.2.1, hHeld.2.2.2.1, hHeld.2.2.2.2.1, hHeld.2.2.2.2.2.1, hHeld.2.2.2.2.2.2.1, hHeld.2.2.2.2.2.2.2.1, hHeld.2.2.2.2.2.2.2.2.1, hHeld.2.2.2.2.2.2.2.2.2.1, hHeld.2.2.2.2.2.2.2.2.2.2.1, hHeld.2.2.2.2.2.2.2.2.2.2.2.1, hHeld.2.2.2.2.2.2.2.2.2.2.2.2.1, hHeld.2.2.2.2.2.2.2.2.2.2.2.2.2.1, hHeld.2.2.2.2.2.2.2.2.2.2.2.2.2.2.1, hHeld.2.2.2.2.2.2.2.2.2.2.2.2.2.2.2.1, hHeld.2.2.2.2.2.2.2.2.2.2.2.2.2.2.2.2.1, hHeld.2.2.2.2.2.2.2.2.2.2.2.2.2.2.2.2.2.1, hHeld.2.2.2.2.2.2.2.2.2.2.2.2.2.2.2.2.2.2.1, hHeld.2.2.2.2.2.2.2.2.2.2.2.2.2.2.2.2.2.2.2.1, hHeld.2.2.2.2.2.2.2.2.2.2.2.2.2.2.2.2.2.2.2.2.1, hHeld.2.2.2.2.2.2.2.2.2.2.2.2.2.2.2.2.2.2.2.2.2.1, hHeld.2.2.2.2.2.2.2.2.2.2.2.2.2.2.2.2.2.2.2.2.2.2.1, hHeld.2.2.2.2.2.2.2.2.2.2.2.2.2.2.2.2.2.2.2.2.2.2.2.1, hHeld.2.2.2.2.2.2.2.2.2.2.2.2.2.2.2.2.2.2.2.2.2.2.2.2⟩ (fun hHeld => ?_)
                   clear hK K
                   refine norm_ (a' := ?_) ?_ ?_
                   rotate_left
                   ·show Act.put _ (some 199) _ = _
                    simp only [Act.put, List.setIfInBounds_toArray, List.set_cons_zero, List.set_cons_succ, i64_w, i32_w]
                    rfl
                   refine sq_ (k := 12) [(38, some 200, false), (39, some 201, false), (40, some 202, false), (41, some 203, false), (43, some 205, false), (42, some 204, true), (44, some 206, false), (45, some 207, false), (46, some 208, false), (47, some 209, false), (48, some 210, false), (49, some 211, false), (50, some 212, false), (51, some 213, true), (52, some 214, false), (53, some 215, false), (54, some 216, false), (55, some 217, false), (56, some 218, false), (57, some 219, false), (59, some 221, false), (60, some 222, false), (58, some 220, true), (61, some 223, false), (62, some 224, false), (63, some 225, false), (64, some 226, false), (65, some 227, false), (66, some 228, false), (68, some 230, false), (69, some 231, false), (67, some 229, true), (70, some 232, false), (71, some 233, false)] (bm 84 4722366482869645213695) rfl (sq_of HT_.out HW_.out (by kernel_rfl)) (fun _ _ _ _ _ h => h) hHeld ?_
                   repeat (first | (refine SqOn.pure (v := ?_) (a' := ?_) rfl rfl (Or.inl ⟨by kernel_rfl, ?_⟩) ?_ ?_; rotate_left 2; (focus (intro w'; go_simp; with_reducible rfl)); (focus exact pU_)) | (refine SqOn.take (v := ?_) (a' := ?_) rfl rfl (Or.inl ⟨by kernel_rfl, ?_⟩) ?_ ?_; rotate_left 2; (focus (rintro w' ⟨s0, s1, s2, s3, s4, s5, s6, s7, s8, s9, s10, s11, s12, s13, s14, s15, s16, s17, s18, s19, s20, s21, s22, s23, s24⟩; go_simp; with_reducible rfl)); (focus exact pU_)))
                   refine SqOn.nil ?_
                   refine sq_ (k := 2) [(72, some 234, false), (73, some 235, false), (74, some 236, false), (75, some 237, false), (76, some 238, false), (77, some 239, false), (78, some 240, false), (79, some 241, false), (80, some 242, false), (81, some 243, false)] (bm 84 4835703278458516698824703) rfl (sq_of HT_.out HW_.out (by kernel_rfl)) (fun _ _ _ _ _ h => h) hHeld ?_
                   repeat (refine SqOn.pure (v := undef) (a' := ?_) rfl rfl (Or.inr ⟨by kernel_rfl, rfl⟩) ?_ ?_; rotate_left; (focus (first | (simp only [Act.put, List.setIfInBounds_toArray, List.set_cons_zero, List.set_cons_succ]; rfl) | rfl)))
                   refine SqOn.nil ?_
                   refine sq_ (k := 0) [(82, some 244, false), (83, some 245, false)] (bm 84 19342813113834066795298815) rfl (sq_of HT_.out HW_.out (by kernel_rfl)) (fun _ _ _ _ _ h => h) hHeld ?_
                   repeat (first | (refine SqOn.pure (v := ?_) (a' := ?_) rfl rfl (Or.inl ⟨by kernel_rfl, ?_⟩) ?_ ?_; rotate_left 2; (focus (intro w'; go_simp; with_reducible rfl)); (focus exact pU_)))
                   refine SqOn.nil ?_
                   refine done_ (done_of HT_.out (by kernel_rfl)) ?_
                   simp only [OnlyNormal]
                   try go_wp2
                   go_meet
                   case rel => exact ⟨_, (false), eQ_, H, ⟨by have := HJ11.out; have := HK2.out; have := HK3.out; first | omega | exact Nat.le_refl _⟩, ⟨by (with_reducible repeat (first | apply Kd.V_alloc | apply Kd.V_drewN | apply Kd.V_drew)); exact HO_3.out⟩, ⟨rR_ HO_6⟩, ⟨rR_ HO_8⟩, ⟨rR_ HO_10⟩, ⟨rB_ BK462⟩, ⟨bs_ HB GE462⟩⟩
                 rw [if_neg c156] at H
                 exact absurd H (by simp)
                replace c155 := eF_ c155
                subst c155
                rw [if_neg Bool.false_ne_true] at H
                by_cases c183 : x14_3 < (t476.length : Int)
                ·rw [if_pos c183] at H
                 have c183b0 := dE_ c183
                 clear c183
                 by_cases c184 : (rd t476 x14_3) < 0
                 ·rw [if_pos c184] at H
                  have c184b0 := dE_ c184
                  clear c184
                  first | exact (high_bad4 H hr).elim | exact (high_bad2 H hr).elim | exact (high_bad0 H hr).elim
                 rw [if_neg c184] at H
                 have c184b0 := dF_ c184
                 clear c184
                 by_cases c189 : (rd t476 x14_3) > ((rd_L4 t464 1).length : Int)
                 ·rw [if_pos c189] at H
                  have c189b0 := dE_ c189
                  clear c189
                  first | exact (high_bad4 H hr).elim | exact (high_bad2 H hr).elim | exact (high_bad0 H hr).elim
                 rw [if_neg c189] at H
                 have c189b0 := dF_ c189
                 clear c189
                 by_cases c194 : (rd t476 x14_3) < ((rd_L4 t464 1).length : Int)
                 ·rw [if_pos c194] at H
                  have c194b0 := dE_ c194
                  clear c194
                  by_cases c195 : 0 ≤ (rd t476 x14_3)
                  ·refine wp_normal_only ?_
                   clear_value *
                   as_aux_lemma =>
                    rw [if_pos c195] at H
                    have c195b0 := dE_ c195
                    clear c195
                    replace H := oB_ H
                    obtain ⟨t541, A196, H⟩ := H
                    replace H := aM_ H
                    try go_wp2
                    replace HO_3 := aM_ (Kd.V_drew HO_3.out)
                    replace HO_6 := aM_ (Kd.R_drew HO_6.out)
                    replace HO_8 := aM_ (Kd.R_drew HO_8.out)
                    replace HO_10 := aM_ (Kd.R_drew HO_10.out)
                    replace BK462 := aM_ (kD_ BK462.out)
                    replace HB := aM_ (b1_ HB.out)
                    obtain ⟨Ao198, co198, eo198⟩ := Kd.R_slice HO_10.out
                    (first | subst eo198 | (injection eo198 with f1_ f2_ f3_; have f4_ := f1_.symm; have f5_ := f3_.symm; clear f1_ f2_ f3_; subst f4_; subst f5_))
                    have p502 : 0 ≤ (x14_3 : Int) := oD_
                    have q502 : x14_3 < (x10_2.length : Int) := oD_
                    obtain ⟨ad502, e502, hx502_0⟩ := Kd.at_bool (Kd.R_reads' HO_10.out).2.2 x14_3 p502 q502
                    (try rw [← Nbq87.out] at hx502_0)
                    cases e502
                    replace p502 := eq_true p502
                    replace q502 := eq_true q502
                    obtain ⟨Ao199, co199, eo199⟩ := Kd.R_slice HO_6.out
                    (first | subst eo199 | (injection eo199 with f1_ f2_ f3_; have f4_ := f1_.symm; have f5_ := f3_.symm; clear f1_ f2_ f3_; subst f4_; subst f5_))
                    have p521 : 0 ≤ (x14_3 : Int) := oD_
                    have q521 : x14_3 < (t472.length : Int) := oD_
                    obtain ⟨ad521, e521, hx521_0⟩ := Kd.at_int (Kd.R_reads' HO_6.out).2.2 x14_3 p521 q521
                    cases e521
                    replace p521 := eq_true p521
                    replace q521 := eq_true q521
                    have p522 : 0 ≤ (x14_3 : Int) := oD_
                    have q522 : x14_3 < ((rd_L4 t464 1).length : Int) := oD_
                    obtain ⟨ad522, e522, hx522_0, hx522_1, hx522_2, hx522_3, hx522_4, hx522_5⟩ := at_T24 (Kd.V_reads' HO_3.out).2.2 x14_3 p522 q522
                    cases e522
                    replace p522 := eq_true p522
                    replace q522 := eq_true q522
                    have p524 : 0 ≤ (x14_3 : Int) := oD_
                    have q524 : x14_3 < (t472.length : Int) := oD_
                    obtain ⟨ad524, e524, hx524_0⟩ := Kd.at_int (Kd.R_reads' HO_6.out).2.2 x14_3 p524 q524
                    obtain rfl : ad521 = ad524 := (by injection e524)
                    replace p524 := eq_true p524
                    replace q524 := eq_true q524
                    have p525 : 0 ≤ (x14_3 : Int) := oD_
                    have q525 : x14_3 < ((rd_L4 t464 1).length : Int) := oD_
                    obtain ⟨ad525, e525, hx525_0, hx525_1, hx525_2, hx525_3, hx525_4, hx525_5⟩ := at_T24 (Kd.V_reads' HO_3.out).2.2 x14_3 p525 q525
                    obtain rfl : ad522 = ad525 := (by injection e525)
                    replace p525 := eq_true p525
                    replace q525 := eq_true q525
                    have p527 : 0 ≤ (x14_3 : Int) := oD_
                    have q527 : x14_3 < ((rd_L4 t464 1).length : Int) := oD_
                    obtain ⟨ad527, e527, hx527_0, hx527_1, hx527_2, hx527_3, hx527_4, hx527_5⟩ := at_T24 (Kd.V_reads' HO_3.out).2.2 x14_3 p527 q527
                    obtain rfl : ad522 = ad527 := (by injection e527)
                    replace p527 := eq_true p527
                    replace q527 := eq_true q527
                    have p536 : 0 ≤ (x14_3 : Int) := oD_
                    have q536 : x14_3 < (t476.length : Int) := oD_
                    obtain ⟨AoZ19, coZ19, eoZ19⟩ := Kd.R_slice HO_8.out
                    subst eoZ19
                    obtain ⟨ad536, e536, hx536_0⟩ := Kd.at_int (Kd.R_reads' HO_8.out).2.2 x14_3 p536 q536
                    cases e536
                    replace p536 := eq_true p536
                    replace q536 := eq_true q536
                    have p537 : 0 ≤ (x14_3 : Int) := oD_
                    have q537 : x14_3 < (t476.length : Int) := oD_
                    obtain ⟨ad537, e537, hx537_0⟩ := Kd.at_int (Kd.R_reads' HO_8.out).2.2 x14_3 p537 q537
                    obtain rfl : ad536 = ad537 := (by injection e537)
                    replace p537 := eq_true p537
                    replace q537 := eq_true q537
                    have p538 : 0 ≤ (x14_3 : Int) := oD_
                    have q538 : x14_3 < (t476.length : Int) := oD_
                    obtain ⟨ad538, e538, hx538_0⟩ := Kd.at_int (Kd.R_reads' HO_8.out).2.2 x14_3 p538 q538
                    obtain rfl : ad536 = ad538 := (by injection e538)
                    replace p538 := eq_true p538
                    replace q538 := eq_true q538
                    have p539 : 0 ≤ (x14_3 : Int) := oD_
                    have q539 : x14_3 < (t476.length : Int) := oD_
                    obtain ⟨ad539, e539, hx539_0⟩ := Kd.at_int (Kd.R_reads' HO_8.out).2.2 x14_3 p539 q539
                    obtain rfl : ad536 = ad539 := (by injection e539)
                    replace p539 := eq_true p539
                    replace q539 := eq_true q539
                    have p540 : 0 ≤ ((rd t476 x14_3) : Int) := oD_
                    have q540 : (rd t476 x14_3) < ((rd_L4 t464 1).length : Int) := oD_
                    obtain ⟨ad540, e540, hx540_0, hx540_1, hx540_2, hx540_3, hx540_4, hx540_5⟩ := at_T24 (Kd.V_reads' HO_3.out).2.2 (rd t476 x14_3) p540 q540
                    obtain rfl : ad522 = ad540 := (by injection e540)
                    replace p540 := eq_true p540
                    replace q540 := eq_true q540
                    refine start_ (n := 84) (S := fun w' => w'.cell? (ad502.add (x14_3).toNat) = some (.bool false) ∧ w'.cell? (ad521.add (x14_3).toNat) = some (.int .i64 (rd t472 x14_3)) ∧ w'.cell? (ad522.add ((x14_3).toNat * 6)) = some (.int .i64 ((J24 (rd_L4 t464 1) x14_3).f0)) ∧ w'.cell? ⟨(ad522.add ((x14_3).toNat * 6)).block, (ad522.add ((x14_3).toNat * 6)).off + 1, none⟩ = some (.int .i64 ((J24 (rd_L4 t464 1) x14_3).f1)) ∧ w'.cell? ⟨(ad522.add ((x14_3).toNat * 6)).block, (ad522.add ((x14_3).toNat * 6)).off + 2, none⟩ = some (.int .i64 ((J24 (rd_L4 t464 1) x14_3).f2)) ∧ w'.cell? ⟨(ad522.add ((x14_3).toNat * 6)).block, (ad522.add ((x14_3).toNat * 6)).off + 3, none⟩ = some (.int .i64 ((J24 (rd_L4 t464 1) x14_3).f3)) ∧ w'.cell? ⟨(ad522.add ((x14_3).toNat * 6)).block, (ad522.add ((x14_3).toNat * 6)).off + 4, none⟩ = some (.int .i64 ((J24 (rd_L4 t464 1) x14_3).f4)) ∧ w'.cell? ⟨(ad522.add ((x14_3).toNat * 6)).block, (ad522.add ((x14_3).toNat * 6)).off + 5, none⟩ = some (.string ((J24 (rd_L4 t464 1) x14_3).f5)) ∧ w'.cell? (ad521.add (x14_3).toNat) = some (.int .i64 (rd t472 x14_3)) ∧ w'.cell? (ad522.add ((x14_3).toNat * 6)) = some (.int .i64 ((J24 (rd_L4 t464 1) x14_3).f0)) ∧ w'.cell? ⟨(ad522.add ((x14_3).toNat * 6)).block, (ad522.add ((x14_3).toNat * 6)).off + 1, none⟩ = some (.int .i64 ((J24 (rd_L4 t464 1) x14_3).f1)) ∧ w'.cell? ⟨(ad522.add ((x14_3).toNat * 6)).block, (ad522.add ((x14_3).toNat * 6)).off + 2, none⟩ = some (.int .i64 ((J24 (rd_L4 t464 1) x14_3).f2)) ∧ w'.cell? ⟨(ad522.add ((x14_3).toNat * 6)).block, (ad522.add ((x14_3).toNat * 6)).off + 3, none⟩ = some (.int .i64 ((J24 (rd_L4 t464 1) x14_3).f3)) ∧ w'.cell? ⟨(ad522.add ((x14_3).toNat * 6)).block, (ad522.add ((x14_3).toNat * 6)).off + 4, none⟩ = some (.int .i64 ((J24 (rd_L4 t464 1) x14_3).f4)) ∧ w'.cell? ⟨(ad522.add ((x14_3).toNat * 6)).block, (ad522.add ((x14_3).toNat * 6)).off + 5, none⟩ = some (.string ((J24 (rd_L4 t464 1) x14_3).f5)) ∧ w'.cell? (ad522.add ((x14_3).toNat * 6)) = some (.int .i64 ((J24 (rd_L4 t464 1) x14_3).f0)) ∧ w'.cell? ⟨(ad522.add ((x14_3).toNat * 6)).block, (ad522.add ((x14_3).toNat * 6)).off + 1, none⟩ = some (.int .i64 ((J24 (rd_L4 t464 1) x14_3).f1)) ∧ w'.cell? ⟨(ad522.add ((x14_3).toNat * 6)).block, (ad522.add ((x14_3).toNat * 6)).off + 2, none⟩ = some (.int .i64 ((J24 (rd_L4 t464 1) x14_3).f2)) ∧ w'.cell? ⟨(ad522.add ((x14_3).toNat * 6)).block, (ad522.add ((x14_3).toNat * 6)).off + 3, none⟩ = some (.int .i64 ((J24 (rd_L4 t464 1) x14_3).f3)) ∧ w'.cell? ⟨(ad522.add ((x14_3).toNat * 6)).block, (ad522.add ((x14_3).toNat * 6)).off + 4, none⟩ = some (.int .i64 ((J24 (rd_L4 t464 1) x14_3).f4)) ∧ w'.cell? ⟨(ad522.add ((x14_3).toNat * 6)).block, (ad522.add ((x14_3).toNat * 6)).off + 5, none⟩ = some (.string ((J24 (rd_L4 t464 1) x14_3).f5)) ∧ w'.cell? (ad536.add (x14_3).toNat) = some (.int .i64 (rd t476 x14_3)) ∧ w'.cell? (ad536.add (x14_3).toNat) = some (.int .i64 (rd t476 x14_3)) ∧ w'.cell? (ad536.add (x14_3).toNat) = some (.int .i64 (rd t476 x14_3)) ∧ w'.cell? (ad536.add (x14_3).toNat) = some (.int .i64 (rd t476 x14_3)) ∧ w'.cell? (ad522.add (((rd t476 x14_3)).toNat * 6)) = some (.int .i64 ((J24 (rd_L4 t464 1) (rd t476 x14_3)).f0)) ∧ w'.cell? ⟨(ad522.add (((rd t476 x14_3)).toNat * 6)).block, (ad522.add (((rd t476 x14_3)).toNat * 6)).off + 1, none⟩ = some (.int .i64 ((J24 (rd_L4 t464 1) (rd t476 x14_3)).f1)) ∧ w'.cell? ⟨(ad522.add (((rd t476 x14_3)).toNat * 6)).block, (ad522.add (((rd t476 x14_3)).toNat * 6)).off + 2, none⟩ = some (.int .i64 ((J24 (rd_L4 t464 1) (rd t476 x14_3)).f2)) ∧ w'.cell? ⟨(ad522.add (((rd t476 x14_3)).toNat * 6)).block, (ad522.add (((rd t476 x14_3)).toNat * 6)).off + 3, none⟩ = some (.int .i64 ((J24 (rd_L4 t464 1) (rd t476 x14_3)).f3)) ∧ w'.cell? ⟨(ad522.add (((rd t476 x14_3)).toNat * 6)).block, (ad522.add (((rd t476 x14_3)).toNat * 6)).off + 4, none⟩ = some (.int .i64 ((J24 (rd_L4 t464 1) (rd t476 x14_3)).f4)) ∧ w'.cell? ⟨(ad522.add (((rd t476 x14_3)).toNat * 6)).block, (ad522.add (((rd t476 x14_3)).toNat * 6)).off + 5, none⟩ = some (.string ((J24 (rd_L4 t464 1) (rd t476 x14_3)).f5))) (ds := []) (bm 84 0) (by kernel_rfl) rfl (by kernel_rfl) ⟨hx502_0, hx521_0, hx522_0, hx522_1, hx522_2, hx522_3, hx522_4, hx522_5, hx524_0, hx525_0, hx525_1, hx525_2, hx525_3, hx525_4, hx525_5, hx527_0, hx527_1, hx527_2, hx527_3, hx527_4, hx527_5, hx536_0, hx537_0, hx538_0, hx539_0, hx540_0, hx540_1, hx540_2, hx540_3, hx540_4, hx540_5⟩ (fun hHeld => ?_); refine with_tabW w14_DagHigh.tab20 w14_DagHigh.bits20 (fun HT_ HW_ => ?_)
                    generalize wr.drew = w197 at HO_3 HO_6 HO_8 HO_10 BK462 HB hx502_0 hx521_0 hx522_0 hx522_1 hx522_2 hx522_3 hx522_4 hx522_5 hx524_0 hx525_0 hx525_1 hx525_2 hx525_3 hx525_4 hx525_5 hx527_0 hx527_1 hx527_2 hx527_3 hx527_4 hx527_5 hx536_0 hx537_0 hx538_0 hx539_0 hx540_0 hx540_1 hx540_2 hx540_3 hx540_4 hx540_5 hHeld ⊢
                    refine sq_ (k := 69) [(0, some 162, false), (1, some 163, false), (2, some 164, false), (3, some 165, true), (4, some 166, false), (5, some 167, false), (6, some 168, false), (7, some 169, false), (8, some 170, false), (10, some 172, false), (11, some 173, false), (12, some 174, false), (13, some 175, false), (9, some 171, true), (14, some 176, true)] (bm 84 32767) rfl (sq_of HT_.out HW_.out (by kernel_rfl)) (fun _ _ _ _ _ h => h) hHeld ?_
                    repeat (first | (refine SqOn.pure (v := ?_) (a' := ?_) rfl rfl (Or.inl ⟨by kernel_rfl, ?_⟩) ?_ ?_; rotate_left 2; (focus (intro w'; go_simp; with_reducible rfl)); (focus exact pU_)) | (refine SqOn.take (v := ?_) (a' := ?_) rfl rfl (Or.inl ⟨by kernel_rfl, ?_⟩) ?_ ?_; rotate_left 2; (focus (rintro w' ⟨s0, s1, s2, s3, s4, s5, s6, s7, s8, s9, s10, s11, s12, s13, s14, s15, s16, s17, s18, s19, s20, s21, s22, s23, s24, s25, s26, s27, s28, s29, s30⟩; go_simp; with_reducible rfl)); (focus exact pU_)))
                    refine SqOn.nil ?_
                    refine one_ (i := 15) (N := some 177) (bm 84 65535) rfl rfl (one_of HT_.out (by kernel_rfl)) (by decide) (fun K hK => ?_)
                    refine gO_ Try.func27 #[.int .i64 ((J24 (rd_L4 t464 1) x14_3).f0)] rfl ?_
                    with_reducible refine (r3_Latency.calls k3 ((J24 (rd_L4 t464 1) x14_3).f0) t523 _ A147.out).mono ?_
                    rintro e w' ⟨rfl, ⟨nd, rfl⟩⟩
                    refine ⟨_, rfl, ?_⟩
                    refine hK.out _ _ ⟨hHeld.1, hHeld.2.1, hHeld.2.2.1, hHeld.2.2.2.1, hHeld.2.2.2.2.1, hHeld.2.2.2.2.2.1, hHeld.2.2.2.2.2.2.1, hHeld.2.2.2.2.2.2.2.1, hHeld.2.2.2.2.2.2.2.2.1, hHeld.2.2.2.2.2.2.2.2.2.1, hHeld.2.2.2.2.2.2.2.2.2.2.1, hHeld.2.2.2.2.2.2.2.2.2.2.2.1, hHeld.2.2.2.2.2.2.2.2.2.2.2.2.1, hHeld.2.2.2.2.2.2.2.2.2.2.2.2.2.1, hHeld.2.2.2.2.2.2.2.2.2.2.2.2.2.2.1, hHeld.2.2.2.2.2.2.2.2.2.2.2.2.2.2.2.1, hHeld.2.2.2.2.2.2.2.2.2.2.2.2.2.2.2.2.1, hHeld.2.2.2.2.2.2.2.2.2.2.2.2.2.2.2.2.2.1, hHeld.2.2.2.2.2.2.2.2.2.2.2.2.2.2.2.2.2.2.1, hHeld.2.2.2.2.2.2.2.2.2.2.2.2.2.2.2.2.2.2.2.1, hHeld.2.2.2.2.2.2.2.2.2.2.2.2.2.2.2.2.2.2.2.2.1, hHeld.2.2.2.2.2.2.2.2.2.2.2.2.2.2.2.2.2.2.2.2.2.1, hHeld.2.2.2.2.2.2.2.2.2.2.2.2.2.2.2.2.2.2.2.2.2.2.1, hHeld.2.2.2.2.2.2.2.2.2.2.2.2.2.2.2.2.2.2.2.2.2.2.2.1, hHeld.2.2.2.2.2.2.2.2.2.2.2.2.2.2.2.2.2.2.2.2.2.2.2.2.1, hHeld.2.2.2.2.2.2.2.2.2.2.2.2.2.2.2.2.2.2.2.2.2.2.2.2.2.1, hHeld.2.2.2.2.2.2.2.2.2.2.2.2.2.2.2.2.2.2.2.2.2.2.2.2.2.2.1, hHeld.2.2.2.2.2.2.2.2.2.2.2.2.2.2.2.2.2.2.2.2.2.2.2.2.2.2.2.1, hHeld.2.2.2.2.2.2.2.2.2.2.2.2.2.2.2.2.2.2.2.2.2.2.2.2.2.2.2.2.1, hHeld.2.2.2.2.2.2.2.2.2.2.2.2.2.2.2.2.2.2.2.2.2.2.2.2.2.2.2.2.2.1, hHeld.2.2.2.2.2.2.2.2.2.2.2.2.2.2.2.2.2.2.2.2.2.2.2.2.2.2.2.2.2.2⟩ (fun hHeld => ?_)
                    clear hK K
                    refine norm_ (a' := ?_) ?_ ?_
                    rotate_left
                    ·show Act.put _ (some 177) _ = _
                     simp only [Act.put, List.setIfInBounds_toArray, List.set_cons_zero, List.set_cons_succ, i64_w, i32_w]
                     rfl
                    refine sq_ (k := 56) [(16, some 178, false), (17, some 179, false), (18, some 180, false), (19, some 181, false), (20, some 182, false), (21, some 183, false), (23, some 185, false), (24, some 186, false), (25, some 187, false), (26, some 188, false), (22, some 184, true), (27, some 189, true)] (bm 84 268435455) rfl (sq_of HT_.out HW_.out (by kernel_rfl)) (fun _ _ _ _ _ h => h) hHeld ?_
                    repeat (first | (refine SqOn.pure (v := ?_) (a' := ?_) rfl rfl (Or.inl ⟨by kernel_rfl, ?_⟩) ?_ ?_; rotate_left 2; (focus (intro w'; go_simp; with_reducible rfl)); (focus exact pU_)) | (refine SqOn.take (v := ?_) (a' := ?_) rfl rfl (Or.inl ⟨by kernel_rfl, ?_⟩) ?_ ?_; rotate_left 2; (focus (rintro w' ⟨s0, s1, s2, s3, s4, s5, s6, s7, s8, s9, s10, s11, s12, s13, s14, s15, s16, s17, s18, s19, s20, s21, s22, s23, s24, s25, s26, s27, s28, s29, s30⟩; go_simp; with_reducible rfl)); (focus exact pU_)))
                    refine SqOn.nil ?_
                    refine one_ (i := 28) (N := some 190) (bm 84 536870911) rfl rfl (one_of HT_.out (by kernel_rfl)) (by decide) (fun K hK => ?_)
                    refine gO_ Try.func27 #[.int .i64 ((J24 (rd_L4 t464 1) x14_3).f0)] rfl ?_
                    with_reducible refine (r3_Latency.calls k3 ((J24 (rd_L4 t464 1) x14_3).f0) t523 _ A149.out).mono ?_
                    rintro e w' ⟨rfl, ⟨nd, rfl⟩⟩
                    refine ⟨_, rfl, ?_⟩
                    refine hK.out _ _ ⟨hHeld.1, hHeld.2.1, hHeld.2.2.1, hHeld.2.2.2.1, hHeld.2.2.2.2.1, hHeld.2.2.2.2.2.1, hHeld.2.2.2.2.2.2.1, hHeld.2.2.2.2.2.2.2.1, hHeld.2.2.2.2.2.2.2.2.1, hHeld.2.2.2.2.2.2.2.2.2.1, hHeld.2.2.2.2.2.2.2.2.2.2.1, hHeld.2.2.2.2.2.2.2.2.2.2.2.1, hHeld.2.2.2.2.2.2.2.2.2.2.2.2.1, hHeld.2.2.2.2.2.2.2.2.2.2.2.2.2.1, hHeld.2.2.2.2.2.2.2.2.2.2.2.2.2.2.1, hHeld.2.2.2.2.2.2.2.2.2.2.2.2.2.2.2.1, hHeld.2.2.2.2.2.2.2.2.2.2.2.2.2.2.2.2.1, hHeld.2.2.2.2.2.2.2.2.2.2.2.2.2.2.2.2.2.1, hHeld.2.2.2.2.2.2.2.2.2.2.2.2.2.2.2.2.2.2.1, hHeld.2.2.2.2.2.2.2.2.2.2.2.2.2.2.2.2.2.2.2.1, hHeld.2.2.2.2.2.2.2.2.2.2.2.2.2.2.2.2.2.2.2.2.1, hHeld.2.2.2.2.2.2.2.2.2.2.2.2.2.2.2.2.2.2.2.2.2.1, hHeld.2.2.2.2.2.2.2.2.2.2.2.2.2.2.2.2.2.2.2.2.2.2.1, hHeld.2.2.2.2.2.2.2.2.2.2.2.2.2.2.2.2.2.2.2.2.2.2.2.1, hHeld.2.2.2.2.2.2.2.2.2.2.2.2.2.2.2.2.2.2.2.2.2.2.2.2.1, hHeld.2.2.2.2.2.2.2.2.2.2.2.2.2.2.2.2.2.2.2.2.2.2.2.2.2.1, hHeld.2.2.2.2.2.2.2.2.2.2.2.2.2.2.2.2.2.2.2.2.2.2.2.2.2.2.1, hHeld.2.2.2.2.2.2.2.2.2.2.2.2.2.2.2.2.2.2.2.2.2.2.2.2.2.2.2.1, hHeld.2.2.2.2.2.2.2.2.2.2.2.2.2.2.2.2.2.2.2.2.2.2.2.2.2.2.2.2.1, hHeld.2.2.2.2.2.2.2.2.2.2.2.2.2.2.2.2.2.2.2.2.2.2.2.2.2.2.2.2.2.1, hHeld.2.2.2.2.2.2.2.2.2.2.2.2.2.2.2.2.2.2.2.2.2.2.2.2.2.2.2.2.2.2⟩ (fun hHeld => ?_)
                    clear hK K
                    refine norm_ (a' := ?_) ?_ ?_
                    rotate_left
                    ·show Act.put _ (some 190) _ = _
                     simp only [Act.put, List.setIfInBounds_toArray, List.set_cons_zero, List.set_cons_succ, i64_w, i32_w]
                     rfl
                    refine sq_ (k := 47) [(29, some 191, false), (30, some 192, false), (31, some 193, false), (32, some 194, false), (33, some 195, false), (34, some 196, false), (35, some 197, false), (36, some 198, true)] (bm 84 137438953471) rfl (sq_of HT_.out HW_.out (by kernel_rfl)) (fun _ _ _ _ _ h => h) hHeld ?_
                    repeat (first | (refine SqOn.pure (v := ?_) (a' := ?_) rfl rfl (Or.inl ⟨by kernel_rfl, ?_⟩) ?_ ?_; rotate_left 2; (focus (intro w'; go_simp; with_reducible rfl)); (focus exact pU_)) | (refine SqOn.take (v := ?_) (a' := ?_) rfl rfl (Or.inl ⟨by kernel_rfl, ?_⟩) ?_ ?_; rotate_left 2; (focus (rintro w' ⟨s0, s1, s2, s3, s4, s5, s6, s7, s8, s9, s10, s11, s12, s13, s14, s15, s16, s17, s18, s19, s20, s21, s22, s23, s24, s25, s26, s27, s28, s29, s30⟩; go_simp; with_reducible rfl)); (focus exact pU_)))
                    refine SqOn.nil ?_
                    refine one_ (i := 37) (N := some 199) (bm 84 274877906943) rfl rfl (one_of HT_.out (by kernel_rfl)) (by decide) (fun K hK => ?_)
                    refine gO_ Try.func36 #[.int .i64 ((J24 (rd_L4 t464 1) x14_3).f0)] rfl ?_
                    with_reducible refine (r3_Effect.calls ((J24 (rd_L4 t464 1) x14_3).f0) false _ A154.out).mono ?_
                    rintro e w' ⟨rfl, ⟨nd, rfl⟩⟩
                    refine ⟨_, rfl, ?_⟩
                    obtain ⟨Ao200, co200, eo200⟩ := Kd.R_slice HO_8.out
                    (first | subst eo200 | (injection eo200 with f1_ f2_ f3_; have f4_ := f1_.symm; have f5_ := f3_.symm; clear f1_ f2_ f3_; subst f4_; subst f5_))
                    refine hK.out _ _ ⟨hHeld.1, hHeld.2.1, hHeld.2.2.1, hHeld.2.2.2.1, hHeld.2.2.2.2.1, hHeld.2.2.2.2.2.1, hHeld.2.2.2.2.2.2.1, hHeld.2.2.2.2.2.2.2.1, hHeld.2.2.2.2.2.2.2.2.1, hHeld.2.2.2.2.2.2.2.2.2.1, hHeld.2.2.2.2.2.2.2.2.2.2.1, hHeld.2.2.2.2.2.2.2.2.2.2.2.1, hHeld.2.2.2.2.2.2.2.2.2.2.2.2.1, hHeld.2.2.2.2.2.2.2.2.2.2.2.2.2.1, hHeld.2.2.2.2.2.2.2.2.2.2.2.2.2.2.1, hHeld.2.2.2.2.2.2.2.2.2.2.2.2.2.2.2.1, hHeld.2.2.2.2.2.2.2.2.2.2.2.2.2.2.2.2.1, hHeld.2.2.2.2.2.2.2.2.2.2.2.2.2.2.2.2.2.1, hHeld.2.2.2.2.2.2.2.2.2.2.2.2.2.2.2.2.2.2.1, hHeld.2.2.2.2.2.2.2.2.2.2.2.2.2.2.2.2.2.2.2.1, hHeld.2.2.2.2.2.2.2.2.2.2.2.2.2.2.2.2.2.2.2.2.1, hHeld.2.2.2.2.2.2.2.2.2.2.2.2.2.2.2.2.2.2.2.2.2.1, hHeld.2.2.2.2.2.2.2.2.2.2.2.2.2.2.2.2.2.2.2.2.2.2.1, hHeld.2.2.2.2.2.2.2.2.2.2.2.2.2.2.2.2.2.2.2.2.2.2.2.1, hHeld.2.2.2.2.2.2.2.2.2.2.2.2.2.2.2.2.2.2.2.2.2.2.2.2.1, hHeld.2.2.2.2.2.2.2.2.2.2.2.2.2.2.2.2.2.2.2.2.2.2.2.2.2.1, hHeld.2.2.2.2.2.2.2.2.2.2.2.2.2.2.2.2.2.2.2.2.2.2.2.2.2.2.1, hHeld.2.2.2.2.2.2.2.2.2.2.2.2.2.2.2.2.2.2.2.2.2.2.2.2.2.2.2.1, hHeld.2.2.2.2.2.2.2.2.2.2.2.2.2.2.2.2.2.2.2.2.2.2.2.2.2.2.2.2.1, hHeld.2.2.2.2.2.2.2.2.2.2.2.2.2.2.2.2.2.2.2.2.2.2.2.2.2.2.2.2.2.1, hHeld.2.2.2.2.2.2.2.2.2.2.2.2.2.2.2.2.2.2.2.2.2.2.2.2.2.2.2.2.2.2⟩ (fun hHeld => ?_)
                    clear hK K
                    refine norm_ (a' := ?_) ?_ ?_
                    rotate_left
                    ·show Act.put _ (some 199) _ = _
                     simp only [Act.put, List.setIfInBounds_toArray, List.set_cons_zero, List.set_cons_succ, i64_w, i32_w]
                     rfl
                    refine pure_ (i := 38) (N := some 200) (v := ?_) (a' := ?_) (bm 84 549755813887) rfl rfl (any_of HT_.out (by kernel_rfl)) (fun _ _ _ h => h) (Or.inl ⟨by rfl, ?_⟩) ?_ ?_
                    rotate_left
                    ·intro w'
                     go_simp
                     with_reducible rfl
                    rotate_left
                    ·simp only [Act.put, List.setIfInBounds_toArray, List.set_cons_zero, List.set_cons_succ, i64_w, i32_w]
                     rfl
                    refine sq_ (k := 39) [(39, some 201, false), (40, some 202, false), (41, some 203, false), (42, some 204, false), (43, some 205, false), (44, some 206, false)] (bm 84 35184372088831) rfl (sq_of HT_.out HW_.out (by kernel_rfl)) (fun _ _ _ _ _ h => h) hHeld ?_
                    repeat (refine SqOn.pure (v := undef) (a' := ?_) rfl rfl (Or.inr ⟨by kernel_rfl, rfl⟩) ?_ ?_; rotate_left; (focus (first | (simp only [Act.put, List.setIfInBounds_toArray, List.set_cons_zero, List.set_cons_succ]; rfl) | rfl)))
                    refine SqOn.nil ?_
                    refine sq_ (k := 4) [(45, some 207, false), (46, some 208, false), (47, some 209, false), (48, some 210, false), (49, some 211, false), (50, some 212, false), (51, some 213, true), (52, some 214, false), (53, some 215, false), (54, some 216, false), (55, some 217, false), (56, some 218, false), (57, some 219, false), (59, some 221, false), (60, some 222, false), (58, some 220, true), (61, some 223, false), (62, some 224, false), (63, some 225, false), (64, some 226, false), (65, some 227, false), (66, some 228, false), (68, some 230, false), (69, some 231, false), (67, some 229, true), (70, some 232, false), (71, some 233, false), (72, some 234, false), (73, some 235, false), (74, some 236, false), (75, some 237, false), (76, some 238, true), (77, some 239, false), (78, some 240, false), (79, some 241, true)] (bm 84 1208925819614629174706175) rfl (sq_of HT_.out HW_.out (by kernel_rfl)) (fun _ _ _ _ _ h => h) hHeld ?_
                    repeat (first | (refine SqOn.pure (v := ?_) (a' := ?_) rfl rfl (Or.inl ⟨by kernel_rfl, ?_⟩) ?_ ?_; rotate_left 2; (focus (intro w'; go_simp; with_reducible rfl)); (focus exact pU_)) | (refine SqOn.take (v := ?_) (a' := ?_) rfl rfl (Or.inl ⟨by kernel_rfl, ?_⟩) ?_ ?_; rotate_left 2; (focus (rintro w' ⟨s0, s1, s2, s3, s4, s5, s6, s7, s8, s9, s10, s11, s12, s13, s14, s15, s16, s17, s18, s19, s20, s21, s22, s23, s24, s25, s26, s27, s28, s29, s30⟩; go_simp; with_reducible rfl)); (focus exact pU_)))
                    refine SqOn.nil ?_
                    refine one_ (i := 80) (N := some 242) (bm 84 2417851639229258349412351) rfl rfl (one_of HT_.out (by kernel_rfl)) (by decide) (fun K hK => ?_)
                    refine gO_ Try.func36 #[.int .i64 ((J24 (rd_L4 t464 1) (rd t476 x14_3)).f0)] rfl ?_
                    with_reducible refine (r3_Effect.calls ((J24 (rd_L4 t464 1) (rd t476 x14_3)).f0) t541 _ A196.out).mono ?_
                    rintro e w' ⟨rfl, ⟨nd, rfl⟩⟩
                    refine ⟨_, rfl, ?_⟩
                    refine hK.out _ _ ⟨hHeld.1, hHeld.2.1, hHeld.2.2.1, hHeld.2.2.2.1, hHeld.2.2.2.2.1, hHeld.2.2.2.2.2.1, hHeld.2.2.2.2.2.2.1, hHeld.2.2.2.2.2.2.2.1, hHeld.2.2.2.2.2.2.2.2.1, hHeld.2.2.2.2.2.2.2.2.2.1, hHeld.2.2.2.2.2.2.2.2.2.2.1, hHeld.2.2.2.2.2.2.2.2.2.2.2.1, hHeld.2.2.2.2.2.2.2.2.2.2.2.2.1, hHeld.2.2.2.2.2.2.2.2.2.2.2.2.2.1, hHeld.2.2.2.2.2.2.2.2.2.2.2.2.2.2.1, hHeld.2.2.2.2.2.2.2.2.2.2.2.2.2.2.2.1, hHeld.2.2.2.2.2.2.2.2.2.2.2.2.2.2.2.2.1, hHeld.2.2.2.2.2.2.2.2.2.2.2.2.2.2.2.2.2.1, hHeld.2.2.2.2.2.2.2.2.2.2.2.2.2.2.2.2.2.2.1, hHeld.2.2.2.2.2.2.2.2.2.2.2.2.2.2.2.2.2.2.2.1, hHeld.2.2.2.2.2.2.2.2.2.2.2.2.2.2.2.2.2.2.2.2.1, hHeld.2.2.2.2.2.2.2.2.2.2.2.2.2.2.2.2.2.2.2.2.2.1, hHeld.2.2.2.2.2.2.2.2.2.2.2.2.2.2.2.2.2.2.2.2.2.2.1, hHeld.2.2.2.2.2.2.2.2.2.2.2.2.2.2.2.2.2.2.2.2.2.2.2.1, hHeld.2.2.2.2.2.2.2.2.2.2.2.2.2.2.2.2.2.2.2.2.2.2.2.2.1, hHeld.2.2.2.2.2.2.2.2.2.2.2.2.2.2.2.2.2.2.2.2.2.2.2.2.2.1, hHeld.2.2.2.2.2.2.2.2.2.2.2.2.2.2.2.2.2.2.2.2.2.2.2.2.2.2.1, hHeld.2.2.2.2.2.2.2.2.2.2.2.2.2.2.2.2.2.2.2.2.2.2.2.2.2.2.2.1, hHeld.2.2.2.2.2.2.2.2.2.2.2.2.2.2.2.2.2.2.2.2.2.2.2.2.2.2.2.2.1, hHeld.2.2.2.2.2.2.2.2.2.2.2.2.2.2.2.2.2.2.2.2.2.2.2.2.2.2.2.2.2.1, hHeld.2.2.2.2.2.2.2.2.2.2.2.2.2.2.2.2.2.2.2.2.2.2.2.2.2.2.2.2.2.2⟩ (fun hHeld => ?_)
                    clear hK K
                    refine norm_ (a' := ?_) ?_ ?_
                    rotate_left
                    ·show Act.put _ (some 242) _ = _
                     simp only [Act.put, List.setIfInBounds_toArray, List.set_cons_zero, List.set_cons_succ, i64_w, i32_w]
                     rfl
                    refine sq_ (k := 0) [(81, some 243, false), (82, some 244, false), (83, some 245, false)] (bm 84 19342813113834066795298815) rfl (sq_of HT_.out HW_.out (by kernel_rfl)) (fun _ _ _ _ _ h => h) hHeld ?_
                    repeat (first | (refine SqOn.pure (v := ?_) (a' := ?_) rfl rfl (Or.inl ⟨by kernel_rfl, ?_⟩) ?_ ?_; rotate_left 2; (focus (intro w'; go_simp; with_reducible rfl)); (focus exact pU_)))
                    refine SqOn.nil ?_
                    refine done_ (done_of HT_.out (by kernel_rfl)) ?_
                    simp only [OnlyNormal]
                    try go_wp2
                    go_meet
                    case rel => exact ⟨_, (!t541), eQ_, H, ⟨by have := HJ11.out; have := HK2.out; have := HK3.out; first | omega | exact Nat.le_refl _⟩, ⟨by (with_reducible repeat (first | apply Kd.V_alloc | apply Kd.V_drewN | apply Kd.V_drew)); exact HO_3.out⟩, ⟨rR_ HO_6⟩, ⟨rR_ HO_8⟩, ⟨rR_ HO_10⟩, ⟨rB_ BK462⟩, ⟨bs_ HB GE462⟩⟩
                  rw [if_neg c195] at H
                  exact absurd H (by simp)
                 refine wp_normal_only ?_
                 clear_value *
                 as_aux_lemma =>
                  rw [if_neg c194] at H
                  have c194b0 := dF_ c194
                  clear c194
                  replace H := aM_ H
                  try go_wp2
                  replace HO_3 := aM_ (Kd.V_drew HO_3.out)
                  replace HO_6 := aM_ (Kd.R_drew HO_6.out)
                  replace HO_8 := aM_ (Kd.R_drew HO_8.out)
                  replace HO_10 := aM_ (Kd.R_drew HO_10.out)
                  replace BK462 := aM_ (kD_ BK462.out)
                  replace HB := aM_ (b1_ HB.out)
                  obtain ⟨Ao202, co202, eo202⟩ := Kd.R_slice HO_10.out
                  (first | subst eo202 | (injection eo202 with f1_ f2_ f3_; have f4_ := f1_.symm; have f5_ := f3_.symm; clear f1_ f2_ f3_; subst f4_; subst f5_))
                  have p502 : 0 ≤ (x14_3 : Int) := oD_
                  have q502 : x14_3 < (x10_2.length : Int) := oD_
                  obtain ⟨ad502, e502, hx502_0⟩ := Kd.at_bool (Kd.R_reads' HO_10.out).2.2 x14_3 p502 q502
                  (try rw [← Nbq87.out] at hx502_0)
                  cases e502
                  replace p502 := eq_true p502
                  replace q502 := eq_true q502
                  obtain ⟨Ao203, co203, eo203⟩ := Kd.R_slice HO_6.out
                  (first | subst eo203 | (injection eo203 with f1_ f2_ f3_; have f4_ := f1_.symm; have f5_ := f3_.symm; clear f1_ f2_ f3_; subst f4_; subst f5_))
                  have p521 : 0 ≤ (x14_3 : Int) := oD_
                  have q521 : x14_3 < (t472.length : Int) := oD_
                  obtain ⟨ad521, e521, hx521_0⟩ := Kd.at_int (Kd.R_reads' HO_6.out).2.2 x14_3 p521 q521
                  cases e521
                  replace p521 := eq_true p521
                  replace q521 := eq_true q521
                  have p522 : 0 ≤ (x14_3 : Int) := oD_
                  have q522 : x14_3 < ((rd_L4 t464 1).length : Int) := oD_
                  obtain ⟨ad522, e522, hx522_0, hx522_1, hx522_2, hx522_3, hx522_4, hx522_5⟩ := at_T24 (Kd.V_reads' HO_3.out).2.2 x14_3 p522 q522
                  cases e522
                  replace p522 := eq_true p522
                  replace q522 := eq_true q522
                  have p524 : 0 ≤ (x14_3 : Int) := oD_
                  have q524 : x14_3 < (t472.length : Int) := oD_
                  obtain ⟨ad524, e524, hx524_0⟩ := Kd.at_int (Kd.R_reads' HO_6.out).2.2 x14_3 p524 q524
                  obtain rfl : ad521 = ad524 := (by injection e524)
                  replace p524 := eq_true p524
                  replace q524 := eq_true q524
                  have p525 : 0 ≤ (x14_3 : Int) := oD_
                  have q525 : x14_3 < ((rd_L4 t464 1).length : Int) := oD_
                  obtain ⟨ad525, e525, hx525_0, hx525_1, hx525_2, hx525_3, hx525_4, hx525_5⟩ := at_T24 (Kd.V_reads' HO_3.out).2.2 x14_3 p525 q525
                  obtain rfl : ad522 = ad525 := (by injection e525)
                  replace p525 := eq_true p525
                  replace q525 := eq_true q525
                  have p527 : 0 ≤ (x14_3 : Int) := oD_
                  have q527 : x14_3 < ((rd_L4 t464 1).length : Int) := oD_
                  obtain ⟨ad527, e527, hx527_0, hx527_1, hx527_2, hx527_3, hx527_4, hx527_5⟩ := at_T24 (Kd.V_reads' HO_3.out).2.2 x14_3 p527 q527
                  obtain rfl : ad522 = ad527 := (by injection e527)
                  replace p527 := eq_true p527
                  replace q527 := eq_true q527
                  have p536 : 0 ≤ (x14_3 : Int) := oD_
                  have q536 : x14_3 < (t476.length : Int) := oD_
                  obtain ⟨AoZ20, coZ20, eoZ20⟩ := Kd.R_slice HO_8.out
                  subst eoZ20
                  obtain ⟨ad536, e536, hx536_0⟩ := Kd.at_int (Kd.R_reads' HO_8.out).2.2 x14_3 p536 q536
                  cases e536
                  replace p536 := eq_true p536
                  replace q536 := eq_true q536
                  have p537 : 0 ≤ (x14_3 : Int) := oD_
                  have q537 : x14_3 < (t476.length : Int) := oD_
                  obtain ⟨ad537, e537, hx537_0⟩ := Kd.at_int (Kd.R_reads' HO_8.out).2.2 x14_3 p537 q537
                  obtain rfl : ad536 = ad537 := (by injection e537)
                  replace p537 := eq_true p537
                  replace q537 := eq_true q537
                  have p538 : 0 ≤ (x14_3 : Int) := oD_
                  have q538 : x14_3 < (t476.length : Int) := oD_
                  obtain ⟨ad538, e538, hx538_0⟩ := Kd.at_int (Kd.R_reads' HO_8.out).2.2 x14_3 p538 q538
                  obtain rfl : ad536 = ad538 := (by injection e538)
                  replace p538 := eq_true p538
                  replace q538 := eq_true q538
                  refine start_ (n := 84) (S := fun w' => w'.cell? (ad502.add (x14_3).toNat) = some (.bool false) ∧ w'.cell? (ad521.add (x14_3).toNat) = some (.int .i64 (rd t472 x14_3)) ∧ w'.cell? (ad522.add ((x14_3).toNat * 6)) = some (.int .i64 ((J24 (rd_L4 t464 1) x14_3).f0)) ∧ w'.cell? ⟨(ad522.add ((x14_3).toNat * 6)).block, (ad522.add ((x14_3).toNat * 6)).off + 1, none⟩ = some (.int .i64 ((J24 (rd_L4 t464 1) x14_3).f1)) ∧ w'.cell? ⟨(ad522.add ((x14_3).toNat * 6)).block, (ad522.add ((x14_3).toNat * 6)).off + 2, none⟩ = some (.int .i64 ((J24 (rd_L4 t464 1) x14_3).f2)) ∧ w'.cell? ⟨(ad522.add ((x14_3).toNat * 6)).block, (ad522.add ((x14_3).toNat * 6)).off + 3, none⟩ = some (.int .i64 ((J24 (rd_L4 t464 1) x14_3).f3)) ∧ w'.cell? ⟨(ad522.add ((x14_3).toNat * 6)).block, (ad522.add ((x14_3).toNat * 6)).off + 4, none⟩ = some (.int .i64 ((J24 (rd_L4 t464 1) x14_3).f4)) ∧ w'.cell? ⟨(ad522.add ((x14_3).toNat * 6)).block, (ad522.add ((x14_3).toNat * 6)).off + 5, none⟩ = some (.string ((J24 (rd_L4 t464 1) x14_3).f5)) ∧ w'.cell? (ad521.add (x14_3).toNat) = some (.int .i64 (rd t472 x14_3)) ∧ w'.cell? (ad522.add ((x14_3).toNat * 6)) = some (.int .i64 ((J24 (rd_L4 t464 1) x14_3).f0)) ∧ w'.cell? ⟨(ad522.add ((x14_3).toNat * 6)).block, (ad522.add ((x14_3).toNat * 6)).off + 1, none⟩ = some (.int .i64 ((J24 (rd_L4 t464 1) x14_3).f1)) ∧ w'.cell? ⟨(ad522.add ((x14_3).toNat * 6)).block, (ad522.add ((x14_3).toNat * 6)).off + 2, none⟩ = some (.int .i64 ((J24 (rd_L4 t464 1) x14_3).f2)) ∧ w'.cell? ⟨(ad522.add ((x14_3).toNat * 6)).block, (ad522.add ((x14_3).toNat * 6)).off + 3, none⟩ = some (.int .i64 ((J24 (rd_L4 t464 1) x14_3).f3)) ∧ w'.cell? ⟨(ad522.add ((x14_3).toNat * 6)).block, (ad522.add ((x14_3).toNat * 6)).off + 4, none⟩ = some (.int .i64 ((J24 (rd_L4 t464 1) x14_3).f4)) ∧ w'.cell? ⟨(ad522.add ((x14_3).toNat * 6)).block, (ad522.add ((x14_3).toNat * 6)).off + 5, none⟩ = some (.string ((J24 (rd_L4 t464 1) x14_3).f5)) ∧ w'.cell? (ad522.add ((x14_3).toNat * 6)) = some (.int .i64 ((J24 (rd_L4 t464 1) x14_3).f0)) ∧ w'.cell? ⟨(ad522.add ((x14_3).toNat * 6)).block, (ad522.add ((x14_3).toNat * 6)).off + 1, none⟩ = some (.int .i64 ((J24 (rd_L4 t464 1) x14_3).f1)) ∧ w'.cell? ⟨(ad522.add ((x14_3).toNat * 6)).block, (ad522.add ((x14_3).toNat * 6)).off + 2, none⟩ = some (.int .i64 ((J24 (rd_L4 t464 1) x14_3).f2)) ∧ w'.cell? ⟨(ad522.add ((x14_3).toNat * 6)).block, (ad522.add ((x14_3).toNat * 6)).off + 3, none⟩ = some (.int .i64 ((J24 (rd_L4 t464 1) x14_3).f3)) ∧ w'.cell? ⟨(ad522.add ((x14_3).toNat * 6)).block, (ad522.add ((x14_3).toNat * 6)).off + 4, none⟩ = some (.int .i64 ((J24 (rd_L4 t464 1) x14_3).f4)) ∧ w'.cell? ⟨(ad522.add ((x14_3).toNat * 6)).block, (ad522.add ((x14_3).toNat * 6)).off + 5, none⟩ = some (.string ((J24 (rd_L4 t464 1) x14_3).f5)) ∧ w'.cell? (ad536.add (x14_3).toNat) = some (.int .i64 (rd t476 x14_3)) ∧ w'.cell? (ad536.add (x14_3).toNat) = some (.int .i64 (rd t476 x14_3)) ∧ w'.cell? (ad536.add (x14_3).toNat) = some (.int .i64 (rd t476 x14_3))) (ds := []) (bm 84 0) (by kernel_rfl) rfl (by kernel_rfl) ⟨hx502_0, hx521_0, hx522_0, hx522_1, hx522_2, hx522_3, hx522_4, hx522_5, hx524_0, hx525_0, hx525_1, hx525_2, hx525_3, hx525_4, hx525_5, hx527_0, hx527_1, hx527_2, hx527_3, hx527_4, hx527_5, hx536_0, hx537_0, hx538_0⟩ (fun hHeld => ?_); refine with_tabW w14_DagHigh.tab20 w14_DagHigh.bits20 (fun HT_ HW_ => ?_)
                  generalize wr.drew = w201 at HO_3 HO_6 HO_8 HO_10 BK462 HB hx502_0 hx521_0 hx522_0 hx522_1 hx522_2 hx522_3 hx522_4 hx522_5 hx524_0 hx525_0 hx525_1 hx525_2 hx525_3 hx525_4 hx525_5 hx527_0 hx527_1 hx527_2 hx527_3 hx527_4 hx527_5 hx536_0 hx537_0 hx538_0 hHeld ⊢
                  refine sq_ (k := 69) [(0, some 162, false), (1, some 163, false), (2, some 164, false), (3, some 165, true), (4, some 166, false), (5, some 167, false), (6, some 168, false), (7, some 169, false), (8, some 170, false), (10, some 172, false), (11, some 173, false), (12, some 174, false), (13, some 175, false), (9, some 171, true), (14, some 176, true)] (bm 84 32767) rfl (sq_of HT_.out HW_.out (by kernel_rfl)) (fun _ _ _ _ _ h => h) hHeld ?_
                  repeat (first | (refine SqOn.pure (v := ?_) (a' := ?_) rfl rfl (Or.inl ⟨by kernel_rfl, ?_⟩) ?_ ?_; rotate_left 2; (focus (intro w'; go_simp; with_reducible rfl)); (focus exact pU_)) | (refine SqOn.take (v := ?_) (a' := ?_) rfl rfl (Or.inl ⟨by kernel_rfl, ?_⟩) ?_ ?_; rotate_left 2; (focus (rintro w' ⟨s0, s1, s2, s3, s4, s5, s6, s7, s8, s9, s10, s11, s12, s13, s14, s15, s16, s17, s18, s19, s20, s21, s22, s23⟩; go_simp; with_reducible rfl)); (focus exact pU_)))
                  refine SqOn.nil ?_
                  refine one_ (i := 15) (N := some 177) (bm 84 65535) rfl rfl (one_of HT_.out (by kernel_rfl)) (by decide) (fun K hK => ?_)
                  refine gO_ Try.func27 #[.int .i64 ((J24 (rd_L4 t464 1) x14_3).f0)] rfl ?_
                  with_reducible refine (r3_Latency.calls k3 ((J24 (rd_L4 t464 1) x14_3).f0) t523 _ A147.out).mono ?_
                  rintro e w' ⟨rfl, ⟨nd, rfl⟩⟩
                  refine ⟨_, rfl, ?_⟩
                  refine hK.out _ _ ⟨hHeld.1, hHeld.2.1, hHeld.2.2.1, hHeld.2.2.2.1, hHeld.2.2.2.2.1, hHeld.2.2.2.2.2.1, hHeld.2.2.2.2.2.2.1, hHeld.2.2.2.2.2.2.2.1, hHeld.2.2.2.2.2.2.2.2.1, hHeld.2.2.2.2.2.2.2.2.2.1, hHeld.2.2.2.2.2.2.2.2.2.2.1, hHeld.2.2.2.2.2.2.2.2.2.2.2.1, hHeld.2.2.2.2.2.2.2.2.2.2.2.2.1, hHeld.2.2.2.2.2.2.2.2.2.2.2.2.2.1, hHeld.2.2.2.2.2.2.2.2.2.2.2.2.2.2.1, hHeld.2.2.2.2.2.2.2.2.2.2.2.2.2.2.2.1, hHeld.2.2.2.2.2.2.2.2.2.2.2.2.2.2.2.2.1, hHeld.2.2.2.2.2.2.2.2.2.2.2.2.2.2.2.2.2.1, hHeld.2.2.2.2.2.2.2.2.2.2.2.2.2.2.2.2.2.2.1, hHeld.2.2.2.2.2.2.2.2.2.2.2.2.2.2.2.2.2.2.2.1, hHeld.2.2.2.2.2.2.2.2.2.2.2.2.2.2.2.2.2.2.2.2.1, hHeld.2.2.2.2.2.2.2.2.2.2.2.2.2.2.2.2.2.2.2.2.2.1, hHeld.2.2.2.2.2.2.2.2.2.2.2.2.2.2.2.2.2.2.2.2.2.2.1, hHeld.2.2.2.2.2.2.2.2.2.2.2.2.2.2.2.2.2.2.2.2.2.2.2⟩ (fun hHeld => ?_)
                  clear hK K
                  refine norm_ (a' := ?_) ?_ ?_
                  rotate_left
                  ·show Act.put _ (some 177) _ = _
                   simp only [Act.put, List.setIfInBounds_toArray, List.set_cons_zero, List.set_cons_succ, i64_w, i32_w]
                   rfl
                  refine sq_ (k := 56) [(16, some 178, false), (17, some 179, false), (18, some 180, false), (19, some 181, false), (20, some 182, false), (21, some 183, false), (23, some 185, false), (24, some 186, false), (25, some 187, false), (26, some 188, false), (22, some 184, true), (27, some 189, true)] (bm 84 268435455) rfl (sq_of HT_.out HW_.out (by kernel_rfl)) (fun _ _ _ _ _ h => h) hHeld ?_
                  repeat (first | (refine SqOn.pure (v := ?_) (a' := ?_) rfl rfl (Or.inl ⟨by kernel_rfl, ?_⟩) ?_ ?_; rotate_left 2; (focus (intro w'; go_simp; with_reducible rfl)); (focus exact pU_)) | (refine SqOn.take (v := ?_) (a' := ?_) rfl rfl (Or.inl ⟨by kernel_rfl, ?_⟩) ?_ ?_; rotate_left 2; (focus (rintro w' ⟨s0, s1, s2, s3, s4, s5, s6, s7, s8, s9, s10, s11, s12, s13, s14, s15, s16, s17, s18, s19, s20, s21, s22, s23⟩; go_simp; with_reducible rfl)); (focus exact pU_)))
                  refine SqOn.nil ?_
                  refine one_ (i := 28) (N := some 190) (bm 84 536870911) rfl rfl (one_of HT_.out (by kernel_rfl)) (by decide) (fun K hK => ?_)
                  refine gO_ Try.func27 #[.int .i64 ((J24 (rd_L4 t464 1) x14_3).f0)] rfl ?_
                  with_reducible refine (r3_Latency.calls k3 ((J24 (rd_L4 t464 1) x14_3).f0) t523 _ A149.out).mono ?_
                  rintro e w' ⟨rfl, ⟨nd, rfl⟩⟩
                  refine ⟨_, rfl, ?_⟩
                  refine hK.out _ _ ⟨hHeld.1, hHeld.2.1, hHeld.2.2.1, hHeld.2.2.2.1, hHeld.2.2.2.2.1, hHeld.2.2.2.2.2.1, hHeld.2.2.2.2.2.2.1, hHeld.2.2.2.2.2.2.2.1, hHeld.2.2.2.2.2.2.2.2.1, hHeld.2.2.2.2.2.2.2.2.2.1, hHeld.2.2.2.2.2.2.2.2.2.2.1, hHeld.2.2.2.2.2.2.2.2.2.2.2.1, hHeld.2.2.2.2.2.2.2.2.2.2.2.2.1, hHeld.2.2.2.2.2.2.2.2.2.2.2.2.2.1, hHeld.2.2.2.2.2.2.2.2.2.2.2.2.2.2.1, hHeld.2.2.2.2.2.2.2.2.2.2.2.2.2.2.2.1, hHeld.2.2.2.2.2.2.2.2.2.2.2.2.2.2.2.2.1, hHeld.2.2.2.2.2.2.2.2.2.2.2.2.2.2.2.2.2.1, hHeld.2.2.2.2.2.2.2.2.2.2.2.2.2.2.2.2.2.2.1, hHeld.2.2.2.2.2.2.2.2.2.2.2.2.2.2.2.2.2.2.2.1, hHeld.2.2.2.2.2.2.2.2.2.2.2.2.2.2.2.2.2.2.2.2.1, hHeld.2.2.2.2.2.2.2.2.2.2.2.2.2.2.2.2.2.2.2.2.2.1, hHeld.2.2.2.2.2.2.2.2.2.2.2.2.2.2.2.2.2.2.2.2.2.2.1, hHeld.2.2.2.2.2.2.2.2.2.2.2.2.2.2.2.2.2.2.2.2.2.2.2⟩ (fun hHeld => ?_)
                  clear hK K
                  refine norm_ (a' := ?_) ?_ ?_
                  rotate_left
                  ·show Act.put _ (some 190) _ = _
                   simp only [Act.put, List.setIfInBounds_toArray, List.set_cons_zero, List.set_cons_succ, i64_w, i32_w]
                   rfl
                  refine sq_ (k := 47) [(29, some 191, false), (30, some 192, false), (31, some 193, false), (32, some 194, false), (33, some 195, false), (34, some 196, false), (35, some 197, false), (36, some 198, true)] (bm 84 137438953471) rfl (sq_of HT_.out HW_.out (by kernel_rfl)) (fun _ _ _ _ _ h => h) hHeld ?_
                  repeat (first | (refine SqOn.pure (v := ?_) (a' := ?_) rfl rfl (Or.inl ⟨by kernel_rfl, ?_⟩) ?_ ?_; rotate_left 2; (focus (intro w'; go_simp; with_reducible rfl)); (focus exact pU_)) | (refine SqOn.take (v := ?_) (a' := ?_) rfl rfl (Or.inl ⟨by kernel_rfl, ?_⟩) ?_ ?_; rotate_left 2; (focus (rintro w' ⟨s0, s1, s2, s3, s4, s5, s6, s7, s8, s9, s10, s11, s12, s13, s14, s15, s16, s17, s18, s19, s20, s21, s22, s23⟩; go_simp; with_reducible rfl)); (focus exact pU_)))
                  refine SqOn.nil ?_
                  refine one_ (i := 37) (N := some 199) (bm 84 274877906943) rfl rfl (one_of HT_.out (by kernel_rfl)) (by decide) (fun K hK => ?_)
                  refine gO_ Try.func36 #[.int .i64 ((J24 (rd_L4 t464 1) x14_3).f0)] rfl ?_
                  with_reducible refine (r3_Effect.calls ((J24 (rd_L4 t464 1) x14_3).f0) false _ A154.out).mono ?_
                  rintro e w' ⟨rfl, ⟨nd, rfl⟩⟩
                  refine ⟨_, rfl, ?_⟩
                  obtain ⟨Ao204, co204, eo204⟩ := Kd.R_slice HO_8.out
                  (first | subst eo204 | (injection eo204 with f1_ f2_ f3_; have f4_ := f1_.symm; have f5_ := f3_.symm; clear f1_ f2_ f3_; subst f4_; subst f5_))
                  refine hK.out _ _ ⟨hHeld.1, hHeld.2.1, hHeld.2.2.1, hHeld.2.2.2.1, hHeld.2.2.2.2.1, hHeld.2.2.2.2.2.1, hHeld.2.2.2.2.2.2.1, hHeld.2.2.2.2.2.2.2.1, hHeld.2.2.2.2.2.2.2.2.1, hHeld.2.2.2.2.2.2.2.2.2.1, hHeld.2.2.2.2.2.2.2.2.2.2.1, hHeld.2.2.2.2.2.2.2.2.2.2.2.1, hHeld.2.2.2.2.2.2.2.2.2.2.2.2.1, hHeld.2.2.2.2.2.2.2.2.2.2.2.2.2.1, hHeld.2.2.2.2.2.2.2.2.2.2.2.2.2.2.1, hHeld.2.2.2.2.2.2.2.2.2.2.2.2.2.2.2.1, hHeld.2.2.2.2.2.2.2.2.2.2.2.2.2.2.2.2.1, hHeld.2.2.2.2.2.2.2.2.2.2.2.2.2.2.2.2.2.1, hHeld.2.2.2.2.2.2.2.2.2.2.2.2.2.2.2.2.2.2.1, hHeld.2.2.2.2.2.2.2.2.2.2.2.2.2.2.2.2.2.2.2.1, hHeld.2.2.2.2.2.2.2.2.2.2.2.2.2.2.2.2.2.2.2.2.1, hHeld.2.2.2.2.2.2.2.2.2.2.2.2.2.2.2.2.2.2.2.2.2.1, hHeld.2.2.2.2.2.2.2.2.2.2.2.2.2.2.2.2.2.2.2.2.2.2.1, hHeld.2.2.2.2.2.2.2.2.2.2.2.2.2.2.2.2.2.2.2.2.2.2.2⟩ (fun hHeld => ?_)
                  clear hK K
                  refine norm_ (a' := ?_) ?_ ?_
                  rotate_left
                  ·show Act.put _ (some 199) _ = _
                   simp only [Act.put, List.setIfInBounds_toArray, List.set_cons_zero, List.set_cons_succ, i64_w, i32_w]
                   rfl
                  refine pure_ (i := 38) (N := some 200) (v := ?_) (a' := ?_) (bm 84 549755813887) rfl rfl (any_of HT_.out (by kernel_rfl)) (fun _ _ _ h => h) (Or.inl ⟨by rfl, ?_⟩) ?_ ?_
                  rotate_left
                  ·intro w'
                   go_simp
                   with_reducible rfl
                  rotate_left
                  ·simp only [Act.put, List.setIfInBounds_toArray, List.set_cons_zero, List.set_cons_succ, i64_w, i32_w]
                   rfl
                  refine sq_ (k := 39) [(39, some 201, false), (40, some 202, false), (41, some 203, false), (42, some 204, false), (43, some 205, false), (44, some 206, false)] (bm 84 35184372088831) rfl (sq_of HT_.out HW_.out (by kernel_rfl)) (fun _ _ _ _ _ h => h) hHeld ?_
                  repeat (refine SqOn.pure (v := undef) (a' := ?_) rfl rfl (Or.inr ⟨by kernel_rfl, rfl⟩) ?_ ?_; rotate_left; (focus (first | (simp only [Act.put, List.setIfInBounds_toArray, List.set_cons_zero, List.set_cons_succ]; rfl) | rfl)))
                  refine SqOn.nil ?_
                  refine sq_ (k := 12) [(45, some 207, false), (46, some 208, false), (47, some 209, false), (48, some 210, false), (49, some 211, false), (50, some 212, false), (51, some 213, true), (52, some 214, false), (53, some 215, false), (54, some 216, false), (55, some 217, false), (56, some 218, false), (57, some 219, false), (59, some 221, false), (60, some 222, false), (58, some 220, true), (61, some 223, false), (62, some 224, false), (63, some 225, false), (64, some 226, false), (65, some 227, false), (66, some 228, false), (68, some 230, false), (69, some 231, false), (67, some 229, true), (70, some 232, false), (71, some 233, false)] (bm 84 4722366482869645213695) rfl (sq_of HT_.out HW_.out (by kernel_rfl)) (fun _ _ _ _ _ h => h) hHeld ?_
                  repeat (first | (refine SqOn.pure (v := ?_) (a' := ?_) rfl rfl (Or.inl ⟨by kernel_rfl, ?_⟩) ?_ ?_; rotate_left 2; (focus (intro w'; go_simp; with_reducible rfl)); (focus exact pU_)) | (refine SqOn.take (v := ?_) (a' := ?_) rfl rfl (Or.inl ⟨by kernel_rfl, ?_⟩) ?_ ?_; rotate_left 2; (focus (rintro w' ⟨s0, s1, s2, s3, s4, s5, s6, s7, s8, s9, s10, s11, s12, s13, s14, s15, s16, s17, s18, s19, s20, s21, s22, s23⟩; go_simp; with_reducible rfl)); (focus exact pU_)))
                  refine SqOn.nil ?_
                  refine sq_ (k := 2) [(72, some 234, false), (73, some 235, false), (74, some 236, false), (75, some 237, false), (76, some 238, false), (77, some 239, false), (78, some 240, false), (79, some 241, false), (80, some 242, false), (81, some 243, false)] (bm 84 4835703278458516698824703) rfl (sq_of HT_.out HW_.out (by kernel_rfl)) (fun _ _ _ _ _ h => h) hHeld ?_
                  repeat (refine SqOn.pure (v := undef) (a' := ?_) rfl rfl (Or.inr ⟨by kernel_rfl, rfl⟩) ?_ ?_; rotate_left; (focus (first | (simp only [Act.put, List.setIfInBounds_toArray, List.set_cons_zero, List.set_cons_succ]; rfl) | rfl)))
                  refine SqOn.nil ?_
                  refine sq_ (k := 0) [(82, some 244, false), (83, some 245, false)] (bm 84 19342813113834066795298815) rfl (sq_of HT_.out HW_.out (by kernel_rfl)) (fun _ _ _ _ _ h => h) hHeld ?_
                  repeat (first | (refine SqOn.pure (v := ?_) (a' := ?_) rfl rfl (Or.inl ⟨by kernel_rfl, ?_⟩) ?_ ?_; rotate_left 2; (focus (intro w'; go_simp; with_reducible rfl)); (focus exact pU_)))
                  refine SqOn.nil ?_
                  refine done_ (done_of HT_.out (by kernel_rfl)) ?_
                  simp only [OnlyNormal]
                  try go_wp2
                  go_meet
                  case rel => exact ⟨_, (false), eQ_, H, ⟨by have := HJ11.out; have := HK2.out; have := HK3.out; first | omega | exact Nat.le_refl _⟩, ⟨by (with_reducible repeat (first | apply Kd.V_alloc | apply Kd.V_drewN | apply Kd.V_drew)); exact HO_3.out⟩, ⟨rR_ HO_6⟩, ⟨rR_ HO_8⟩, ⟨rR_ HO_10⟩, ⟨rB_ BK462⟩, ⟨bs_ HB GE462⟩⟩
                rw [if_neg c183] at H
                exact absurd H (by simp)
               rw [if_neg c148] at H
               have c148b0 := bE_ c148
               have c148b1 := bG_ c148
               first | exact (high_bad4 H hr).elim | exact (high_bad2 H hr).elim | exact (high_bad0 H hr).elim
              rw [if_neg c146] at H
              exact absurd H (by simp)
             rw [if_neg c86] at H
             exact absurd H (by simp)
            rw [if_neg c85] at H
            exact absurd H (by simp)
           case rest =>
            clear HC84
            obtain ⟨kq, x245_83, rfl, HA, HJ83, HO_3, HO_6, HO_8, HO_10, BK462, HB⟩ := hcut
            cases kq with
            | zero => exact absurd HA.out (by simp [w14_DagHigh.j4])
            | succ kj83 =>
             have H := HA.out
             clear HA
             simp only [w14_DagHigh.j4] at H
             by_cases c208 : x245_83 = true
             ·subst c208
              rw [if_pos rfl] at H
              obtain rfl := oI_ H
              go_wp2
              go_ret
              exact ⟨eR_, bs_ HB GE462⟩
             replace c208 := eF_ c208
             subst c208
             rw [if_neg Bool.false_ne_true] at H
             replace H := aM_ H
             go_wp2
             go_roundg kj83
             case measure => have := HJ11.out; have := HK2.out; have := HK3.out; have := HJ83.out; omega
             case rel => exact ⟨(wrap64 (x14_3 + 1)), eQ_, H, ⟨by have := HJ11.out; have := HK2.out; have := HK3.out; have := HJ83.out; omega⟩, ⟨by (with_reducible repeat (first | apply Kd.V_alloc | apply Kd.V_drewN | apply Kd.V_drew)); exact HO_3.out⟩, ⟨rR_ HO_6⟩, ⟨rR_ HO_8⟩, ⟨rR_ HO_10⟩, ⟨rB_ BK462⟩, ⟨bs_ HB GE462⟩⟩
          rw [if_neg c83] at H
          have c83b0 := dF_ c83
          clear c83
          replace H := oB_ H
          obtain ⟨t501, A209, H⟩ := H
          obtain rfl := oI_ H
          go_wp2_with (first | ((with_reducible refine gC_ (f := 26) rfl ?_); refine gL_ (some 246) Try.func26 #[] rfl ?_; (with_reducible refine (w14_wakes.calls k3  t501 _ A209.out).mono ?_); rintro e w210 ⟨rfl, hb⟩; refine ⟨_, rfl, ?_⟩; replace HO_3 := aM_ (Kd.V_below (by (with_reducible repeat (first | apply Kd.V_alloc | apply Kd.V_drewN | apply Kd.V_drew)); exact HO_3.out) hb); replace HO_6 := aM_ (Kd.R_below (rR_ HO_6) hb); replace HO_8 := aM_ (Kd.R_below (rR_ HO_8) hb); replace HO_10 := aM_ (Kd.R_below (rR_ HO_10) hb); replace BK462 := aM_ (kB_ (rB_ BK462) hb); replace HB := aM_ (bT_ (bs_ HB GE462) hb)))
          go_ret
          exact ⟨eR_, bs_ HB GE462⟩
     rw [if_neg c34] at H
     exact absurd H (by simp)
    rw [if_neg c33] at H
    exact absurd H (by simp)
 rw [if_neg c8] at H
 exact absurd H (by simp)
end Go.Proofs.Ytibfkkjkahpobaa.PDag

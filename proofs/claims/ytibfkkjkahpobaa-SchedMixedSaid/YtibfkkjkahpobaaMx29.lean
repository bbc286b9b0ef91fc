import Derived.Test.YtibfkkjkahpobaaMx28
import Derived.Test.YtibfkkjkahpobaaMx15
import Derived.Test.YtibfkkjkahpobaaMx18
import Derived.Test.YtibfkkjkahpobaaMx7
set_option linter.unusedVariables false
set_option linter.unusedSimpArgs false
set_option maxHeartbeats 8000000
set_option maxRecDepth 100000
open Go.RowKit Go.Proofs.YtibfkkjkahpobaaW.PrintWords Go.Proofs.YtibfkkjkahpobaaW.PrintLast Go.Proofs.YtibfkkjkahpobaaW.PrintMore
namespace Go.Proofs.Ytibfkkjkahpobaa.PDag
section
attribute [local go_sem] Oper.semAt_some
def waitsE (a : List Int) (c : Int) (e : S51) : Bool := decide (rd a e.f0 < 0) || decide (wrap64 (c - rd a e.f0) < e.f2)
theorem ready1_calls (p q g : Nat) (cs : Array Value) (Aat : Option Addr) (n cat : Nat) (at_ : List Int) (c : Int) (e : S51) (w : World) (hp : w.heap[p]? = some (.cells #[.pointer (some ⟨g, 0, none⟩)] 98 (0, 0))) (hq : w.heap[q]? = some (.cells #[.int .i64 c] 3 (0, 0)))
    (hg : w.heap[g]? = some (.cells cs 102 (0, 0))) (h4 : cs[4]? = some (.slice Aat n cat)) (hat : Kd.C (Kd.int .i64) w Aat n at_) (h0 : 0 ≤ e.f0) (h1 : e.f0 < n) :
    Calls Try.prog 128 #[.agg #[.int .i64 e.f0, .int .i64 e.f1, .int .i64 e.f2], .pointer (some ⟨p, 0, none⟩), .pointer (some ⟨q, 0, none⟩)] w fun x w' => x = .returned (.bool (waitsE at_ c e)) ∧ Below w.heap.size w w' := by
  have hu51 := Try.underlying51
  obtain ⟨ad, e1, hx⟩ := Kd.at_int hat e.f0 h0 h1
  subst e1
  have p0 : (0 ≤ e.f0) = True := eq_true h0
  have q0 : (e.f0 < (n : Int)) = True := eq_true h1
  have HP := aM_ hp
  have HQ := aM_ hq
  have HG := aM_ hg
  have HB := aM_ (Below.refl w.heap.size w)
  have H4 := aM_ h4
  clear hp hq hg h4 hat h0 h1
  go_enter Try.func128, Try.ntmps128
  go_wp2_with (first | ((with_reducible refine gate_dst (N := 3) rfl ?_); refine bX_ (N := 3) (cs := #[.int .i64 e.f0, .int .i64 e.f1, .int .i64 e.f2]) (t := 51) ?_; intro g3 hg w3 hbox hb; have z0 : w3.cell? ⟨g3, 0, none⟩ = some (.int .i64 e.f0) := (bC_ hbox 0).trans rfl; have z1 : w3.cell? ⟨g3, 1, none⟩ = some (.int .i64 e.f1) := (bC_ hbox 1).trans rfl; have z2 : w3.cell? ⟨g3, 2, none⟩ = some (.int .i64 e.f2) := (bC_ hbox 2).trans rfl; have x0 : w3.cell? ⟨p, 0, none⟩ = some (.pointer (some ⟨g, 0, none⟩)) := (bC_ (kB_ HP.out hb) 0).trans rfl; have x1 : w3.cell? ⟨q, 0, none⟩ = some (.int .i64 c) := (bC_ (kB_ HQ.out hb) 0).trans rfl; have x4 := (bC_ (kB_ HG.out hb) 4).trans H4.out; have hx1 := pw_cell_below hb hx; have HB1 := aM_ hb; clear hbox hg hb hx; clear HP HQ HG H4))
  by_cases hc : rd at_ e.f0 < 0
  · replace hc := eq_true hc
    go_region
    go_wp2
    go_ret
    exact ⟨by simp [waitsE, hc], HB1.out.trans (b1_ (Below.refl _ _))⟩
  · replace hc := eq_false hc
    go_region
    go_wp2
    go_ret
    exact ⟨by simp [waitsE, hc], HB1.out.trans (b1_ (Below.refl _ _))⟩
theorem idx130_calls (p q g : Nat) (cs : Array Value) (Aat : Option Addr) (n cat : Nat) (at_ : List Int) (c : Int) (A : Option Addr) (cE : Nat) (E : List S51) (w : World) (hE : Kd.C k51 w A E.length E) (hp : w.heap[p]? = some (.cells #[.pointer (some ⟨g, 0, none⟩)] 98 (0, 0))) (hq : w.heap[q]? = some (.cells #[.int .i64 c] 3 (0, 0)))
    (hg : w.heap[g]? = some (.cells cs 102 (0, 0))) (h4 : cs[4]? = some (.slice Aat n cat)) (hat : Kd.C (Kd.int .i64) w Aat n at_) (hin : ∀ j : Nat, j < E.length → 0 ≤ (q51 E j).f0 ∧ (q51 E j).f0 < n) :
    Calls Try.prog 130 #[.slice A E.length cE, .func (.func 128) #[] #[.pointer (some ⟨p, 0, none⟩), .pointer (some ⟨q, 0, none⟩)]] w fun x w' => (∃ r : Int, x = .returned (.int .i64 r) ∧ decide (r ≥ 0) = E.any (waitsE at_ c)) ∧ Below w.heap.size w w' := by
  have hu31 := Try.underlying31
  have hu51 := Try.underlying51
  have hmax := Kd.C_max hE
  have HP := aM_ hp
  have HQ := aM_ hq
  have HG := aM_ hg
  have H4 := aM_ h4
  have HA := aM_ hat
  have HE := aM_ hE
  have HI := aM_ hin
  clear hp hq hg h4 hat hE hin
  go_enter Try.func130, Try.ntmps130
  go_wp2
  go_loopw [8] (fun i wr => ∃ j : Nat, j ≤ E.length ∧ i = .int .i64 j ∧ As_ ((E.take j).any (waitsE at_ c) = false) ∧ As_ (Below w.heap.size w wr)) (fun i _ => ((E.length : Int) - intOf i).toNat)
  case atStart => exact ⟨0, Nat.zero_le _, rfl, ⟨by simp⟩, ⟨Below.refl _ _⟩⟩
  case round =>
    obtain ⟨j, hj, rfl, HN, HB⟩ := hrel
    by_cases hlt : j < E.length
    · obtain ⟨ad, e1, hx0, hx1, hx2⟩ := at_T51 HE.out (j : Int) (Int.natCast_nonneg _) (by omega)
      subst e1
      have hw := (Kd.C_below HE.out HB.out)
      replace hx0 := hC_ HB hx0
      replace hx1 := hC_ HB hx1
      replace hx2 := hC_ HB hx2
      clear hw
      have p1 : ((0 : Int) ≤ (j : Int)) = True := eq_true (Int.natCast_nonneg _)
      have q1 : ((j : Int) < (E.length : Int)) = True := eq_true (by omega)
      have hi := HI.out j hlt
      rw [Int.toNat_natCast] at hx0 hx1 hx2
      have hw2 : wrap64 ((j : Int) + 1) = ((j + 1 : Nat) : Int) := by unfold wrap64; omega
      have hsnoc : (E.take (j + 1)).any (waitsE at_ c) = ((E.take j).any (waitsE at_ c) || waitsE at_ c (q51 E j)) := by
        rw [rd51_at E j hlt, List.take_succ_eq_append_getElem hlt, List.any_append]; simp
      have hall : waitsE at_ c (q51 E j) = true → E.any (waitsE at_ c) = true := fun h => by
        rw [List.any_eq_true]
        exact ⟨E[j], List.getElem_mem hlt, by rwa [rd51_at E j hlt] at h⟩
      have HS := aM_ hsnoc
      have HL := aM_ hall
      clear hsnoc hall
      go_wp2_with (go_at_call 128; refine (ready1_calls p q g cs Aat n cat at_ c (q51 E j) _ ?s1 ?s2 ?s3 H4.out ?s4 hi.1 hi.2).mono ?_; (case s1 => exact kB_ HP.out (by repeat (first | exact HB.out | apply b1_))); (case s2 => exact kB_ HQ.out (by repeat (first | exact HB.out | apply b1_))); (case s3 => exact kB_ HG.out (by repeat (first | exact HB.out | apply b1_))); (case s4 => exact Kd.C_below HA.out (by repeat (first | exact HB.out | apply b1_))); rintro e w' ⟨rfl, hb⟩; have HB1 := aM_ hb; clear hb; cases hwt : waitsE at_ c (q51 E j))
      · refine ⟨⟨j + 1, by omega, by congr 1, ⟨by rw [HS.out, HN.out, hwt]; rfl⟩, ⟨HB.out.trans (HB1.out.mono HB.out.size)⟩⟩, ?_⟩
        simp [intOf]; omega
      · go_ret
        exact ⟨⟨_, rfl, by rw [HL.out hwt]; simp⟩, HB.out.trans (HB1.out.mono HB.out.size)⟩
    · obtain rfl : j = E.length := by omega
      have q1 : ((E.length : Int) < (E.length : Int)) = False := eq_false (by omega)
      go_wp2
      go_ret
      exact ⟨⟨_, rfl, by rw [← List.take_length (l := E)]; simpa using HN.out⟩, HB.out⟩
theorem has129_calls (p q g : Nat) (cs : Array Value) (Aat : Option Addr) (n cat : Nat) (at_ : List Int) (c : Int) (A : Option Addr) (cE : Nat) (E : List S51) (w : World) (hE : Kd.C k51 w A E.length E) (hp : w.heap[p]? = some (.cells #[.pointer (some ⟨g, 0, none⟩)] 98 (0, 0))) (hq : w.heap[q]? = some (.cells #[.int .i64 c] 3 (0, 0)))
    (hg : w.heap[g]? = some (.cells cs 102 (0, 0))) (h4 : cs[4]? = some (.slice Aat n cat)) (hat : Kd.C (Kd.int .i64) w Aat n at_) (hin : ∀ j : Nat, j < E.length → 0 ≤ (q51 E j).f0 ∧ (q51 E j).f0 < n) :
    Calls Try.prog 129 #[.slice A E.length cE, .func (.func 128) #[] #[.pointer (some ⟨p, 0, none⟩), .pointer (some ⟨q, 0, none⟩)]] w fun x w' => x = .returned (.bool (E.any (waitsE at_ c))) ∧ Below w.heap.size w w' := by
  have HX := aM_ (idx130_calls p q g cs Aat n cat at_ c A cE E w hE hp hq hg h4 hat hin)
  clear hp hq hg h4 hat hin hE
  go_enter Try.func129, Try.ntmps129
  go_wp2_with (go_at_call 130; refine HX.out.mono ?_; rintro e w' ⟨⟨r, rfl, hr⟩, hb⟩; have HB := aM_ hb; have HR := aM_ hr; clear hb hr)
  go_ret
  exact ⟨by rw [← HR.out]; rfl, HB.out⟩
def rd_L51 (xs : List (List S51)) (i : Int) : List S51 := xs.getD i.toNat []
theorem at_L51 {w : World} {A : Option Addr} {n : Nat} {xs : List (List S51)} (h : Kd.C (Kd.slice 51 k51) w A n xs) (i : Int) (h0 : 0 ≤ i) (h1 : i < n) : ∃ ad A0 c0, A = some ad ∧ w.cell? (ad.add i.toNat) = some (.slice A0 (rd_L51 xs i).length c0) ∧ (rd_L51 xs i).length ≤ c0 ∧ k51.C w A0 (rd_L51 xs i).length (rd_L51 xs i) := by
  obtain ⟨ad, c, e, _, hK, hc0⟩ := Kd.C_get h ([] : List S51) i h0 h1
  have hc : ∀ j u, c[j]? = some u → w.cell? (ad.add (i.toNat * 1 + j)) = some u := hc0
  obtain ⟨A0, c0, rfl, l0, g0⟩ := hK
  exact ⟨ad, A0, c0, e, by have hq := hc 0 _ rfl; rwa [Nat.mul_one, Nat.add_zero] at hq, l0, g0⟩
def readyP (AH : List (List S51)) (a : List Int) (i : Nat) (c : Int) : Bool := decide (rd a i < 0) && !((rd_L51 AH i).any (waitsE a c))
theorem ready_calls (g : Nat) (cs : Array Value) (Aat Aah : Option Addr) (n cat cah : Nat) (at_ : List Int) (AH : List (List S51)) (i : Nat) (c : Int) (w : World) (hg : w.heap[g]? = some (.cells cs 102 (0, 0))) (h1 : cs[1]? = some (.slice Aah n cah)) (h4 : cs[4]? = some (.slice Aat n cat))
    (hat : Kd.C (Kd.int .i64) w Aat n at_) (hah : Kd.C (Kd.slice 51 k51) w Aah n AH) (hi : i < n) (hin : ∀ j : Nat, j < (rd_L51 AH i).length → 0 ≤ (q51 (rd_L51 AH i) j).f0 ∧ (q51 (rd_L51 AH i) j).f0 < n) :
    Calls Try.prog 123 #[.pointer (some ⟨g, 0, none⟩), .int .i64 i, .int .i64 c] w fun x w' => x = .returned (.bool (readyP AH at_ i c)) ∧ Below w.heap.size w w' := by
  obtain ⟨ad, e1, hx⟩ := Kd.at_int hat (i : Int) (Int.natCast_nonneg _) (by omega)
  obtain ⟨ad2, A2, c2, e2, hy, hl2, hC2⟩ := at_L51 hah (i : Int) (Int.natCast_nonneg _) (by omega)
  subst e1
  subst e2
  rw [Int.toNat_natCast] at hx hy
  have p0 : ((0 : Int) ≤ (i : Int)) = True := eq_true (Int.natCast_nonneg _)
  have q0 : ((i : Int) < (n : Int)) = True := eq_true (by omega)
  have HG := aM_ hg
  have H4 := aM_ h4
  have H1 := aM_ h1
  have HA := aM_ hat
  have HC := aM_ hC2
  have HI := aM_ hin
  have HX := aM_ hx
  have HY := aM_ hy
  clear hg h4 h1 hat hah hC2 hin hx hy hl2
  go_enter Try.func123, Try.ntmps123
  go_wp2_with (first | ((with_reducible refine gate_dst (N := 3) rfl ?_); refine bX_ (N := 3) (cs := #[.pointer (some ⟨g, 0, none⟩)]) (t := 98) ?_; intro p hp w3 hbox hb; have HP := aM_ hbox; have HB1 := aM_ hb; clear hbox hb hp) | ((with_reducible refine gate_dst (N := 5) rfl ?_); refine bX_ (N := 5) (cs := #[.int .i64 c]) (t := 3) ?_; intro q hq w4 hbox hb; have HQ := aM_ hbox; have HB2 := aM_ hb; have x0 : w4.cell? ⟨p, 0, none⟩ = some (.pointer (some ⟨g, 0, none⟩)) := (bC_ (kB_ HP.out hb) 0).trans rfl; have HG4 := aM_ (kB_ (kB_ HG.out HB1.out) hb); have x4 : w4.cell? ⟨g, 4, none⟩ = some (.slice (some ad) n cat) := (bC_ HG4.out 4).trans H4.out; have x1 : w4.cell? ⟨g, 1, none⟩ = some (.slice (some ad2) n cah) := (bC_ HG4.out 1).trans H1.out; have HB3 := aM_ (HB1.out.trans (hb.mono HB1.out.size)); have hx := pw_cell_below HB3.out HX.out; have hy := pw_cell_below HB3.out HY.out; clear hbox hb hq) | (go_at_call 129; refine (has129_calls p q g cs (some ad) n cat at_ c A2 c2 (rd_L51 AH i) _ (Kd.C_below HC.out HB3.out) (kB_ HP.out HB2.out) HQ.out HG4.out H4.out (Kd.C_below HA.out HB3.out) HI.out).mono ?_; rintro e w' ⟨rfl, hb⟩; have HB5 := aM_ hb; clear hb))
  · go_ret
    refine ⟨?_, HB3.out.trans (HB5.out.mono HB3.out.size)⟩
    unfold readyP
    simp_all
  · go_ret
    refine ⟨?_, HB3.out⟩
    unfold readyP
    simp_all
    intro h
    omega
def best108.T6 : Bool × List (List Nat × List Nat) := (true, [([], []), ([0], [0]), ([1], [1]), ([2], [2]), ([3, 2], [2, 3]), ([4, 2], [2, 4]), ([5, 2], [2, 5]), ([2], [2]), ([6, 7, 2], [2, 6, 7]), ([8, 2], [2, 8]), ([2], [2]), ([10, 2], [2, 10]), ([11, 2], [2, 11]), ([12, 2], [2, 12]), ([2], [2]), ([13, 14, 2], [2, 13, 14]), ([15, 2], [2, 15]), ([9, 16, 2], [2, 9, 16]), ([2, 17], [2, 17]), ([18, 2], [18]), ([19], [19]), ([20, 19], [19, 20]), ([21, 19], [19, 21]), ([22, 19], [19, 22]), ([19], [19]), ([23, 24, 19], [19, 23, 24]), ([25, 19], [19, 25]), ([19], [19]), ([27, 19], [19, 27]), ([28, 19], [19, 28]), ([29, 19], [19, 29]), ([19], [19]), ([30, 31, 19], [19, 30, 31]), ([32, 19], [19, 32]), ([26, 33, 19], [19, 26, 33]), ([34, 19, 19], [19, 34]), ([35], [35]), ([36, 35], [35, 36]), ([37, 35], [35, 37]), ([38, 35], [35, 38]), ([35], [35]), ([39, 40, 35], [35, 39, 40]), ([41, 35], [35, 41]), ([35], [35]), ([43, 35], [35, 43]), ([44, 35], [35, 44]), ([45, 35], [35, 45]), ([35], [35]), ([46, 47, 35], [35, 46, 47]), ([48, 35], [35, 48]), ([42, 49, 35], [35, 42, 49]), ([35, 50, 19], [19, 35, 50]), ([19, 51], [19, 51])])
def best108.B6 : List Nat := [0, 1, 3, 7, 15, 31, 63, 7, 255, 511, 7, 1031, 3079, 7175, 7, 31751, 64519, 131071, 262143, 524287, 1048575, 2097151, 4194303, 8388607, 1048575, 33554431, 67108863, 1048575, 135266303, 403701759, 940572671, 1048575, 4161798143, 8456765439, 17179869183, 34359738367, 68719476735, 137438953471, 274877906943, 549755813887, 68719476735, 2199023255551, 4398046511103, 68719476735, 8864812498943, 26456998543359, 61641370632191, 68719476735, 272747603165183, 554222579875839, 1125899906842623, 2251799813685247, 4503599627370495]
theorem best108.tab6 : rtab .any (opsOf Try.f108 6) = best108.T6 := by kernel_rfl
theorem best108.bits6 : waitsOk best108.T6.2 best108.B6 = true := by kernel_rfl
theorem best_calls (g : Nat) (cs : Array Value) (Al Aah Au Ah Aat : Option Addr) (cl cah cu ch cat : Nat) (l : List S24) (AH : List (List S51)) (U H at_ : List Int) (c s : Int) (may : Nat → Bool) (w : World)
    (hg : w.heap[g]? = some (.cells cs 102 (0, 0))) (h0 : cs[0]? = some (.slice Al l.length cl)) (h1 : cs[1]? = some (.slice Aah l.length cah)) (h2 : cs[2]? = some (.slice Au l.length cu)) (h3 : cs[3]? = some (.slice Ah l.length ch)) (h4 : cs[4]? = some (.slice Aat l.length cat))
    (hl : Kd.C k24 w Al l.length l) (hah : Kd.C (Kd.slice 51 k51) w Aah l.length AH) (hu : Kd.C (Kd.int .i64) w Au l.length U) (hh : Kd.C (Kd.int .i64) w Ah l.length H) (hat : Kd.C (Kd.int .i64) w Aat l.length at_)
    (hin : ∀ i : Nat, i < l.length → ∀ j : Nat, j < (rd_L51 AH i).length → 0 ≤ (q51 (rd_L51 AH i) j).f0 ∧ (q51 (rd_L51 AH i) j).f0 < l.length)
    (hmay : ∀ j : Nat, j < l.length → ∀ W, Calls Try.prog 87 #[.int .i64 (q24 l j).f0, .int .i64 s] W fun e W' => e = .returned (.bool (may j)) ∧ Dr_ W W') (hmx : l.length ≤ 1000000) :
    Calls Try.prog 108 #[.pointer (some ⟨g, 0, none⟩), .int .i64 c, .int .i64 s] w fun x w' => x = .returned (.int .i64 (bestUp (fun i => may i && readyP AH at_ i c) U H l.length)) ∧ Below w.heap.size w w' := by
  have hu24 := Try.underlying24
  have HG := aM_ hg
  have H0 := aM_ h0
  have H1 := aM_ h1
  have H2 := aM_ h2
  have H3 := aM_ h3
  have H4 := aM_ h4
  have HL := aM_ hl
  have HH := aM_ hah
  have HU := aM_ hu
  have HE := aM_ hh
  have HA := aM_ hat
  have HI := aM_ hin
  have HM := aM_ hmay
  have x0 : w.cell? ⟨g, 0, none⟩ = some (.slice Al l.length cl) := (bC_ HG.out 0).trans H0.out
  clear hg h0 h1 h2 h3 h4 hl hah hu hh hat hin hmay
  go_enter Try.func108, Try.ntmps108
  go_wp2
  go_loopw [7, 15] (fun b i wr => ∃ j : Nat, j ≤ l.length ∧ i = .int .i64 j ∧ b = .int .i64 (bestUp (fun i => may i && readyP AH at_ i c) U H j) ∧ As_ (Below w.heap.size w wr)) (fun _ i _ => l.length - (intOf i).toNat)
  case atStart => exact ⟨0, Nat.zero_le _, rfl, rfl, ⟨Below.refl _ _⟩⟩
  case round =>
    obtain ⟨j, hj, rfl, rfl, HB⟩ := hrel
    by_cases hlt : j < l.length
    · obtain ⟨ad, e1, hx0, hx1, hx2, hx3, hx4, hx5⟩ := at_T24 HL.out (j : Int) (Int.natCast_nonneg _) (by omega)
      subst e1
      rw [Int.toNat_natCast] at hx0 hx1 hx2 hx3 hx4 hx5
      replace hx0 := hC_ HB hx0
      replace hx1 := hC_ HB hx1
      replace hx2 := hC_ HB hx2
      replace hx3 := hC_ HB hx3
      replace hx4 := hC_ HB hx4
      replace hx5 := hC_ HB hx5
      have p1 : ((0 : Int) ≤ (j : Int)) = True := eq_true (Int.natCast_nonneg _)
      have q1 : ((j : Int) < (l.length : Int)) = True := eq_true (by omega)
      have q2 : (j < l.length) = True := eq_true hlt
      have hw2 : wrap64 ((j : Int) + 1) = ((j + 1 : Nat) : Int) := by unfold wrap64; omega
      have bx : (wr.alloc (.cells #[.int .i64 0, .int .i64 0, .int .i64 0, .int .i64 0, .int .i64 0, .string (⟨#[]⟩ : ByteArray)] 24)).heap[wr.heap.size]? = some (.cells #[.int .i64 0, .int .i64 0, .int .i64 0, .int .i64 0, .int .i64 0, .string (⟨#[]⟩ : ByteArray)] 24 (0, 0)) := blk_new wr _
      have z0 := (bC_ bx 0).trans rfl
      have z1 := (bC_ bx 1).trans rfl
      have z2 := (bC_ bx 2).trans rfl
      have z3 := (bC_ bx 3).trans rfl
      have z4 := (bC_ bx 4).trans rfl
      have z5 := (bC_ bx 5).trans rfl
      have y0 := bZ_ bx 0
      have y1 := bZ_ bx 1
      have y2 := bZ_ bx 2
      have y3 := bZ_ bx 3
      have y4 := bZ_ bx 4
      have y5 := bZ_ bx 5
      clear bx
      go_wp2_with fail
      have bx := blk_new wr (.cells #[.int .i64 (q24 l (j : Int)).f0, .int .i64 (q24 l (j : Int)).f1, .int .i64 (q24 l (j : Int)).f2, .int .i64 (q24 l (j : Int)).f3, .int .i64 (q24 l (j : Int)).f4, .string (q24 l (j : Int)).f5] 24 (0, 0))
      have HB7 := aM_ (HB.out.alloc HB.out.size (.cells #[.int .i64 (q24 l (j : Int)).f0, .int .i64 (q24 l (j : Int)).f1, .int .i64 (q24 l (j : Int)).f2, .int .i64 (q24 l (j : Int)).f3, .int .i64 (q24 l (j : Int)).f4, .string (q24 l (j : Int)).f5] 24 (0, 0)))
      generalize hW7 : wr.alloc (.cells #[.int .i64 (q24 l (j : Int)).f0, .int .i64 (q24 l (j : Int)).f1, .int .i64 (q24 l (j : Int)).f2, .int .i64 (q24 l (j : Int)).f3, .int .i64 (q24 l (j : Int)).f4, .string (q24 l (j : Int)).f5] 24 (0, 0)) = W7 at bx HB7 ⊢
      clear hW7 z0 z1 z2 z3 z4 z5 y0 y1 y2 y3 y4 y5 hx0 hx1 hx2 hx3 hx4 hx5 HB
      have t0 : W7.cell? ⟨wr.heap.size, 0, none⟩ = some (.int .i64 (q24 l (j : Int)).f0) := (bC_ bx 0).trans rfl
      clear bx
      have hc := HM.out j hlt W7
      have HR := aM_ (ready_calls g cs Aat Aah l.length cat cah at_ AH j c)
      cases hm : may j with
      | false =>
        rw [hm] at hc
        have HC := aM_ hc
        clear hc
        have HN : bestUp (fun i => may i && readyP AH at_ i c) U H (j + 1) = bestUp (fun i => may i && readyP AH at_ i c) U H j := by
          rw [bestUp]; simp [hm]
        go_wp2_with (go_at_call 87; refine HC.out.mono ?_; rintro e w' ⟨rfl, ⟨nd, rfl⟩⟩)
        exact ⟨⟨j + 1, by omega, by congr 1, by rw [HN], ⟨bN_ HB7.out nd⟩⟩, by simp [intOf]; omega⟩
      | true =>
        rw [hm] at hc
        have HC := aM_ hc
        have HR := aM_ (fun nd => ready_calls g cs Aat Aah l.length cat cah at_ AH j c (W7.drewN nd) (((bN_ HB7.out nd).block g (blk_lt HG.out)).trans HG.out) H1.out H4.out (Kd.C_below HA.out (bN_ HB7.out nd)) (Kd.C_below HH.out (bN_ HB7.out nd)) hlt (HI.out j hlt))
        clear hc
        cases hr : readyP AH at_ j c with
        | false =>
          rw [hr] at HR
          have HN : bestUp (fun i => may i && readyP AH at_ i c) U H (j + 1) = bestUp (fun i => may i && readyP AH at_ i c) U H j := by
            rw [bestUp]; simp [hr]
          go_wp2_with (first | (go_at_call 87; refine HC.out.mono ?_; rintro e w' ⟨rfl, ⟨nd, rfl⟩⟩) | (go_at_call 123; refine (HR.out _).mono ?_; rintro e w' ⟨rfl, hb⟩; have HB8 := aM_ hb; clear hb))
          exact ⟨⟨j + 1, by omega, by congr 1, by rw [HN], ⟨(bN_ HB7.out nd).trans (HB8.out.mono (bN_ HB7.out nd).size)⟩⟩, by simp [intOf]; omega⟩
        | true =>
          rw [hr] at HR
          obtain ⟨au, eu, huj⟩ := Kd.at_int HU.out (j : Int) (Int.natCast_nonneg _) (by omega)
          obtain ⟨ah, eh, hhj⟩ := Kd.at_int HE.out (j : Int) (Int.natCast_nonneg _) (by omega)
          subst eu
          subst eh
          rw [Int.toNat_natCast] at huj hhj
          have UJ := aM_ huj
          have EJ := aM_ hhj
          clear huj hhj
          have hstep : bestUp (fun i => may i && readyP AH at_ i c) U H (j + 1) = if better U H (bestUp (fun i => may i && readyP AH at_ i c) U H j) j = true then (j : Int) else bestUp (fun i => may i && readyP AH at_ i c) U H j := by
            rw [bestUp]; simp [hm, hr]
          have HS := aM_ hstep
          clear hstep
          rcases bestUp_range (fun i => may i && readyP AH at_ i c) U H j with hneg | ⟨i, hi, hbi, _⟩
          · have hbet : better U H (-1) j = true := by unfold better; simp
            rw [hneg] at HS ⊢
            go_wp2_with (first | (go_at_call 87; refine HC.out.mono ?_; rintro e w' ⟨rfl, ⟨nd, rfl⟩⟩) | (go_at_call 123; refine (HR.out _).mono ?_; rintro e w' ⟨rfl, hb⟩; have HB8 := aM_ ((bN_ HB7.out nd).trans (hb.mono (bN_ HB7.out nd).size)); clear hb; have m2 : w'.cell? ⟨g, 2, none⟩ = some (.slice (some au) l.length cu) := (bC_ ((HB8.out.block g (blk_lt HG.out)).trans HG.out) 2).trans H2.out; have m3 : w'.cell? ⟨g, 3, none⟩ = some (.slice (some ah) l.length ch) := (bC_ ((HB8.out.block g (blk_lt HG.out)).trans HG.out) 3).trans H3.out; have uj := pw_cell_below HB8.out UJ.out; have hj := pw_cell_below HB8.out EJ.out; (try have ui := pw_cell_below HB8.out UI.out); (try have hi_ := pw_cell_below HB8.out EI.out)))
            refine start_ (n := 53) (S := fun w' => True) (ds := []) (bm 53 0) (by kernel_rfl) rfl (by kernel_rfl) trivial (fun hHeld => ?_); refine with_tabW best108.tab6 best108.bits6 (fun HT_ HW_ => ?_)
            refine sq_ (k := 50) [(0, some 32, false), (1, some 33, false), (2, some 34, false)] (bm 53 7) rfl (sq_of HT_.out HW_.out (by kernel_rfl)) (fun _ _ _ _ _ h => h) hHeld ?_
            repeat (first | (refine SqOn.pure (v := ?_) (a' := ?_) rfl rfl (Or.inl ⟨by kernel_rfl, ?_⟩) ?_ ?_; rotate_left 2; (focus (intro w'; go_simp; with_reducible rfl)); (focus exact pU_)))
            refine SqOn.nil ?_
            refine offs_ (k := 35) (a' := ?_) [3, 4, 5, 6, 7, 8, 9, 10, 11, 12, 13, 14, 15, 16, 17] [some 35, some 36, some 37, some 38, some 39, some 40, some 41, some 42, some 43, some 44, some 45, some 46, some 47, some 48, some 49] (bm 53 262143) rfl rfl (off_of HT_.out (by kernel_rfl)) (by kernel_rfl) (fun _ _ _ _ _ h => h) ?_ ?_
            rotate_left
            · simp only [undefs, Act.put, List.setIfInBounds_toArray, List.set_cons_zero, List.set_cons_succ]
              rfl
            refine sq_ (k := 33) [(18, some 50, false), (19, some 51, false)] (bm 53 1048575) rfl (sq_of HT_.out HW_.out (by kernel_rfl)) (fun _ _ _ _ _ h => h) hHeld ?_
            repeat (first | (refine SqOn.pure (v := ?_) (a' := ?_) rfl rfl (Or.inl ⟨by kernel_rfl, ?_⟩) ?_ ?_; rotate_left 2; (focus (intro w'; go_simp; with_reducible rfl)); (focus exact pU_)))
            refine SqOn.nil ?_
            refine offs_ (k := 1) (a' := ?_) [20, 21, 22, 23, 24, 25, 26, 27, 28, 29, 30, 31, 32, 33, 34, 35, 36, 37, 38, 39, 40, 41, 42, 43, 44, 45, 46, 47, 48, 49, 50, 51] [some 52, some 53, some 54, some 55, some 56, some 57, some 58, some 59, some 60, some 61, some 62, some 63, some 64, some 65, some 66, some 67, some 68, some 69, some 70, some 71, some 72, some 73, some 74, some 75, some 76, some 77, some 78, some 79, some 80, some 81, some 82, some 83] (bm 53 4503599627370495) rfl rfl (off_of HT_.out (by kernel_rfl)) (by kernel_rfl) (fun _ _ _ _ _ h => h) ?_ ?_
            rotate_left
            · simp only [undefs, Act.put, List.setIfInBounds_toArray, List.set_cons_zero, List.set_cons_succ]
              rfl
            refine sq_ (k := 0) [(52, some 84, false)] (bm 53 9007199254740991) rfl (sq_of HT_.out HW_.out (by kernel_rfl)) (fun _ _ _ _ _ h => h) hHeld ?_
            repeat (first | (refine SqOn.pure (v := ?_) (a' := ?_) rfl rfl (Or.inl ⟨by kernel_rfl, ?_⟩) ?_ ?_; rotate_left 2; (focus (intro w'; go_simp; with_reducible rfl)); (focus exact pU_)))
            refine SqOn.nil ?_
            refine done_ (done_of HT_.out (by kernel_rfl)) ?_
            go_wp2
            exact ⟨⟨j + 1, by omega, by congr 1, by rw [HS.out, hbet, if_pos rfl], ⟨by repeat (first | exact HB8.out | apply b1_)⟩⟩, by simp [intOf]; omega⟩
          · obtain ⟨au2, eu2, hui⟩ := Kd.at_int HU.out (i : Int) (Int.natCast_nonneg _) (by omega)
            obtain ⟨ah2, eh2, hhi⟩ := Kd.at_int HE.out (i : Int) (Int.natCast_nonneg _) (by omega)
            obtain rfl := Option.some.inj eu2
            obtain rfl := Option.some.inj eh2
            rw [Int.toNat_natCast] at hui hhi
            have UI := aM_ hui
            have EI := aM_ hhi
            clear hui hhi eu2 eh2
            rw [hbi] at HS ⊢
            have p2 : ((0 : Int) ≤ (i : Int)) = True := eq_true (Int.natCast_nonneg _)
            have q3 : ((i : Int) < (l.length : Int)) = True := eq_true (by omega)
            have q4 : (i < l.length) = True := eq_true (by omega)
            have n2 : ((i : Int) < 0) = False := eq_false (by omega)
            by_cases hU1 : rd U j < rd U i
            · have hbet : better U H (i : Int) j = true := by unfold better; simp [hU1]
              have c1 : (rd U j < rd U i) = True := eq_true hU1
              clear hU1
              go_wp2_with (first | (go_at_call 87; refine HC.out.mono ?_; rintro e w' ⟨rfl, ⟨nd, rfl⟩⟩) | (go_at_call 123; refine (HR.out _).mono ?_; rintro e w' ⟨rfl, hb⟩; have HB8 := aM_ ((bN_ HB7.out nd).trans (hb.mono (bN_ HB7.out nd).size)); clear hb; have m2 : w'.cell? ⟨g, 2, none⟩ = some (.slice (some au) l.length cu) := (bC_ ((HB8.out.block g (blk_lt HG.out)).trans HG.out) 2).trans H2.out; have m3 : w'.cell? ⟨g, 3, none⟩ = some (.slice (some ah) l.length ch) := (bC_ ((HB8.out.block g (blk_lt HG.out)).trans HG.out) 3).trans H3.out; have uj := pw_cell_below HB8.out UJ.out; have hj := pw_cell_below HB8.out EJ.out; (try have ui := pw_cell_below HB8.out UI.out); (try have hi_ := pw_cell_below HB8.out EI.out)))
              refine start_ (n := 53) (S := fun w' => w'.cell? ⟨g, 2, none⟩ = some (.slice (some au) l.length cu) ∧ w'.cell? (au.add j) = some (.int .i64 (rd U (j : Int))) ∧ w'.cell? (au.add i) = some (.int .i64 (rd U (i : Int)))) (ds := []) (bm 53 0) (by kernel_rfl) rfl (by kernel_rfl) ⟨m2, uj, ui⟩ (fun hHeld => ?_); refine with_tabW best108.tab6 best108.bits6 (fun HT_ HW_ => ?_)
              refine sq_ (k := 33) [(0, some 32, false), (1, some 33, false), (2, some 34, false), (3, some 35, false), (4, some 36, false), (5, some 37, false), (7, some 39, false), (10, some 42, false), (11, some 43, false), (12, some 44, false), (14, some 46, false), (6, some 38, true), (8, some 40, false), (9, some 41, true), (13, some 45, true), (15, some 47, false), (16, some 48, true), (17, some 49, false), (18, some 50, false), (19, some 51, false)] (bm 53 1048575) rfl (sq_of HT_.out HW_.out (by kernel_rfl)) (fun _ _ _ _ _ h => h) hHeld ?_
              repeat (first | (refine SqOn.pure (v := ?_) (a' := ?_) rfl rfl (Or.inl ⟨by kernel_rfl, ?_⟩) ?_ ?_; rotate_left 2; (focus (intro w'; go_simp; with_reducible rfl)); (focus exact pU_)) | (refine SqOn.take (v := ?_) (a' := ?_) rfl rfl (Or.inl ⟨by kernel_rfl, ?_⟩) ?_ ?_; rotate_left 2; (focus (rintro w' ⟨s0, s1, s2⟩; go_simp; with_reducible rfl)); (focus exact pU_)))
              refine SqOn.nil ?_
              refine offs_ (k := 1) (a' := ?_) [20, 21, 22, 23, 24, 25, 26, 27, 28, 29, 30, 31, 32, 33, 34, 35, 36, 37, 38, 39, 40, 41, 42, 43, 44, 45, 46, 47, 48, 49, 50, 51] [some 52, some 53, some 54, some 55, some 56, some 57, some 58, some 59, some 60, some 61, some 62, some 63, some 64, some 65, some 66, some 67, some 68, some 69, some 70, some 71, some 72, some 73, some 74, some 75, some 76, some 77, some 78, some 79, some 80, some 81, some 82, some 83] (bm 53 4503599627370495) rfl rfl (off_of HT_.out (by kernel_rfl)) (by kernel_rfl) (fun _ _ _ _ _ h => h) ?_ ?_
              rotate_left
              · simp only [undefs, Act.put, List.setIfInBounds_toArray, List.set_cons_zero, List.set_cons_succ]
                rfl
              refine sq_ (k := 0) [(52, some 84, false)] (bm 53 9007199254740991) rfl (sq_of HT_.out HW_.out (by kernel_rfl)) (fun _ _ _ _ _ h => h) hHeld ?_
              repeat (first | (refine SqOn.pure (v := ?_) (a' := ?_) rfl rfl (Or.inl ⟨by kernel_rfl, ?_⟩) ?_ ?_; rotate_left 2; (focus (intro w'; go_simp; with_reducible rfl)); (focus exact pU_)))
              refine SqOn.nil ?_
              refine done_ (done_of HT_.out (by kernel_rfl)) ?_
              go_wp2
              exact ⟨⟨j + 1, by omega, by congr 1, by rw [HS.out, hbet, if_pos rfl], ⟨by repeat (first | exact HB8.out | apply b1_)⟩⟩, by simp [intOf]; omega⟩
            · by_cases hU2 : rd U j = rd U i
              · by_cases hH : rd H i < rd H j
                · have hbet : better U H (i : Int) j = true := by unfold better; simp [hU2, hH]
                  have c1 : (rd U j < rd U i) = False := eq_false hU1
                  have c2 : (rd U j = rd U i) = True := eq_true hU2
                  have c2b : (rd U j == rd U i) = true := beq_iff_eq.mpr hU2
                  have c3 : (rd H i < rd H j) = True := eq_true hH
                  clear hU1 hU2 hH
                  go_wp2_with (first | (go_at_call 87; refine HC.out.mono ?_; rintro e w' ⟨rfl, ⟨nd, rfl⟩⟩) | (go_at_call 123; refine (HR.out _).mono ?_; rintro e w' ⟨rfl, hb⟩; have HB8 := aM_ ((bN_ HB7.out nd).trans (hb.mono (bN_ HB7.out nd).size)); clear hb; have m2 : w'.cell? ⟨g, 2, none⟩ = some (.slice (some au) l.length cu) := (bC_ ((HB8.out.block g (blk_lt HG.out)).trans HG.out) 2).trans H2.out; have m3 : w'.cell? ⟨g, 3, none⟩ = some (.slice (some ah) l.length ch) := (bC_ ((HB8.out.block g (blk_lt HG.out)).trans HG.out) 3).trans H3.out; have uj := pw_cell_below HB8.out UJ.out; have hj := pw_cell_below HB8.out EJ.out; (try have ui := pw_cell_below HB8.out UI.out); (try have hi_ := pw_cell_below HB8.out EI.out)))
                  refine start_ (n := 53) (S := fun w' => w'.cell? ⟨g, 2, none⟩ = some (.slice (some au) l.length cu) ∧ w'.cell? (au.add j) = some (.int .i64 (rd U (j : Int))) ∧ w'.cell? (au.add i) = some (.int .i64 (rd U (i : Int))) ∧ w'.cell? ⟨g, 3, none⟩ = some (.slice (some ah) l.length ch) ∧ w'.cell? (ah.add j) = some (.int .i64 (rd H (j : Int))) ∧ w'.cell? (ah.add i) = some (.int .i64 (rd H (i : Int)))) (ds := []) (bm 53 0) (by kernel_rfl) rfl (by kernel_rfl) ⟨m2, uj, ui, m3, hj, hi_⟩ (fun hHeld => ?_); refine with_tabW best108.tab6 best108.bits6 (fun HT_ HW_ => ?_)
                  refine sq_ (k := 0) [(0, some 32, false), (1, some 33, false), (2, some 34, false), (3, some 35, false), (4, some 36, false), (5, some 37, false), (7, some 39, false), (10, some 42, false), (11, some 43, false), (12, some 44, false), (14, some 46, false), (6, some 38, true), (8, some 40, false), (9, some 41, true), (13, some 45, true), (15, some 47, false), (16, some 48, true), (17, some 49, false), (18, some 50, false), (19, some 51, false), (20, some 52, false), (21, some 53, false), (22, some 54, false), (24, some 56, false), (27, some 59, false), (28, some 60, false), (29, some 61, false), (31, some 63, false), (23, some 55, true), (25, some 57, false), (26, some 58, true), (30, some 62, true), (32, some 64, false), (33, some 65, true), (34, some 66, false), (35, some 67, false), (36, some 68, false), (37, some 69, false), (38, some 70, false), (40, some 72, false), (43, some 75, false), (44, some 76, false), (45, some 77, false), (47, some 79, false), (39, some 71, true), (41, some 73, false), (42, some 74, true), (46, some 78, true), (48, some 80, false), (49, some 81, true), (50, some 82, false), (51, some 83, false), (52, some 84, false)] (bm 53 9007199254740991) rfl (sq_of HT_.out HW_.out (by kernel_rfl)) (fun _ _ _ _ _ h => h) hHeld ?_
                  repeat (first | (refine SqOn.pure (v := ?_) (a' := ?_) rfl rfl (Or.inl ⟨by kernel_rfl, ?_⟩) ?_ ?_; rotate_left 2; (focus (intro w'; go_simp; with_reducible rfl)); (focus exact pU_)) | (refine SqOn.take (v := ?_) (a' := ?_) rfl rfl (Or.inl ⟨by kernel_rfl, ?_⟩) ?_ ?_; rotate_left 2; (focus (rintro w' ⟨s0, s1, s2, s3, s4, s5⟩; go_simp; with_reducible rfl)); (focus exact pU_)))
                  refine SqOn.nil ?_
                  refine done_ (done_of HT_.out (by kernel_rfl)) ?_
                  go_wp2
                  exact ⟨⟨j + 1, by omega, by congr 1, by rw [HS.out, hbet, if_pos rfl], ⟨by repeat (first | exact HB8.out | apply b1_)⟩⟩, by simp [intOf]; omega⟩
                · have hbet : better U H (i : Int) j = false := by unfold better; simp [hU1, hU2, hH]
                  have c1 : (rd U j < rd U i) = False := eq_false hU1
                  have c2 : (rd U j = rd U i) = True := eq_true hU2
                  have c2b : (rd U j == rd U i) = true := beq_iff_eq.mpr hU2
                  have c3 : (rd H i < rd H j) = False := eq_false hH
                  clear hU1 hU2 hH
                  go_wp2_with (first | (go_at_call 87; refine HC.out.mono ?_; rintro e w' ⟨rfl, ⟨nd, rfl⟩⟩) | (go_at_call 123; refine (HR.out _).mono ?_; rintro e w' ⟨rfl, hb⟩; have HB8 := aM_ ((bN_ HB7.out nd).trans (hb.mono (bN_ HB7.out nd).size)); clear hb; have m2 : w'.cell? ⟨g, 2, none⟩ = some (.slice (some au) l.length cu) := (bC_ ((HB8.out.block g (blk_lt HG.out)).trans HG.out) 2).trans H2.out; have m3 : w'.cell? ⟨g, 3, none⟩ = some (.slice (some ah) l.length ch) := (bC_ ((HB8.out.block g (blk_lt HG.out)).trans HG.out) 3).trans H3.out; have uj := pw_cell_below HB8.out UJ.out; have hj := pw_cell_below HB8.out EJ.out; (try have ui := pw_cell_below HB8.out UI.out); (try have hi_ := pw_cell_below HB8.out EI.out)))
                  refine start_ (n := 53) (S := fun w' => w'.cell? ⟨g, 2, none⟩ = some (.slice (some au) l.length cu) ∧ w'.cell? (au.add j) = some (.int .i64 (rd U (j : Int))) ∧ w'.cell? (au.add i) = some (.int .i64 (rd U (i : Int))) ∧ w'.cell? ⟨g, 3, none⟩ = some (.slice (some ah) l.length ch) ∧ w'.cell? (ah.add j) = some (.int .i64 (rd H (j : Int))) ∧ w'.cell? (ah.add i) = some (.int .i64 (rd H (i : Int)))) (ds := []) (bm 53 0) (by kernel_rfl) rfl (by kernel_rfl) ⟨m2, uj, ui, m3, hj, hi_⟩ (fun hHeld => ?_); refine with_tabW best108.tab6 best108.bits6 (fun HT_ HW_ => ?_)
                  refine sq_ (k := 0) [(0, some 32, false), (1, some 33, false), (2, some 34, false), (3, some 35, false), (4, some 36, false), (5, some 37, false), (7, some 39, false), (10, some 42, false), (11, some 43, false), (12, some 44, false), (14, some 46, false), (6, some 38, true), (8, some 40, false), (9, some 41, true), (13, some 45, true), (15, some 47, false), (16, some 48, true), (17, some 49, false), (18, some 50, false), (19, some 51, false), (20, some 52, false), (21, some 53, false), (22, some 54, false), (24, some 56, false), (27, some 59, false), (28, some 60, false), (29, some 61, false), (31, some 63, false), (23, some 55, true), (25, some 57, false), (26, some 58, true), (30, some 62, true), (32, some 64, false), (33, some 65, true), (34, some 66, false), (35, some 67, false), (36, some 68, false), (37, some 69, false), (38, some 70, false), (40, some 72, false), (43, some 75, false), (44, some 76, false), (45, some 77, false), (47, some 79, false), (39, some 71, true), (41, some 73, false), (42, some 74, true), (46, some 78, true), (48, some 80, false), (49, some 81, true), (50, some 82, false), (51, some 83, false), (52, some 84, false)] (bm 53 9007199254740991) rfl (sq_of HT_.out HW_.out (by kernel_rfl)) (fun _ _ _ _ _ h => h) hHeld ?_
                  repeat (first | (refine SqOn.pure (v := ?_) (a' := ?_) rfl rfl (Or.inl ⟨by kernel_rfl, ?_⟩) ?_ ?_; rotate_left 2; (focus (intro w'; go_simp; with_reducible rfl)); (focus exact pU_)) | (refine SqOn.take (v := ?_) (a' := ?_) rfl rfl (Or.inl ⟨by kernel_rfl, ?_⟩) ?_ ?_; rotate_left 2; (focus (rintro w' ⟨s0, s1, s2, s3, s4, s5⟩; go_simp; with_reducible rfl)); (focus exact pU_)))
                  refine SqOn.nil ?_
                  refine done_ (done_of HT_.out (by kernel_rfl)) ?_
                  go_wp2
                  exact ⟨⟨j + 1, by omega, by congr 1, by rw [HS.out, hbet, if_neg (by decide)], ⟨by repeat (first | exact HB8.out | apply b1_)⟩⟩, by simp [intOf]; omega⟩
              · have hbet : better U H (i : Int) j = false := by unfold better; simp [hU1, hU2]
                have c1 : (rd U j < rd U i) = False := eq_false hU1
                have c2 : (rd U j = rd U i) = False := eq_false hU2
                have c2b : (rd U j == rd U i) = false := beq_eq_false_iff_ne.mpr hU2
                clear hU1 hU2
                go_wp2_with (first | (go_at_call 87; refine HC.out.mono ?_; rintro e w' ⟨rfl, ⟨nd, rfl⟩⟩) | (go_at_call 123; refine (HR.out _).mono ?_; rintro e w' ⟨rfl, hb⟩; have HB8 := aM_ ((bN_ HB7.out nd).trans (hb.mono (bN_ HB7.out nd).size)); clear hb; have m2 : w'.cell? ⟨g, 2, none⟩ = some (.slice (some au) l.length cu) := (bC_ ((HB8.out.block g (blk_lt HG.out)).trans HG.out) 2).trans H2.out; have m3 : w'.cell? ⟨g, 3, none⟩ = some (.slice (some ah) l.length ch) := (bC_ ((HB8.out.block g (blk_lt HG.out)).trans HG.out) 3).trans H3.out; have uj := pw_cell_below HB8.out UJ.out; have hj := pw_cell_below HB8.out EJ.out; (try have ui := pw_cell_below HB8.out UI.out); (try have hi_ := pw_cell_below HB8.out EI.out)))
                refine start_ (n := 53) (S := fun w' => w'.cell? ⟨g, 2, none⟩ = some (.slice (some au) l.length cu) ∧ w'.cell? (au.add j) = some (.int .i64 (rd U (j : Int))) ∧ w'.cell? (au.add i) = some (.int .i64 (rd U (i : Int)))) (ds := []) (bm 53 0) (by kernel_rfl) rfl (by kernel_rfl) ⟨m2, uj, ui⟩ (fun hHeld => ?_); refine with_tabW best108.tab6 best108.bits6 (fun HT_ HW_ => ?_)
                refine sq_ (k := 17) [(0, some 32, false), (1, some 33, false), (2, some 34, false), (3, some 35, false), (4, some 36, false), (5, some 37, false), (7, some 39, false), (10, some 42, false), (11, some 43, false), (12, some 44, false), (14, some 46, false), (6, some 38, true), (8, some 40, false), (9, some 41, true), (13, some 45, true), (15, some 47, false), (16, some 48, true), (17, some 49, false), (18, some 50, false), (19, some 51, false), (20, some 52, false), (21, some 53, false), (22, some 54, false), (24, some 56, false), (27, some 59, false), (28, some 60, false), (29, some 61, false), (31, some 63, false), (23, some 55, true), (25, some 57, false), (26, some 58, true), (30, some 62, true), (32, some 64, false), (33, some 65, true), (34, some 66, false), (35, some 67, false)] (bm 53 68719476735) rfl (sq_of HT_.out HW_.out (by kernel_rfl)) (fun _ _ _ _ _ h => h) hHeld ?_
                repeat (first | (refine SqOn.pure (v := ?_) (a' := ?_) rfl rfl (Or.inl ⟨by kernel_rfl, ?_⟩) ?_ ?_; rotate_left 2; (focus (intro w'; go_simp; with_reducible rfl)); (focus exact pU_)) | (refine SqOn.take (v := ?_) (a' := ?_) rfl rfl (Or.inl ⟨by kernel_rfl, ?_⟩) ?_ ?_; rotate_left 2; (focus (rintro w' ⟨s0, s1, s2⟩; go_simp; with_reducible rfl)); (focus exact pU_)))
                refine SqOn.nil ?_
                refine offs_ (k := 2) (a' := ?_) [36, 37, 38, 39, 40, 41, 42, 43, 44, 45, 46, 47, 48, 49, 50] [some 68, some 69, some 70, some 71, some 72, some 73, some 74, some 75, some 76, some 77, some 78, some 79, some 80, some 81, some 82] (bm 53 2251799813685247) rfl rfl (off_of HT_.out (by kernel_rfl)) (by kernel_rfl) (fun _ _ _ _ _ h => h) ?_ ?_
                rotate_left
                · simp only [undefs, Act.put, List.setIfInBounds_toArray, List.set_cons_zero, List.set_cons_succ]
                  rfl
                refine sq_ (k := 0) [(51, some 83, false), (52, some 84, false)] (bm 53 9007199254740991) rfl (sq_of HT_.out HW_.out (by kernel_rfl)) (fun _ _ _ _ _ h => h) hHeld ?_
                repeat (first | (refine SqOn.pure (v := ?_) (a' := ?_) rfl rfl (Or.inl ⟨by kernel_rfl, ?_⟩) ?_ ?_; rotate_left 2; (focus (intro w'; go_simp; with_reducible rfl)); (focus exact pU_)))
                refine SqOn.nil ?_
                refine done_ (done_of HT_.out (by kernel_rfl)) ?_
                go_wp2
                exact ⟨⟨j + 1, by omega, by congr 1, by rw [HS.out, hbet, if_neg (by decide)], ⟨by repeat (first | exact HB8.out | apply b1_)⟩⟩, by simp [intOf]; omega⟩
    · obtain rfl : j = l.length := by omega
      have q1 : ((l.length : Int) < (l.length : Int)) = False := eq_false (by omega)
      go_wp2
      go_ret
      exact ⟨rfl, HB.out⟩
end
section
attribute [local go_sem] Oper.semAt_some
structure PM (base g ga gs : Nat) (Al Aah Au Ah : Option Addr) (cl cah cu ch ca cs : Nat) (l : List S24) (AH : List (List S51)) (U H : List Int) (x : PSt) (W : World) : Prop where
  box : W.heap[g]? = some (.cells #[.slice Al l.length cl, .slice Aah l.length cah, .slice Au l.length cu, .slice Ah l.length ch, .slice (some ⟨ga, 0, none⟩) l.length ca, .slice (some ⟨gs, 0, none⟩) l.length cs, .int .i64 x.left] 102 (0, 0))
  rat : Row base W ga ca l.length x.at_
  rsl : Row base W gs cs l.length x.sl
  fl : Kd.F k24 W (fun k => k ≠ g ∧ k ≠ ga ∧ k ≠ gs) Al l.length l
  fah : Kd.F (Kd.slice 51 k51) W (fun k => k ≠ g ∧ k ≠ ga ∧ k ≠ gs) Aah l.length AH
  fu : Kd.F (Kd.int .i64) W (fun k => k ≠ g ∧ k ≠ ga ∧ k ≠ gs) Au l.length U
  fh : Kd.F (Kd.int .i64) W (fun k => k ≠ g ∧ k ≠ ga ∧ k ≠ gs) Ah l.length H
  ne : g ≠ ga ∧ g ≠ gs ∧ ga ≠ gs
  lo : base ≤ g
section
variable {base g ga gs : Nat} {Al Aah Au Ah : Option Addr} {cl cah cu ch ca cs : Nat} {l : List S24} {AH : List (List S51)} {U H : List Int} {x : PSt} {W W1 : World}
theorem PM.below (h : PM base g ga gs Al Aah Au Ah cl cah cu ch ca cs l AH U H x W) (hB : Below W.heap.size W W1) : PM base g ga gs Al Aah Au Ah cl cah cu ch ca cs l AH U H x W1 :=
  ⟨(hB.block g (blk_lt h.box)).trans h.box, h.rat.step (hB.block ga h.rat.lt), h.rsl.step (hB.block gs h.rsl.lt), Kd.F_below h.fl hB, Kd.F_below h.fah hB, Kd.F_below h.fu hB, Kd.F_below h.fh hB, h.ne, h.lo⟩
theorem PM.set_at (h : PM base g ga gs Al Aah Au Ah cl cah cu ch ca cs l AH U H x W) (i : Nat) (v : Int) : PM base g ga gs Al Aah Au Ah cl cah cu ch ca cs l AH U H ⟨x.at_.set i v, x.sl, x.left⟩ (W.setCell ⟨ga, i, none⟩ (.int .i64 v)) :=
  ⟨blk_far h.box h.ne.1 _, h.rat.putN i v, h.rsl.step (Below.heap_setCell _ _ _ _ (fun e => h.ne.2.2 e.symm)), Kd.F_far (p := ⟨ga, i, none⟩) h.fl (fun _ hk => hk.2.1) _, Kd.F_far (p := ⟨ga, i, none⟩) h.fah (fun _ hk => hk.2.1) _, Kd.F_far (p := ⟨ga, i, none⟩) h.fu (fun _ hk => hk.2.1) _, Kd.F_far (p := ⟨ga, i, none⟩) h.fh (fun _ hk => hk.2.1) _, h.ne, h.lo⟩
theorem PM.set_sl (h : PM base g ga gs Al Aah Au Ah cl cah cu ch ca cs l AH U H x W) (i : Nat) (v : Int) : PM base g ga gs Al Aah Au Ah cl cah cu ch ca cs l AH U H ⟨x.at_, x.sl.set i v, x.left⟩ (W.setCell ⟨gs, i, none⟩ (.int .i64 v)) :=
  ⟨blk_far h.box h.ne.2.1 _, h.rat.step (Below.heap_setCell _ _ _ _ h.ne.2.2), h.rsl.putN i v, Kd.F_far (p := ⟨gs, i, none⟩) h.fl (fun _ hk => hk.2.2) _, Kd.F_far (p := ⟨gs, i, none⟩) h.fah (fun _ hk => hk.2.2) _, Kd.F_far (p := ⟨gs, i, none⟩) h.fu (fun _ hk => hk.2.2) _, Kd.F_far (p := ⟨gs, i, none⟩) h.fh (fun _ hk => hk.2.2) _, h.ne, h.lo⟩
theorem PM.set_left (h : PM base g ga gs Al Aah Au Ah cl cah cu ch ca cs l AH U H x W) (v : Int) : PM base g ga gs Al Aah Au Ah cl cah cu ch ca cs l AH U H ⟨x.at_, x.sl, v⟩ (W.setCell ⟨g, 6, none⟩ (.int .i64 v)) :=
  ⟨blk_put h.box 6 _ rfl, h.rat.step (Below.heap_setCell _ _ _ _ (fun e => h.ne.1 e.symm)), h.rsl.step (Below.heap_setCell _ _ _ _ (fun e => h.ne.2.1 e.symm)), Kd.F_far (p := ⟨g, 6, none⟩) h.fl (fun _ hk => hk.1) _, Kd.F_far (p := ⟨g, 6, none⟩) h.fah (fun _ hk => hk.1) _, Kd.F_far (p := ⟨g, 6, none⟩) h.fu (fun _ hk => hk.1) _, Kd.F_far (p := ⟨g, 6, none⟩) h.fh (fun _ hk => hk.1) _, h.ne, h.lo⟩
end
theorem fold_good {may : Nat → Int → Bool} {n : Nat} {E : List S51} {U H : List Int} {c : Int} (hc : 0 ≤ c) : ∀ (ps : List (Int × Int)) (x : PSt), PGood n c x → (∀ p ∈ ps, p.1 = c ∧ 0 ≤ p.2 ∧ p.2 ≤ 3) → PGood n c (ps.foldl (slotStep may n E U H) x)
  | [], x, h, _ => h
  | (d, s) :: ps, x, h, hp => by
    obtain ⟨h1, h2⟩ := hp (d, s) List.mem_cons_self
    have h1' : d = c := h1
    subst h1'
    exact fold_good hc ps _ (slot_good h hc h2) (fun p hm => hp p (List.mem_cons_of_mem _ hm))
theorem four4_take (c : Int) (m : Nat) (hm : m < 4) : (four4 c).take (m + 1) = (four4 c).take m ++ [(c, (m : Int))] := by
  have : m = 0 ∨ m = 1 ∨ m = 2 ∨ m = 3 := by omega
  rcases this with rfl | rfl | rfl | rfl <;> rfl
theorem four4_mem (c : Int) (m : Nat) : ∀ p ∈ (four4 c).take m, p.1 = c ∧ 0 ≤ p.2 ∧ p.2 ≤ 3 := by
  intro p hp
  have := List.mem_of_mem_take hp
  simp only [four4, List.mem_cons, List.not_mem_nil, or_false] at this
  rcases this with rfl | rfl | rfl | rfl <;> simp
def atSlot (may : Nat → Int → Bool) (n : Nat) (E : List S51) (U H : List Int) (c : Int) (m : Nat) (x : PSt) : PSt := ((four4 c).take m).foldl (slotStep may n E U H) x
theorem atSlot_succ (may : Nat → Int → Bool) (n : Nat) (E : List S51) (U H : List Int) (c : Int) (m : Nat) (hm : m < 4) (x : PSt) : atSlot may n E U H c (m + 1) x = slotStep may n E U H (atSlot may n E U H c m x) (c, (m : Int)) := by
  unfold atSlot
  rw [four4_take c m hm, List.foldl_append]; rfl
theorem atSlot_four (may : Nat → Int → Bool) (n : Nat) (E : List S51) (U H : List Int) (c : Int) (x : PSt) : atSlot may n E U H c 4 x = cycStep may n E U H x c := by
  unfold atSlot cycStep
  rw [List.take_of_length_le (by simp [four4])]
theorem run_calls (base g ga gs : Nat) (Al Aah Au Ah : Option Addr) (cl cah cu ch ca cs : Nat) (l : List S24) (AH : List (List S51)) (U H : List Int) (may : Nat → Int → Bool) (E : List S51) (x0 : PSt) (w : World) (hn : l.length ≤ 200)
    (hPM : PM base g ga gs Al Aah Au Ah cl cah cu ch ca cs l AH U H x0 w) (hbase : base ≤ w.heap.size) (hG : PGood l.length (-1) x0) (hf : PFine may l.length E)
    (hrdy : ∀ (x : PSt) (c : Int), PGood l.length c x → 0 ≤ c → c ≤ 1000 → ∀ i : Nat, i < l.length → readyP AH x.at_ i c = (decide (rd x.at_ i < 0) && rdy E x.at_ i c))
    (hin : ∀ i : Nat, i < l.length → ∀ j : Nat, j < (rd_L51 AH i).length → 0 ≤ (q51 (rd_L51 AH i) j).f0 ∧ (q51 (rd_L51 AH i) j).f0 < l.length)
    (hmay : ∀ s : Int, 0 ≤ s → s ≤ 3 → ∀ j : Nat, j < l.length → ∀ W, Calls Try.prog 87 #[.int .i64 (q24 l j).f0, .int .i64 s] W fun e W' => e = .returned (.bool (may j s)) ∧ Dr_ W W') :
    Calls Try.prog 79 #[.pointer (some ⟨g, 0, none⟩)] w fun e w' => (∃ v, e = .returned v) ∧ PM base g ga gs Al Aah Au Ah cl cah cu ch ca cs l AH U H (runN may l.length E U H (4 * l.length) 0 x0) w' ∧ Below base w w' := by
  have hend := run_ends (U := U) (H := H) hf l.length 0 x0 (by simpa using hG) (Int.le_refl _) (by have h1 := hG.left; have h2 : opens_ x0.at_ ≤ x0.at_.length := List.countP_le_length; have h3 := hG.len; omega) (4 * l.length) (Nat.le_refl _)
  obtain ⟨xf, hxf⟩ : ∃ xf, xf = runN may l.length E U H (4 * l.length) 0 x0 := ⟨_, rfl⟩
  rw [← hxf] at hend ⊢
  have HE := aM_ hend.1
  have HP := aM_ hPM
  have HBS := aM_ hbase
  have HG := aM_ hG
  have HRD := aM_ hrdy
  have HI := aM_ hin
  have HM := aM_ hmay
  have HX := aM_ hxf
  clear hend hPM hbase hG hrdy hin hmay hxf
  go_enter Try.func79, Try.ntmps79
  go_wp2
  go_loopw [2] (fun i wr => ∃ (c f : Nat) (x : PSt), i = .int .i64 c ∧ As_ (c + f ≤ 4 * l.length) ∧ As_ (PM base g ga gs Al Aah Au Ah cl cah cu ch ca cs l AH U H x wr) ∧ As_ (PGood l.length ((c : Int) - 1) x) ∧ As_ (xf = runN may l.length E U H f c x) ∧ As_ (Below base w wr)) (fun i _ => 4 * l.length + 1 - (intOf i).toNat)
  case atStart => exact ⟨0, 4 * l.length, x0, rfl, ⟨by omega⟩, ⟨HP.out⟩, ⟨by simpa using HG.out⟩, ⟨HX.out⟩, ⟨Below.refl _ _⟩⟩
  case round =>
    clear HP HG HX
    obtain ⟨c, f, x, rfl, HC, HP, HG, HX, HB⟩ := hrel
    have z6 : wr.cell? ⟨g, 6, none⟩ = some (.int .i64 x.left) := (bC_ HP.out.box 6).trans rfl
    by_cases hl : 0 < x.left
    · have c1 : (0 < x.left) = True := eq_true hl
      obtain ⟨f, rfl⟩ : ∃ f', f = f' + 1 := by
        cases f with
        | zero => exact absurd hl (by have h1 := HE.out; rw [HX.out] at h1; have h2 : x.left = 0 := h1; omega)
        | succ f => exact ⟨f, rfl⟩
      have hx1 : xf = runN may l.length E U H f ((c : Int) + 1) (cycStep may l.length E U H x c) := by rw [HX.out, runN, if_pos hl]
      have HX1 := aM_ hx1
      have hg1 : PGood l.length (c : Int) x := HG.out.later (by omega)
      have HG1 := aM_ hg1
      clear hx1 hg1 HX HG
      have hw2 : wrap64 ((c : Int) + 1) = ((c + 1 : Nat) : Int) := by unfold wrap64; have := HC.out; omega
      go_wp2
      go_loopw [12] (fun s ws => ∃ m : Nat, m ≤ 4 ∧ s = .int .i64 m ∧ As_ (PM base g ga gs Al Aah Au Ah cl cah cu ch ca cs l AH U H (atSlot may l.length E U H c m x) ws) ∧ As_ (Below base w ws)) (fun s _ => 4 - (intOf s).toNat)
      case atStart => exact ⟨0, by omega, rfl, ⟨HP.out⟩, ⟨HB.out⟩⟩
      case round =>
        clear HP HB z6
        obtain ⟨m, hm, rfl, HP, HB⟩ := hrel
        by_cases h4 : m < 4
        · have q4 : ((m : Int) < 4) = True := eq_true (by omega)
          have hw3 : wrap64 ((m : Int) + 1) = ((m + 1 : Nat) : Int) := by unfold wrap64; omega
          obtain ⟨y, hy⟩ : ∃ y, y = atSlot may l.length E U H c m x := ⟨_, rfl⟩
          have hgy : PGood l.length (c : Int) y := by rw [hy]; exact fold_good (by omega) _ _ HG1.out (four4_mem _ _)
          have hsucc : atSlot may l.length E U H c (m + 1) x = slotStep may l.length E U H y ((c : Int), (m : Int)) := by rw [atSlot_succ _ _ _ _ _ _ _ h4, ← hy]
          rw [← hy] at HP
          have hcy : Kd.C (Kd.int .i64) wr (some ⟨ga, 0, none⟩) l.length y.at_ := by have h_ := (Kd.R_reads' HP.out.rat.2).2.2; rw [HP.out.rat.1] at h_; exact h_
          have hbest := best_calls g _ Al Aah Au Ah (some ⟨ga, 0, none⟩) cl cah cu ch ca l AH U H y.at_ c m (fun j => may j m) wr HP.out.box rfl rfl rfl rfl rfl (Kd.F_now HP.out.fl) (Kd.F_now HP.out.fah) (Kd.F_now HP.out.fu) (Kd.F_now HP.out.fh) hcy HI.out (HM.out m (by omega) (by omega)) (by omega)
          have hbe : bestUp (fun i => may i m && readyP AH y.at_ i c) U H l.length = bestUp (cand may E y.at_ c m) U H l.length := bestUp_congr _ _ U H _ (fun i hi => by unfold cand; rw [HRD.out y c hgy (by omega) (by have := HC.out; omega) i hi])
          rw [hbe] at hbest
          clear hbe hcy
          rcases bestUp_range (cand may E y.at_ c m) U H l.length with hneg | ⟨i, hi, hbi, hci⟩
          · rw [hneg] at hbest
            have HR := aM_ hbest
            clear hbest
            have hs : atSlot may l.length E U H c (m + 1) x = y := by rw [hsucc]; unfold slotStep; simp only [hneg]; rw [if_neg (by omega)]
            have HS := aM_ hs
            clear hs hsucc hneg hy hgy
            go_wp2_with (go_at_call 108; refine HR.out.mono ?_; rintro e w' ⟨rfl, hb⟩; have HB8 := aM_ hb; clear hb)
            exact ⟨⟨m + 1, by omega, by congr 1, ⟨by rw [HS.out]; exact HP.out.below HB8.out⟩, ⟨HB.out.trans (HB8.out.mono (Nat.le_trans HBS.out HB.out.size))⟩⟩, by simp [intOf]; omega⟩
          · rw [hbi] at hbest
            have HR := aM_ hbest
            clear hbest
            have hlt : rd y.at_ i < 0 := by
              unfold cand at hci
              simp only [Bool.and_eq_true, decide_eq_true_eq] at hci
              exact hci.2.1
            have hopen := open_set y.at_ i 0 (by rw [hgy.len]; exact hi) hlt (Int.le_refl _)
            have hol : opens_ y.at_ ≤ y.at_.length := List.countP_le_length
            have hw4 : wrap64 (y.left - 1) = y.left - 1 := by have h1 := hgy.left; have h2 := hgy.len; unfold wrap64; omega
            have hs : atSlot may l.length E U H c (m + 1) x = ⟨y.at_.set i c, y.sl.set i m, y.left - 1⟩ := by rw [hsucc]; unfold slotStep; simp only [hbi]; rw [if_pos (by omega), Int.toNat_natCast]
            have HS := aM_ hs
            have p5 : ((0 : Int) ≤ (i : Int)) = True := eq_true (Int.natCast_nonneg _)
            have q5 : ((i : Int) < (l.length : Int)) = True := eq_true (by omega)
            have q6 : (i < l.length) = True := eq_true hi
            clear hs hsucc hbi hci hy hgy hlt hopen hol
            go_wp2_with (go_at_call 108; refine HR.out.mono ?_; rintro e w' ⟨rfl, hb⟩; have HB8 := aM_ hb; have HP8 := aM_ (HP.out.below hb); clear hb; have z4 : w'.cell? ⟨g, 4, none⟩ = some (.slice (some ⟨ga, 0, none⟩) l.length ca) := (bC_ HP8.out.box 4).trans rfl; have z5 : w'.cell? ⟨g, 5, none⟩ = some (.slice (some ⟨gs, 0, none⟩) l.length cs) := (bC_ HP8.out.box 5).trans rfl; have z6 : w'.cell? ⟨g, 6, none⟩ = some (.int .i64 y.left) := (bC_ HP8.out.box 6).trans rfl; have f6 := bZ_ HP8.out.box 6; have ra := HP8.out.rat.cell (i : Int) (by omega) (by omega); have rs := HP8.out.rsl.cell (i : Int) (by omega) (by omega); rw [Int.toNat_natCast] at ra rs; obtain ⟨ra1, ra2⟩ := ra; obtain ⟨rs1, rs2⟩ := rs; have n1 := HP8.out.ne.1; have n2 := HP8.out.ne.2.1; have n3 := HP8.out.ne.2.2; have n1' : ga ≠ g := fun e => n1 e.symm; have n2' : gs ≠ g := fun e => n2 e.symm; have n3' : gs ≠ ga := fun e => n3 e.symm)
            go_region
            have HP9 := aM_ (((HP8.out.set_at i c).set_sl i m).below (b1_ (Below.refl _ _)))
            have HB9 := aM_ (b1_ (((HB.out.trans (HB8.out.mono (Nat.le_trans HBS.out HB.out.size))).setCell (p := ⟨ga, i, none⟩) HP8.out.rat.ge (.int .i64 c)).setCell (p := ⟨gs, i, none⟩) HP8.out.rsl.ge (.int .i64 m)))
            generalize ((World.setCell w' ⟨ga, i, none⟩ (.int .i64 c)).setCell ⟨gs, i, none⟩ (.int .i64 m)).drew = W9 at HP9 HB9 ⊢
            clear z4 z5 z6 f6 ra1 ra2 rs1 rs2 n1 n2 n3 n1' n2' n3' HP8 HB8 HP HB HR
            have z6 : W9.cell? ⟨g, 6, none⟩ = some (.int .i64 y.left) := (bC_ HP9.out.box 6).trans rfl
            have f6 := bZ_ HP9.out.box 6
            go_wp2
            refine ⟨⟨m + 1, by omega, by congr 1, ⟨by rw [HS.out]; exact HP9.out.set_left _⟩, ⟨HB9.out.setCell (p := ⟨g, 6, none⟩) HP9.out.lo _⟩⟩, ?_⟩
            simp [intOf]
            omega
        · obtain rfl : m = 4 := by omega
          have q4 : ((4 : Int) < 4) = False := eq_false (by omega)
          go_wp2
          have e1 : (((c + 1 : Nat) : Int) - 1) = (c : Int) := by omega
          have e2 : ((c : Int) + 1) = ((c + 1 : Nat) : Int) := by omega
          refine ⟨⟨c + 1, f, cycStep may l.length E U H x c, by rw [hw2], ⟨by have := HC.out; omega⟩, ⟨by rw [← atSlot_four]; exact HP.out⟩, ⟨by rw [e1]; exact cyc_good HG1.out (by omega)⟩, ⟨by rw [HX1.out, e2]⟩, ⟨HB.out⟩⟩, ?_⟩
          rw [hw2]
          show 4 * l.length + 1 - (((c + 1 : Nat) : Int)).toNat < 4 * l.length + 1 - ((c : Int)).toNat
          rw [Int.toNat_natCast, Int.toNat_natCast]
          have := HC.out
          omega
    · have c1 : (0 < x.left) = False := eq_false hl
      have hx1 : xf = x := by rw [HX.out]; exact run_done f c x (by omega)
      go_wp2
      go_end0
      first | exact ⟨⟨_, rfl⟩, HP.out, HB.out⟩ | exact ⟨⟨_, rfl⟩, by rw [hx1]; exact HP.out, HB.out⟩
end
end Go.Proofs.Ytibfkkjkahpobaa.PDag

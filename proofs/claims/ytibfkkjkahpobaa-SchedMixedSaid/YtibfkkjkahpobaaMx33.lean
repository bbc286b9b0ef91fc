import Derived.Test.YtibfkkjkahpobaaMx32
import Derived.Test.YtibfkkjkahpobaaMx15
import Derived.Test.YtibfkkjkahpobaaMx20
import Derived.Test.YtibfkkjkahpobaaMx30
import Derived.Test.YtibfkkjkahpobaaMx26
import Derived.WideMake
set_option linter.unusedVariables false
set_option linter.unusedSimpArgs false
set_option maxHeartbeats 8000000
set_option maxRecDepth 100000
open Go.RowKit Go.Proofs.YtibfkkjkahpobaaW.PrintWords Go.Proofs.YtibfkkjkahpobaaW.PrintLast Go.Proofs.YtibfkkjkahpobaaW.PrintMore
namespace Go.Proofs.Ytibfkkjkahpobaa.PDag
section
attribute [local go_sem] Oper.semAt_some
def bundles84.T8 : Bool × List (List Nat × List Nat) := (true, [([], []), ([], []), ([1], [1]), ([2], [2]), ([3], [3]), ([], []), ([4, 5], [4, 5]), ([6], [6]), ([], []), ([8], [8]), ([9], [9]), ([10], [10]), ([], []), ([11, 12], [11, 12]), ([13], [13]), ([], []), ([0, 7], [0, 7]), ([16, 14, 0, 1, 2, 3, 4, 5, 6, 7, 8, 9, 10, 11, 12, 13, 14, 15], [14, 16]), ([17, 15, 0, 1, 2, 3, 4, 5, 6, 7, 8, 9, 10, 11, 12, 13, 14, 15], [15, 17])])
def bundles84.B8 : List Nat := [0, 0, 2, 6, 14, 0, 62, 126, 0, 256, 768, 1792, 0, 7936, 16128, 0, 255, 131071, 262143]
theorem bundles84.tab8 : rtab .any (opsOf Try.f84 8) = bundles84.T8 := by kernel_rfl
theorem bundles84.bits8 : waitsOk bundles84.T8.2 bundles84.B8 = true := by kernel_rfl
def bundles84.T11 : Bool × List (List Nat × List Nat) := (true, [([], []), ([], []), ([], []), ([2], [2]), ([0, 1], [0, 1]), ([4, 0, 1, 2, 3], [4]), ([5, 3, 0, 1, 2, 3], [3, 5])])
def bundles84.B11 : List Nat := [0, 0, 0, 4, 3, 31, 63]
theorem bundles84.tab11 : rtab .any (opsOf Try.f84 11) = bundles84.T11 := by kernel_rfl
theorem bundles84.bits11 : waitsOk bundles84.T11.2 bundles84.B11 = true := by kernel_rfl
theorem slot_store {B g n cap : Nat} {W : World} {xs : List S81} (h : k81.R 81 W B (fun _ => True) (.slice (some ⟨g, 0, none⟩) n cap) xs) (i : Nat) (hi : i < n) (s : Nat) (hs : s < 4) (x : S24) :
    k81.R 81 (W.setCells g (i * 24 + s * 6) (insC x)) B (fun _ => True) (.slice (some ⟨g, 0, none⟩) n cap) (xs.set i (put81 (q81 xs i) s x)) ∧ W.grownBy (W.setCells g (i * 24 + s * 6) (insC x)) (some g) ∧
    (Instr.storeAt 24 (.pointer (some ⟨g, i * 24 + s * 6, none⟩)) (.agg (insC x).toArray)).run Try.prog W = .ok () (W.setCells g (i * 24 + s * 6) (insC x)) := by
  obtain ⟨c, hcl, hM, hcc, hfr⟩ := Kd.R_elem h z81 (i : Int) (by omega) (by omega)
  have hb : q81 xs (i : Int) = xs.getD (i : Int).toNat z81 := rfl
  rw [Int.toNat_natCast] at hcc hfr hM
  rw [Int.toNat_natCast] at hb
  rw [← hb] at hM
  generalize q81 xs (i : Int) = b at hM hb
  obtain rfl := k81_openM hM
  rw [show k81.sz = 24 from rfl] at hcc hfr hcl
  have hcell : ∀ j, j < 24 → ∃ u, W.cell? ⟨g, i * 24 + j, none⟩ = some u := fun j hj => by
    have h2 := List.getElem?_eq_getElem (l := bunC b) (i := j) (by exact hj)
    exact ⟨_, hcc j _ h2⟩
  have hone : ∀ q ∈ insC x, q.oneCell' = true := by
    intro q hq
    simp only [insC, List.mem_cons, List.not_mem_nil, or_false] at hq
    rcases hq with rfl | rfl | rfl | rfl | rfl | rfl <;> rfl
  have hseg : ∀ (s : Nat) (x' : S81), s < 4 → k81.M W B (fun _ => False) x' ((bunC b).take (s * 6) ++ insC x ++ (bunC b).drop (s * 6 + 6)) → k81.R 81 (W.setCells g (i * 24 + s * 6) (insC x)) B (fun _ => True) (.slice (some ⟨g, 0, none⟩) n cap) (xs.set i x') ∧ W.grownBy (W.setCells g (i * 24 + s * 6) (insC x)) (some g) := by
    intro s x' hs hM'
    have h2 := Kd.R_seg h (i : Int) (by omega) (by omega) (c := bunC b) (seg := insC x) (j := s * 6) (okp := fun _ => False) (x' := x') rfl (by rw [Int.toNat_natCast]; exact hcc) (by show s * 6 + 6 ≤ 24; omega) hM' (fun _ hk => hk.elim)
    rw [Int.toNat_natCast] at h2; exact h2
  have hrun : (Instr.storeAt 24 (.pointer (some ⟨g, i * 24 + s * 6, none⟩)) (.agg (insC x).toArray)).run Try.prog W = .ok () (W.setCells g (i * 24 + s * 6) (insC x)) := by
    obtain ⟨i0, hi0, hz⟩ := Option.map_eq_some_iff.1 info24
    simp only [Prod.mk.injEq] at hz
    have hst := run_storeCells_cells (P := Try.prog) g (i * 24 + s * 6) (insC x) 0 W (fun j hj => by
      obtain ⟨u, hu⟩ := hcell (s * 6 + j) (by have h6 : j < 6 := hj; omega)
      rw [show i * 24 + s * 6 + 0 + j = i * 24 + (s * 6 + j) by omega, hu]; simp) (fun j _ => by
      have h2 := hfr (s * 6 + j)
      rw [show i * 24 + s * 6 + 0 + j = i * 24 + (s * 6 + j) by omega]; exact h2) hone
    simp only [Nat.add_zero] at hst
    simp [Instr.storeAt, Instr.sureAddr, storeVar, sizeOf, typeInfo, hi0, hz.2.1, hst, Value.cells, insC]
    exact hst
  have : s = 0 ∨ s = 1 ∨ s = 2 ∨ s = 3 := by omega
  rcases this with rfl | rfl | rfl | rfl
  · have h2 := hseg 0 (put81 b ((0 : Nat) : Int) x) (by omega) (k81_mkM W B _ (put81 b ((0 : Nat) : Int) x))
    exact ⟨h2.1, h2.2, hrun⟩
  · have h2 := hseg 1 (put81 b ((1 : Nat) : Int) x) (by omega) (k81_mkM W B _ (put81 b ((1 : Nat) : Int) x))
    exact ⟨h2.1, h2.2, hrun⟩
  · have h2 := hseg 2 (put81 b ((2 : Nat) : Int) x) (by omega) (k81_mkM W B _ (put81 b ((2 : Nat) : Int) x))
    exact ⟨h2.1, h2.2, hrun⟩
  · have h2 := hseg 3 (put81 b ((3 : Nat) : Int) x) (by omega) (k81_mkM W B _ (put81 b ((3 : Nat) : Int) x))
    exact ⟨h2.1, h2.2, hrun⟩
theorem last_end (l : List S24) (x : S24) (ho : okA l) (hn : l.length ≤ 200) (hx : 0 ≤ x.f0 ∧ x.f0 ≤ 33) {B g : Nat} {Al : Option Addr} {cl : Nat} {va vs : Value} {W : World} {ok : Nat → Prop} (hE : PEnd B g Al cl l.length va vs (cycF l).at_ (cycF l).sl W) (hF : Kd.F k24 W ok Al l.length l) (hcl : l.length ≤ cl) (c : Int) (L : Nat) (hcL : endC l x = (c, (L : Int))) :
    Calls Try.prog 113 #[.pointer (some ⟨g, 0, none⟩), .agg #[.int .i64 x.f0, .int .i64 x.f1, .int .i64 x.f2, .int .i64 x.f3, .int .i64 x.f4, .string x.f5]] W fun e w' => e = .returned (.tuple #[.int .i64 c, .int .i64 L]) ∧ Below W.heap.size W w' := by
  obtain ⟨v1, v2, v3, v6, hbx⟩ := hE.box
  have hra := hE.ra
  have hrs := hE.rs
  obtain ⟨hla, hls⟩ := cyc_len ho
  obtain ⟨Aa, ca, rfl⟩ := Kd.R_slice hra
  obtain ⟨As, cs, rfl⟩ := Kd.R_slice hrs
  rw [hla] at hra hbx
  rw [hls] at hrs hbx
  obtain ⟨_, hca, hCa⟩ := Kd.R_reads' hra
  obtain ⟨_, hcs, hCs⟩ := Kd.R_reads' hrs
  rw [hla] at hCa
  rw [hls] at hCs
  have hat : ∀ i : Nat, i < l.length → 0 ≤ rd (cycF l).at_ i ∧ rd (cycF l).at_ i ≤ 799 := fun i hi => (cyc_in ho hn i hi).1
  have hlo := lastOf_bd x l (cycF l).at_ hat
  refine (last_calls g _ Al Aa As cl ca cs l (cycF l).at_ (cycF l).sl x (lastOf l x (cycF l).at_) 1000 W hbx rfl rfl rfl (Kd.F_now hF) hCa hCs hcl hca hn (okA_L ho) hla (fun k hk => least_eq l (by omega) (okA_L ho) x hx _ hla (by omega)) ⟨hlo.1, by omega⟩ (by omega) (freeFrom_free _ _ _ 799 (fun i hi => (hat i hi).2) 1000 _ (by omega))).mono ?_
  rintro e w' ⟨rfl, hb⟩
  refine ⟨?_, hb⟩
  unfold endC at hcL
  split at hcL
  · rename_i h
    injection hcL with h1 h2
    rw [if_pos h, ← h1, ← h2]
  · rename_i h
    injection hcL with h1 h2
    rw [if_neg h, ← h1, ← h2]
theorem R81_shape {n0 : Nat} {W : World} {base : Nat} {ok : Nat → Prop} {v : Value} {xs : List S81} (h : k81.R 81 W base ok v xs) (hn : ∃ b, v.ownBlock = some b ∧ n0 ≤ b) : ∃ g cap, v = .slice (some ⟨g, 0, none⟩) xs.length cap ∧ n0 ≤ g := by
  obtain ⟨b, hb, hle⟩ := hn
  obtain ⟨inner, ho⟩ := Kd.R_own h
  rcases ho.2 with ⟨rfl, _⟩ | ⟨g, cap, cur, rfl, _⟩
  · simp [Value.ownBlock] at hb
  · have hg : g = b := by simpa [Value.ownBlock] using hb
    subst hg
    exact ⟨g, cap, rfl, hle⟩
theorem sched_Bundles.calls (A0 : Option Addr) (nl c0 : Nat) (Al : Option Addr) (cl : Nat) (l : List S24) (x : S24) (w : World) (hl : Kd.C k24 w Al l.length l) (hcl : l.length ≤ cl) (ho : okA l) (hn : l.length ≤ 200) (hx : 0 ≤ x.f0 ∧ x.f0 ≤ 33) :
    Calls Try.prog 84 #[.agg #[.slice A0 nl c0, .slice Al l.length cl, .int .i64 x.f0, .int .i64 x.f1, .int .i64 x.f2, .int .i64 x.f3, .int .i64 x.f4, .string x.f5]] w fun e w' => ∃ v0_ : Value, e = .returned (v0_) ∧ Kd.R k81 81 w' w.heap.size (fun _ => True) v0_ (bunF l x) ∧ Below w.heap.size w w' := by
  have hu73 := Try.underlying73
  have hu24 := Try.underlying24
  have HL := aM_ hl
  have HO := aM_ ho
  have HP := aM_ (fun W hW => planned_calls 50000 Al cl l (edges l) (urges l) (heights l) W (Kd.C_below hl hW) hcl hn (urges_len l) (heights_len l) (by have := edges_few l hn; omega) (fun j hj => by
    rw [rd51_at _ _ hj]
    obtain ⟨a, t, e0, e1, hat, htn⟩ := edges_range l _ _ _ (List.getElem_mem hj)
    rw [e1]; omega) (own_edges l hn (okA_L ho) (Nat.le_refl _)) (urge_eq (by omega) l hn ho) (high_eq (by omega) l hn ho))
  have hbd := endC_bd ho hn x
  obtain ⟨c, L0, hcL0⟩ : ∃ c L, endC l x = (c, L) := ⟨_, _, rfl⟩
  rw [hcL0] at hbd
  simp only at hbd
  obtain ⟨L, rfl⟩ := Int.eq_ofNat_of_zero_le hbd.1
  have hlong1 : L ≤ 2000 := by have := hbd.2.1; omega
  have HCL := aM_ hcL0
  have HBD := aM_ hbd
  clear hl ho hbd hcL0
  go_enter Try.func84, Try.ntmps84
  go_wp2_with (first | ((with_reducible refine gate_dst (N := 1) rfl ?_); refine bX_ (N := 1) (cs := #[.slice A0 nl c0, .slice Al l.length cl, .int .i64 x.f0, .int .i64 x.f1, .int .i64 x.f2, .int .i64 x.f3, .int .i64 x.f4, .string x.f5]) (t := 73) ?_; intro gb hgb w1 hbox hb; have x1 : w1.cell? ⟨gb, 1, none⟩ = some (.slice Al l.length cl) := (bC_ hbox 1).trans rfl; have BX := aM_ hbox; have HB := aM_ hb; have GB := aM_ (show w.heap.size ≤ gb from by rw [hgb]; exact Nat.le_refl _); clear hbox hb hgb) | (go_at_call 78; refine (HP.out _ HB.out).mono ?_; rintro e w2 ⟨B, g, A12, A15, A18, A21, c12, c15, c18, c21, vA, rfl, hB1, hBg, hPLI, hF, hb⟩; have HB1 := aM_ (Nat.le_trans HB.out.size hB1); have HB1' := aM_ hB1; have HBG := aM_ hBg; have HPL := aM_ hPLI; have HF := aM_ hF; have HB2 := aM_ (HB.out.trans (hb.mono HB.out.size)); have BX2 := aM_ (kB_ BX.out hb); clear hB1 hBg hPLI hF hb x1) | (go_at_call 79; refine (ran_calls l HO.out hn HPL.out HF.out HBG.out (Nat.le_of_lt (Nat.lt_of_le_of_lt HBG.out (blk_lt HPL.out.box)))).mono ?_; rintro e w3 ⟨⟨v9, rfl⟩, ⟨va, vs, hE⟩, hb⟩; have BX3 := aM_ ((hb.block gb (Nat.lt_of_lt_of_le (blk_lt BX.out) HB1'.out)).trans BX2.out); have HB3 := aM_ (HB2.out.trans (hb.mono HB1.out)); have HE := aM_ hE; have HF3 := aM_ (Kd.F_step HF.out (fun k_ hk _ => hb.block k_ hk)); clear hE hb; have y2 : w3.cell? ⟨gb, 2, none⟩ = some (.int .i64 x.f0) := (bC_ BX3.out 2).trans rfl; have y3 : w3.cell? ⟨gb, 3, none⟩ = some (.int .i64 x.f1) := (bC_ BX3.out 3).trans rfl; have y4 : w3.cell? ⟨gb, 4, none⟩ = some (.int .i64 x.f2) := (bC_ BX3.out 4).trans rfl; have y5 : w3.cell? ⟨gb, 5, none⟩ = some (.int .i64 x.f3) := (bC_ BX3.out 5).trans rfl; have y6 : w3.cell? ⟨gb, 6, none⟩ = some (.int .i64 x.f4) := (bC_ BX3.out 6).trans rfl; have y7 : w3.cell? ⟨gb, 7, none⟩ = some (.string x.f5) := (bC_ BX3.out 7).trans rfl) | (go_at_call 113; refine (last_end l x HO.out hn hx HE.out HF3.out hcl c L HCL.out).mono ?_; rintro e w4 ⟨rfl, hb⟩; have HB4 := aM_ (HB3.out.trans (hb.mono HB3.out.size)); have HB45 := aM_ hb; clear hb y2 y3 y4 y5 y6 y7) | ((with_reducible refine gate_dst (N := 22) rfl ?_); refine Kd.R_make k81 _ 81 rfl (N := 22) rfl 65 _ _ rfl (L : Int) rfl rfl Try.underlying65 (.agg #[(.int .i64 0), (.int .i64 0), (.int .i64 0), (.int .i64 0), (.int .i64 0), (.string ⟨#[]⟩), (.int .i64 0), (.int .i64 0), (.int .i64 0), (.int .i64 0), (.int .i64 0), (.string ⟨#[]⟩), (.int .i64 0), (.int .i64 0), (.int .i64 0), (.int .i64 0), (.int .i64 0), (.string ⟨#[]⟩), (.int .i64 0), (.int .i64 0), (.int .i64 0), (.int .i64 0), (.int .i64 0), (.string ⟨#[]⟩)]) 224 info81 rfl (by decide) (by omega) z81 (ok := fun _ => True) (okp := fun _ => True) (k81_mkM _ _ _ z81) (fun _ hk => hk) trivial (Int.natCast_nonneg _) (by omega) (Below.refl _ _) (Nat.le_refl _) ?_; intro vc w5 hR5 hb5 _ hn5; rw [Int.toNat_natCast] at hR5; obtain ⟨gc, cap, hvc, hgc⟩ := R81_shape hR5 hn5; subst hvc; rw [List.length_replicate] at hR5; have HR5 := aM_ hR5; have HB5 := aM_ hb5; have HGC := aM_ hgc; have BX5 := aM_ (kB_ (kB_ BX3.out HB45.out) hb5); have x15 : w5.cell? ⟨gb, 1, none⟩ = some (.slice Al l.length cl) := (bC_ BX5.out 1).trans rfl; clear hR5 hb5 hn5 hgc))
  obtain ⟨v1, v2, v3, v6, hbE⟩ := HE.out.box
  have hra := HE.out.ra
  have hrs := HE.out.rs
  obtain ⟨hla, hls⟩ := cyc_len HO.out
  obtain ⟨Aa, ca, hva⟩ := Kd.R_slice hra
  obtain ⟨As, cs, hvs⟩ := Kd.R_slice hrs
  subst hva
  subst hvs
  rw [hla] at hra hbE
  rw [hls] at hrs hbE
  have hCa := (Kd.R_reads' hra).2.2
  have hCs := (Kd.R_reads' hrs).2.2
  rw [hla] at hCa
  rw [hls] at hCs
  have BE := aM_ (kB_ hbE HB45.out)
  have CA := aM_ (Kd.C_below hCa HB45.out)
  have CS := aM_ (Kd.C_below hCs HB45.out)
  have CL := aM_ (Kd.C_below (Kd.F_now HF3.out) HB45.out)
  have BX4 := aM_ (kB_ BX3.out HB45.out)
  have HIN := aM_ (fun i hi => cyc_in HO.out hn i hi)
  clear hra hrs hbE hCa hCs hla hls HE HF3 HF HPL HP BX BX2 BX3 BX5 x15 HB1' HBG
  go_loopw [26] (fun i wr => ∃ j : Nat, j ≤ l.length ∧ i = .int .i64 j ∧ As_ (Kd.R k81 81 wr w4.heap.size (fun _ => True) (.slice (some ⟨gc, 0, none⟩) L cap) (bunUp l (cycF l).at_ (cycF l).sl (List.replicate L z81) j)) ∧ As_ (Below w4.heap.size w4 wr)) (fun i _ => l.length - (intOf i).toNat)
  case atStart => exact ⟨0, Nat.zero_le _, rfl, ⟨HR5.out⟩, ⟨HB5.out⟩⟩
  case round =>
    clear HR5 HB5
    obtain ⟨j, hj, rfl, HR, HB⟩ := hrel
    by_cases hlt : j < l.length
    · obtain ⟨ad, e1, hx0, hx1, hx2, hx3, hx4, hx5⟩ := at_T24 (Kd.C_below CL.out HB.out) (j : Int) (Int.natCast_nonneg _) (by omega)
      subst e1
      obtain ⟨ada, e2, ha⟩ := Kd.at_int (Kd.C_below CA.out HB.out) (j : Int) (Int.natCast_nonneg _) (by omega)
      subst e2
      obtain ⟨ads, e3, hs⟩ := Kd.at_int (Kd.C_below CS.out HB.out) (j : Int) (Int.natCast_nonneg _) (by omega)
      subst e3
      rw [Int.toNat_natCast] at hx0 hx1 hx2 hx3 hx4 hx5 ha hs
      have hin := HIN.out j hlt
      have hlt2 := HBD.out.2.2.2.2 j hlt
      have hbun : bunUp l (cycF l).at_ (cycF l).sl (List.replicate L z81) (j + 1) = (bunUp l (cycF l).at_ (cycF l).sl (List.replicate L z81) j).set (rd (cycF l).at_ j).toNat (put81 (q81 (bunUp l (cycF l).at_ (cycF l).sl (List.replicate L z81) j) (rd (cycF l).at_ j)) (rd (cycF l).sl j) (q24 l j)) := rfl
      have HBU := aM_ hbun
      clear hbun
      generalize hai : rd (cycF l).at_ (j : Int) = va at ha hin hlt2 HBU
      generalize hsi : rd (cycF l).sl (j : Int) = vs at hs hin HBU
      obtain ⟨av, rfl⟩ := Int.eq_ofNat_of_zero_le hin.1.1
      obtain ⟨sv, rfl⟩ := Int.eq_ofNat_of_zero_le hin.2.1
      have hav : av < L := by omega
      have hsv : sv < 4 := by omega
      clear hin hlt2 hai hsi
      have HAV := aM_ hav
      have HSV := aM_ hsv
      have p1 : ((0 : Int) ≤ (j : Int)) = True := eq_true (Int.natCast_nonneg _)
      have q1 : ((j : Int) < (l.length : Int)) = True := eq_true (by omega)
      have q1n : (j < l.length) = True := eq_true hlt
      have p2 : ((0 : Int) ≤ (av : Int)) = True := eq_true (Int.natCast_nonneg _)
      have q2 : ((av : Int) < (L : Int)) = True := eq_true (by omega)
      have q2n : (av < L) = True := eq_true hav
      have p3 : ((0 : Int) ≤ (sv : Int)) = True := eq_true (Int.natCast_nonneg _)
      have q3 : ((sv : Int) < 4) = True := eq_true (by omega)
      have q3n : (sv < 4) = True := eq_true hsv
      clear hav hsv
      have hw2 : wrap64 ((j : Int) + 1) = ((j + 1 : Nat) : Int) := by unfold wrap64; omega
      go_wp2
      have hb1 := b1_ (bA_ (Below.refl wr.heap.size wr) (.cells #[.int .i64 (q24 l (j : Int)).f0, .int .i64 (q24 l (j : Int)).f1, .int .i64 (q24 l (j : Int)).f2, .int .i64 (q24 l (j : Int)).f3, .int .i64 (q24 l (j : Int)).f4, .string (q24 l (j : Int)).f5] 24))
      have hbx : (wr.alloc (.cells #[.int .i64 (q24 l (j : Int)).f0, .int .i64 (q24 l (j : Int)).f1, .int .i64 (q24 l (j : Int)).f2, .int .i64 (q24 l (j : Int)).f3, .int .i64 (q24 l (j : Int)).f4, .string (q24 l (j : Int)).f5] 24)).drew.heap[wr.heap.size]? = some (.cells #[.int .i64 (q24 l (j : Int)).f0, .int .i64 (q24 l (j : Int)).f1, .int .i64 (q24 l (j : Int)).f2, .int .i64 (q24 l (j : Int)).f3, .int .i64 (q24 l (j : Int)).f4, .string (q24 l (j : Int)).f5] 24 (0, 0)) := blk_new wr _
      have HBX := aM_ hbx
      have HR1 := aM_ (Kd.R_below HR.out hb1)
      have HB1 := aM_ (HB.out.trans (hb1.mono HB.out.size))
      have m4 := aM_ (bC_ ((HB1.out.block g (blk_lt BE.out)).trans BE.out) 4)
      have m5 := aM_ (bC_ ((HB1.out.block g (blk_lt BE.out)).trans BE.out) 5)
      have ma := aM_ (pw_cell_below hb1 ha)
      have ms := aM_ (pw_cell_below hb1 hs)
      clear hb1 hbx HR HB ha hs hx0 hx1 hx2 hx3 hx4 hx5
      generalize hy : q24 l (j : Int) = y at HBX HR1 HB1 m4 m5 ma ms HBU ⊢
      refine start_ (n := 19) (S := fun w' => w'.cell? ⟨g, 4, none⟩ = some (.slice (some ada) l.length ca) ∧ w'.cell? ⟨g, 5, none⟩ = some (.slice (some ads) l.length cs) ∧ w'.cell? (ada.add j) = some (.int .i64 av) ∧ w'.cell? (ads.add j) = some (.int .i64 sv) ∧ w'.cell? ⟨wr.heap.size, 0, none⟩ = some (.int .i64 y.f0) ∧ w'.cell? ⟨wr.heap.size, 1, none⟩ = some (.int .i64 y.f1) ∧ w'.cell? ⟨wr.heap.size, 2, none⟩ = some (.int .i64 y.f2) ∧ w'.cell? ⟨wr.heap.size, 3, none⟩ = some (.int .i64 y.f3) ∧ w'.cell? ⟨wr.heap.size, 4, none⟩ = some (.int .i64 y.f4) ∧ w'.cell? ⟨wr.heap.size, 5, none⟩ = some (.string y.f5)) (ds := [18]) (bm 19 0) (by kernel_rfl) rfl (by kernel_rfl) ⟨m4.out.trans rfl, m5.out.trans rfl, ma.out, ms.out, (bC_ HBX.out 0).trans rfl, (bC_ HBX.out 1).trans rfl, (bC_ HBX.out 2).trans rfl, (bC_ HBX.out 3).trans rfl, (bC_ HBX.out 4).trans rfl, (bC_ HBX.out 5).trans rfl⟩ (fun hHeld => ?_); refine with_tabW bundles84.tab8 bundles84.bits8 (fun HT_ HW_ => ?_)
      clear HBX m4 m5 ma ms
      generalize wr.heap.size = gx at hHeld ⊢
      generalize (wr.alloc (.cells #[.int .i64 y.f0, .int .i64 y.f1, .int .i64 y.f2, .int .i64 y.f3, .int .i64 y.f4, .string y.f5] 24)).drew = W5 at HR1 HB1 hHeld ⊢
      refine sq_ (k := 1) [(0, some 31, false), (1, some 32, false), (2, some 33, false), (3, some 34, false), (4, some 35, true), (5, some 36, false), (6, some 37, false), (7, some 38, true), (8, some 39, false), (9, some 40, false), (10, some 41, false), (11, some 42, true), (12, some 43, false), (13, some 44, false), (14, some 45, true), (15, some 46, true), (16, some 47, false), (17, some 48, false)] #[true, true, true, true, true, true, true, true, true, true, true, true, true, true, true, true, true, true, false] rfl (sq_of HT_.out HW_.out (by kernel_rfl)) (fun _ _ _ _ _ h => h) hHeld ?_
      repeat (first | (refine SqOn.pure (v := ?_) (a' := ?_) rfl rfl (Or.inl ⟨by kernel_rfl, ?_⟩) ?_ ?_; rotate_left 2; (focus (intro w'; go_simp; with_reducible rfl)); (focus exact pU_)) | (refine SqOn.take (v := ?_) (a' := ?_) rfl rfl (Or.inl ⟨by kernel_rfl, ?_⟩) ?_ ?_; rotate_left 2; (focus (rintro w' ⟨s0, s1, s2, s3, s4, s5, s6, s7, s8, s9⟩; go_simp; with_reducible rfl)); (focus exact pU_)))
      refine SqOn.nil ?_
      obtain ⟨hR2, hg2, hrun⟩ := slot_store HR1.out av HAV.out sv HSV.out y
      have hR3 := aM_ hR2
      have hB3 := aM_ (pw_below_grown HB1.out (some gc) HB1.out.size hg2 (fun k_ e_ => by injection e_ with e_; subst e_; exact HGC.out))
      have hrun3 := aM_ hrun
      clear hR2 hg2 hrun
      refine last_ (i := 18) (N := none) #[true, true, true, true, true, true, true, true, true, true, true, true, true, true, true, true, true, true, true] rfl rfl (one_of HT_.out (by kernel_rfl)) (by decide) (fun K hK => ?_)
      refine skip_ (w1 := W5.setCells gc (av * 24 + sv * 6) (insC y)) (by rfl) rfl ?_ ?_
      · have h_ := hrun3.out
        simp only [insC] at h_ ⊢
        simp [execOp, Act.eval, h_, Result.andThen]
      refine hK.out _ _ ?_
      clear hK K hrun3 HR1 HB1 hHeld
      refine done_ (done_of HT_.out (by kernel_rfl)) ?_
      clear HT_ HW_
      generalize W5.setCells gc (av * 24 + sv * 6) (insC y) = W6 at hR3 hB3 ⊢
      go_wp2
      refine ⟨⟨j + 1, by omega, by congr 1, ⟨by rw [HBU.out]; exact hR3.out⟩, ⟨hB3.out⟩⟩, ?_⟩
      simp [intOf]
      omega
    · obtain rfl : j = l.length := by omega
      have q1 : ((l.length : Int) < (l.length : Int)) = False := eq_false (by omega)
      have hcl2 := HBD.out
      by_cases h0 : 0 ≤ c
      · have c1 : ((0 : Int) ≤ c) = True := eq_true h0
        have c1b : decide ((0 : Int) ≤ c) = true := decide_eq_true h0
        have hcL : c < (L : Int) := hcl2.2.2.1
        clear hcl2
        obtain ⟨cv, rfl⟩ := Int.eq_ofNat_of_zero_le h0
        clear h0
        have p2 : ((0 : Int) ≤ (cv : Int)) = True := eq_true (Int.natCast_nonneg _)
        have q2 : ((cv : Int) < (L : Int)) = True := eq_true hcL
        have hcv : cv < L := by omega
        have q2n : (cv < L) = True := eq_true hcv
        have HCV := aM_ hcv
        clear hcv hcL
        have BX6 := aM_ ((HB.out.block gb (blk_lt BX4.out)).trans BX4.out)
        go_wp2
        refine start_ (n := 7) (S := fun w' => w'.cell? ⟨gb, 2, none⟩ = some (.int .i64 x.f0) ∧ w'.cell? ⟨gb, 3, none⟩ = some (.int .i64 x.f1) ∧ w'.cell? ⟨gb, 4, none⟩ = some (.int .i64 x.f2) ∧ w'.cell? ⟨gb, 5, none⟩ = some (.int .i64 x.f3) ∧ w'.cell? ⟨gb, 6, none⟩ = some (.int .i64 x.f4) ∧ w'.cell? ⟨gb, 7, none⟩ = some (.string x.f5)) (ds := [6]) (bm 7 0) (by kernel_rfl) rfl (by kernel_rfl) ⟨(bC_ (kD_ BX6.out) 2).trans rfl, (bC_ (kD_ BX6.out) 3).trans rfl, (bC_ (kD_ BX6.out) 4).trans rfl, (bC_ (kD_ BX6.out) 5).trans rfl, (bC_ (kD_ BX6.out) 6).trans rfl, (bC_ (kD_ BX6.out) 7).trans rfl⟩ (fun hHeld => ?_); refine with_tabW bundles84.tab11 bundles84.bits11 (fun HT_ HW_ => ?_)
        have HR1 := aM_ (Kd.R_drew HR.out)
        have HB1 := aM_ (b1_ HB.out |> fun h_ => (h_ : Below w4.heap.size w4 wr.drew))
        clear HR HB BX6
        generalize wr.drew = W5 at HR1 HB1 hHeld ⊢
        refine sq_ (k := 1) [(0, some 52, false), (1, some 53, false), (2, some 54, false), (3, some 55, true), (4, some 56, false), (5, some 57, false)] #[true, true, true, true, true, true, false] rfl (sq_of HT_.out HW_.out (by kernel_rfl)) (fun _ _ _ _ _ h => h) hHeld ?_
        repeat (first | (refine SqOn.pure (v := ?_) (a' := ?_) rfl rfl (Or.inl ⟨by kernel_rfl, ?_⟩) ?_ ?_; rotate_left 2; (focus (intro w'; go_simp; with_reducible rfl)); (focus exact pU_)) | (refine SqOn.take (v := ?_) (a' := ?_) rfl rfl (Or.inl ⟨by kernel_rfl, ?_⟩) ?_ ?_; rotate_left 2; (focus (rintro w' ⟨s0, s1, s2, s3, s4, s5⟩; go_simp; with_reducible rfl)); (focus exact pU_)))
        refine SqOn.nil ?_
        obtain ⟨hR2, hg2, hrun⟩ := slot_store HR1.out cv HCV.out 0 (by omega) x
        have hR3 := aM_ hR2
        have hB3 := aM_ (pw_below_grown HB1.out (some gc) HB1.out.size hg2 (fun k_ e_ => by injection e_ with e_; subst e_; exact HGC.out))
        have hrun3 := aM_ hrun
        clear hR2 hg2 hrun
        refine last_ (i := 6) (N := none) #[true, true, true, true, true, true, true] rfl rfl (one_of HT_.out (by kernel_rfl)) (by decide) (fun K hK => ?_)
        refine skip_ (w1 := W5.setCells gc (cv * 24 + 0 * 6) (insC x)) (by rfl) rfl ?_ ?_
        · have h_ := hrun3.out
          simp only [insC, Nat.zero_mul, Nat.add_zero] at h_ ⊢
          simp [execOp, Act.eval, h_, Result.andThen]
        refine hK.out _ _ ?_
        clear hK K hrun3 HR1 HB1 hHeld
        refine done_ (done_of HT_.out (by kernel_rfl)) ?_
        clear HT_ HW_
        generalize W5.setCells gc (cv * 24 + 0 * 6) (insC x) = W6 at hR3 hB3 ⊢
        go_wp2
        go_ret
        refine ⟨_, rfl, Kd.R_lower ?_ HB4.out.size, HB4.out.trans (hB3.out.mono HB4.out.size)⟩
        have hc : (endC l x).1 = cv := by rw [HCL.out]
        have hL2 : (endC l x).2.toNat = L := by rw [HCL.out]; simp
        unfold bunF bunAll
        rw [hc, if_pos (Int.natCast_nonneg _), hL2, Int.toNat_natCast]
        exact hR3.out
      · have c1 : ((0 : Int) ≤ c) = False := eq_false h0
        have c1b : decide ((0 : Int) ≤ c) = false := decide_eq_false h0
        clear hcl2
        have H0 := aM_ h0
        clear h0
        go_wp2
        go_ret
        refine ⟨_, rfl, Kd.R_lower ?_ HB4.out.size, HB4.out.trans (HB.out.mono HB4.out.size)⟩
        have hc : (endC l x).1 = c := by rw [HCL.out]
        have hL2 : (endC l x).2.toNat = L := by rw [HCL.out]; simp
        unfold bunF bunAll
        rw [hc, if_neg (by have := H0.out; omega), hL2]
        exact HR.out
end
section
attribute [local go_sem] max2_int min2_int max_two min_two max_three min_three max_four min_four
def r13_busy.l0 : Nat → List Int → List Int → Int → Int → Option (Bool)
  | 0, _, _, _, _ => none
  | k + 1, x0, x1, x2, x7 => if x7 < (x0.length : Int) then (if 0 ≤ x7 then (if (rd x0 x7) = x2 then (if x7 < (x1.length : Int) then (if (rd x1 x7) = 0 then (some true) else (r13_busy.l0 k x0 x1 x2 (wrap64 (x7 + 1)))) else (none)) else (r13_busy.l0 k x0 x1 x2 (wrap64 (x7 + 1)))) else (none)) else (some false)
def r13_busy.f (k : Nat) (l0 : List Int) (l1 : List Int) (a2 : Int) : Option (Bool) := r13_busy.l0 k l0 l1 a2 0
theorem r13_busy.calls (k : Nat) (A0 : Option Addr) (c0 : Nat) (l0 : List Int) (A1 : Option Addr) (c1 : Nat) (l1 : List Int) (a2 : Int) (r : Bool) (w : World) (hr0 : Kd.C (Kd.int .i64) w A0 l0.length l0) (hc0 : l0.length ≤ c0) (hr1 : Kd.C (Kd.int .i64) w A1 l1.length l1) (hc1 : l1.length ≤ c1) (h : r13_busy.f k l0 l1 a2 = some r) :
    Calls Try.prog 107 #[.slice A0 l0.length c0, .slice A1 l1.length c1, .int .i64 a2] w fun e w' => e = .returned (.bool r) ∧ Dr_ w w' := by
  have HR0 := aM_ hr0
  have HC0 := aM_ hc0
  clear hr0 hc0
  have HR1 := aM_ hr1
  have HC1 := aM_ hc1
  clear hr1 hc1
  have H : (r13_busy.l0 k l0 l1 a2 0) = some r := h
  clear h
  replace H := aM_ H
  go_enter Try.func107, Try.ntmps107
  go_wp2
  go_loopg [7] k (fun kq v7 w' => ∃ (x7_1 : Int), v7 = .int .i64 x7_1 ∧ As_ (r13_busy.l0 kq l0 l1 a2 x7_1 = some r) ∧ As_ (kq ≤ k) ∧ Dr_ w w')
  case atStart => exact ⟨(0), eQ_, H, ⟨Nat.le_refl _⟩, dR_⟩
  case round =>
    clear H
    (try clear c1); (try clear p2)
    obtain ⟨x7_1, rfl, HA, HK1, ⟨m1, rfl⟩⟩ := hrel
    cases gk with
    | zero => exact absurd HA.out (by simp [r13_busy.l0])
    | succ k1 =>
      have H := HA.out
      clear HA
      simp only [r13_busy.l0] at H
      by_cases c4 : x7_1 < (l0.length : Int)
      · rw [if_pos c4] at H
        have c4b0 := dE_ c4
        clear c4
        by_cases c5 : 0 ≤ x7_1
        · rw [if_pos c5] at H
          have c5b0 := dE_ c5
          clear c5
          by_cases c6 : (rd l0 x7_1) = a2
          · rw [if_pos c6] at H
            have c6b0 := bH_ c6
            have c6b1 := bF_ c6
            clear c6
            by_cases c7 : x7_1 < (l1.length : Int)
            · rw [if_pos c7] at H
              have c7b0 := dE_ c7
              clear c7
              by_cases c8 : (rd l1 x7_1) = 0
              · rw [if_pos c8] at H
                have c8b0 := bH_ c8
                have c8b1 := bF_ c8
                clear c8
                obtain rfl := oI_ H
                have p652 : 0 ≤ (x7_1 : Int) := oD_
                have q652 : x7_1 < (l0.length : Int) := oD_
                obtain ⟨ad652, e652, hx652_0⟩ := Kd.at_int HR0.out x7_1 p652 q652
                cases e652
                replace p652 := eq_true p652
                replace q652 := eq_true q652
                have p653 : 0 ≤ (x7_1 : Int) := oD_
                have q653 : x7_1 < (l1.length : Int) := oD_
                obtain ⟨ad653, e653, hx653_0⟩ := Kd.at_int HR1.out x7_1 p653 q653
                cases e653
                replace p653 := eq_true p653
                replace q653 := eq_true q653
                go_wp2
                go_ret
                exact ⟨eQ_, dR_⟩
              · rw [if_neg c8] at H
                have c8b0 := bE_ c8
                have c8b1 := bG_ c8
                replace H := aM_ H
                have p652 : 0 ≤ (x7_1 : Int) := oD_
                have q652 : x7_1 < (l0.length : Int) := oD_
                obtain ⟨ad652, e652, hx652_0⟩ := Kd.at_int HR0.out x7_1 p652 q652
                cases e652
                replace p652 := eq_true p652
                replace q652 := eq_true q652
                have p653 : 0 ≤ (x7_1 : Int) := oD_
                have q653 : x7_1 < (l1.length : Int) := oD_
                obtain ⟨ad653, e653, hx653_0⟩ := Kd.at_int HR1.out x7_1 p653 q653
                cases e653
                replace p653 := eq_true p653
                replace q653 := eq_true q653
                go_wp2
                go_roundg k1
                case measure => have := HK1.out; omega
                case rel => exact ⟨(wrap64 (x7_1 + 1)), eQ_, H, ⟨by have := HK1.out; omega⟩, dR_⟩
            · rw [if_neg c7] at H
              exact absurd H (by simp)
          · rw [if_neg c6] at H
            have c6b0 := bE_ c6
            have c6b1 := bG_ c6
            replace H := aM_ H
            have p652 : 0 ≤ (x7_1 : Int) := oD_
            have q652 : x7_1 < (l0.length : Int) := oD_
            obtain ⟨ad652, e652, hx652_0⟩ := Kd.at_int HR0.out x7_1 p652 q652
            cases e652
            replace p652 := eq_true p652
            replace q652 := eq_true q652
            go_wp2
            go_roundg k1
            case measure => have := HK1.out; omega
            case rel => exact ⟨(wrap64 (x7_1 + 1)), eQ_, H, ⟨by have := HK1.out; omega⟩, dR_⟩
        · rw [if_neg c5] at H
          exact absurd H (by simp)
      · rw [if_neg c4] at H
        have c4b0 := dF_ c4
        clear c4
        obtain rfl := oI_ H
        go_wp2
        go_ret
        exact ⟨eQ_, dR_⟩
end
section
attribute [local go_sem] max2_int min2_int max_two min_two max_three min_three max_four min_four
theorem block_May_1.calls (k : Nat) (a0_0 : Int) (a0_1 : Int) (a0_2 : Int) (a0_3 : Int) (a0_4 : Int) (a0_5 : ByteArray) (r : Bool) (w : World) (h : dag_May_1.f k a0_0 a0_1 a0_2 a0_3 a0_4 a0_5 = some r) :
    Calls Try.prog 112 #[.agg #[.int .i64 a0_0, .int .i64 a0_1, .int .i64 a0_2, .int .i64 a0_3, .int .i64 a0_4, .string a0_5]] w fun e w' => e = .returned (.bool r) ∧ Below w.heap.size w w' := by
  have hu24 := Try.underlying24
  have HB := aM_ (Below.refl w.heap.size w)
  have H : ((block_Plain.f k a0_0 a0_1 a0_2 a0_3 a0_4 a0_5).bind fun t125 => (some (!t125))) = some r := h
  clear h
  replace H := oB_ H
  obtain ⟨t125, A2, H⟩ := H
  obtain rfl := oI_ H
  go_enter Try.func112, Try.ntmps112
  go_wp2_with (first | ((with_reducible refine gate_dst (N := 1) rfl ?_); refine bX_ (N := 1) (cs := #[.int .i64 a0_0, .int .i64 a0_1, .int .i64 a0_2, .int .i64 a0_3, .int .i64 a0_4, .string a0_5]) (t := 24) ?_; intro gb124 hg w3 hbox hb; replace BK124 := aM_ (hbox); replace GW124 := aM_ (gE_ hg (bl_ HB)); replace GE124 := aM_ (gE_ hg (bl_ HB)); replace HB := aM_ (bT_ (bl_ HB) hb); clear hb hbox hg; obtain ⟨hcz4_0, hcz4_1, hcz4_2, hcz4_3, hcz4_4, hcz4_5⟩ := cl6_ BK124.out; obtain ⟨hfz4_0, hfz4_1, hfz4_2, hfz4_3, hfz4_4, hfz4_5⟩ := fz6_ BK124.out) | ((with_reducible refine gC_ (f := 90) rfl ?_); refine gL_ (some 4) Try.func90 #[.agg #[.int .i64 a0_0, .int .i64 a0_1, .int .i64 a0_2, .int .i64 a0_3, .int .i64 a0_4, .string a0_5]] rfl ?_; (with_reducible refine (block_Plain.calls k a0_0 a0_1 a0_2 a0_3 a0_4 a0_5 t125 _ A2.out).mono ?_); rintro e w5 ⟨rfl, hb⟩; refine ⟨_, rfl, ?_⟩; replace BK124 := aM_ (kB_ (rB_ BK124) hb); replace HB := aM_ (bT_ (bs_ HB GE124) hb)))
  go_ret
  exact ⟨eR_, bs_ HB GE124⟩
theorem aI112_114112.calls (k : Nat) (A0 : Option Addr) (c0 : Nat) (l0 : List (S24))  (r : Int) (w : World) (hr0 : Kd.C k24 w A0 l0.length l0) (hc0 : l0.length ≤ c0) (h : aI89_114089.f k l0 = some r) :
    Calls Try.prog 114 #[.slice A0 l0.length c0, .func (.func 112) #[] #[]] w fun e w' => e = .returned (.int .i64 r) ∧ Below w.heap.size w w' := by
  have hu24 := Try.underlying24
  have HR0 := aM_ hr0
  have HC0 := aM_ hc0
  clear hr0 hc0
  have HB := aM_ (Below.refl w.heap.size w)
  have H : (aI89_114089.l0 k l0 (l0.length : Int) 0) = some r := h
  clear h
  replace H := aM_ H
  go_enter Try.func114, Try.ntmps114
  go_wp2
  go_loopg [8] k (fun kq v8 w' => ∃ (x8_1 : Int), v8 = .int .i64 x8_1 ∧ As_ (aI89_114089.l0 kq l0 (l0.length : Int) x8_1 = some r) ∧ As_ (kq ≤ k) ∧ As_ (Below w.heap.size w w'))
  case atStart => exact ⟨(0), eQ_, H, ⟨Nat.le_refl _⟩, ⟨bl_ HB⟩⟩
  case round =>
    clear H
    (try clear c1); (try clear p2)
    obtain ⟨x8_1, rfl, HA, HK1, HB⟩ := hrel
    cases gk with
    | zero => exact absurd HA.out (by simp [aI89_114089.l0])
    | succ k1 =>
      have H := HA.out
      clear HA
      simp only [aI89_114089.l0] at H
      by_cases c3 : x8_1 < (l0.length : Int)
      · rw [if_pos c3] at H
        have c3b0 := dE_ c3
        clear c3
        by_cases c4 : 0 ≤ x8_1
        · rw [if_pos c4] at H
          have c4b0 := dE_ c4
          clear c4
          by_cases c5 : x8_1 < (l0.length : Int)
          · rw [if_pos c5] at H
            have c5b0 := dE_ c5
            clear c5
            replace H := oB_ H
            obtain ⟨t127, A6, H⟩ := H
            by_cases c7 : t127 = true
            · subst c7
              rw [if_pos rfl] at H
              obtain rfl := oI_ H
              have p126 : 0 ≤ (x8_1 : Int) := oD_
              have q126 : x8_1 < (l0.length : Int) := oD_
              obtain ⟨ad126, e126, hx126_0, hx126_1, hx126_2, hx126_3, hx126_4, hx126_5⟩ := at_T24 HR0.out x8_1 p126 q126
              cases e126
              replace hx126_0 := hC_ HB hx126_0
              replace hx126_1 := hC_ HB hx126_1
              replace hx126_2 := hC_ HB hx126_2
              replace hx126_3 := hC_ HB hx126_3
              replace hx126_4 := hC_ HB hx126_4
              replace hx126_5 := hC_ HB hx126_5
              replace p126 := eq_true p126
              replace q126 := eq_true q126
              go_wp2_with (first | (go_at_call 112; (with_reducible refine (block_May_1.calls k1 ((q24 l0 x8_1).f0) ((q24 l0 x8_1).f1) ((q24 l0 x8_1).f2) ((q24 l0 x8_1).f3) ((q24 l0 x8_1).f4) ((q24 l0 x8_1).f5) true _ A6.out).mono ?_); rintro e w8 ⟨rfl, hb⟩; replace HB := aM_ (bT_ (bl_ HB) hb)))
              go_ret
              exact ⟨eR_, bl_ HB⟩
            · replace c7 := eF_ c7
              subst c7
              rw [if_neg Bool.false_ne_true] at H
              replace H := aM_ H
              have p126 : 0 ≤ (x8_1 : Int) := oD_
              have q126 : x8_1 < (l0.length : Int) := oD_
              obtain ⟨ad126, e126, hx126_0, hx126_1, hx126_2, hx126_3, hx126_4, hx126_5⟩ := at_T24 HR0.out x8_1 p126 q126
              cases e126
              replace hx126_0 := hC_ HB hx126_0
              replace hx126_1 := hC_ HB hx126_1
              replace hx126_2 := hC_ HB hx126_2
              replace hx126_3 := hC_ HB hx126_3
              replace hx126_4 := hC_ HB hx126_4
              replace hx126_5 := hC_ HB hx126_5
              replace p126 := eq_true p126
              replace q126 := eq_true q126
              go_wp2_with (first | (go_at_call 112; (with_reducible refine (block_May_1.calls k1 ((q24 l0 x8_1).f0) ((q24 l0 x8_1).f1) ((q24 l0 x8_1).f2) ((q24 l0 x8_1).f3) ((q24 l0 x8_1).f4) ((q24 l0 x8_1).f5) false _ A6.out).mono ?_); rintro e w9 ⟨rfl, hb⟩; replace HB := aM_ (bT_ (bl_ HB) hb)))
              go_roundg k1
              case measure => have := HK1.out; omega
              case rel => exact ⟨(wrap64 (x8_1 + 1)), eQ_, H, ⟨by have := HK1.out; omega⟩, ⟨bl_ HB⟩⟩
          · rw [if_neg c5] at H
            exact absurd H (by simp)
        · rw [if_neg c4] at H
          exact absurd H (by simp)
      · rw [if_neg c3] at H
        have c3b0 := dF_ c3
        clear c3
        obtain rfl := oI_ H
        go_wp2
        go_ret
        exact ⟨eR_, bl_ HB⟩
theorem aI112_88112.calls (k : Nat) (A0 : Option Addr) (c0 : Nat) (l0 : List (S24))  (r : Bool) (w : World) (hr0 : Kd.C k24 w A0 l0.length l0) (hc0 : l0.length ≤ c0) (h : aI89_88089.f k l0 = some r) :
    Calls Try.prog 88 #[.slice A0 l0.length c0, .func (.func 112) #[] #[]] w fun e w' => e = .returned (.bool r) ∧ Below w.heap.size w w' := by
  have HR0 := aM_ hr0
  have HC0 := aM_ hc0
  clear hr0 hc0
  have HB := aM_ (Below.refl w.heap.size w)
  have H : ((aI89_114089.f k l0).bind fun t128 => (some (decide (t128 ≥ 0)))) = some r := h
  clear h
  replace H := oB_ H
  obtain ⟨t128, A3, H⟩ := H
  obtain rfl := oI_ H
  go_enter Try.func88, Try.ntmps88
  go_wp2_with (first | ((with_reducible refine gC_ (f := 114) rfl ?_); refine gL_ (some 7) Try.func114 #[.slice A0 l0.length c0, .func (.func 112) #[] #[]] rfl ?_; (with_reducible refine (aI112_114112.calls k _ _ l0  t128 _ ?side1 ?side2 A3.out).mono ?_); (case side1 => exact rC_ HR0.out); (case side2 => exact HC0.out); rintro e w4 ⟨rfl, hb⟩; refine ⟨_, rfl, ?_⟩; replace HB := aM_ (bT_ (bl_ HB) hb)))
  go_ret
  exact ⟨eR_, bl_ HB⟩
end
section
attribute [local go_sem] Oper.semAt_some
attribute [local go_sem high] eqA24
def zeroI (x : S24) : Bool := x.f0 == 0 && (x.f1 == 0 && (x.f2 == 0 && (x.f3 == 0 && (x.f4 == 0 && x.f5.toList.isEmpty))))
def mayBlk (l : List S24) (x : S24) : Bool := allPlain l && (if zeroI x = true then decide (l.length ≤ 200) else okI x && (endsOp x.f0 && decide (l.length + 1 ≤ 200)))
theorem contains_eq (l : List S24) (hl : l.length ≤ 1000000000) : aI89_88089.f (62 + l.length) l = some (!allPlain l) := by
  unfold aI89_88089.f aI89_114089.f
  obtain ⟨r, h1, h2⟩ := idx_loop l hl l.length (62 + l.length) 0 (by omega) (by omega)
  rw [show ((0 : Nat) : Int) = 0 from rfl] at h1
  rw [h1]
  simp only [Option.bind_some, h2, List.drop_zero]
  rfl
def totB (l : List S24) (x : S24) : Int := if zeroI x = true then l.length else l.length + 1
theorem block_May.calls0 (g : Nat) (A0 : Option Addr) (c0 : Nat) (Al : Option Addr) (cl cp : Nat) (l : List S24) (x : S24) (w : World) (hg : w.heap[g]? = some (.cells #[.slice A0 0 c0, .slice Al l.length cl, .int .i64 x.f0, .int .i64 x.f1, .int .i64 x.f2, .int .i64 x.f3, .int .i64 x.f4, .string x.f5] 73 (0, 0)))
    (hl : Kd.C k24 w Al l.length l) (hcl : l.length ≤ cl) (hmx : l.length ≤ 1000000000) :
    Calls Try.prog 83 #[.slice (some ⟨g, 0, none⟩) 1 cp] w fun e w' => e = .returned (.bool (mayBlk l x)) ∧ Below w.heap.size w w' := by
  have hu73 := Try.underlying73
  have hu24 := Try.underlying24
  have hmm := @run_makeMap_plain Try.prog
  have HG := aM_ hg
  have HL := aM_ hl
  clear hg hl
  go_enter Try.func83, Try.ntmps83
  go_wp2
  have HM := aM_ (blk_new w (.map #[] 0))
  have HB := aM_ (bA_ (Below.refl w.heap.size w) (.map #[] 0))
  generalize hmp : w.heap.size = mp at HM HB ⊢
  go_loopw [4, 12] (fun v i wr => ∃ j : Nat, j ≤ 1 ∧ i = .int .i64 j ∧ v = .int .i64 (if j = 0 then 0 else totB l x) ∧ As_ (j = 1 → mayBlk l x = decide (totB l x ≤ 200)) ∧ As_ (wr.heap[mp]? = some (.map #[] 0)) ∧ As_ (Below mp w wr)) (fun _ i _ => 1 - (intOf i).toNat)
  case atStart => exact ⟨0, by omega, rfl, rfl, ⟨fun h => by cases h⟩, ⟨HM.out⟩, ⟨HB.out⟩⟩
  case round =>
    clear HM HB
    obtain ⟨j, hj, rfl, rfl, HJ, HM, HB⟩ := hrel
    by_cases hlt : j = 0
    · subst hlt
      have HG1 := aM_ ((HB.out.block g (by rw [← hmp]; exact blk_lt HG.out)).trans HG.out)
      have hx0 : wr.cell? ⟨g, 0, none⟩ = some (.slice A0 0 c0) := (bC_ HG1.out 0).trans rfl
      have hx1 : wr.cell? ⟨g, 1, none⟩ = some (.slice Al l.length cl) := (bC_ HG1.out 1).trans rfl
      have hx2 : wr.cell? ⟨g, 2, none⟩ = some (.int .i64 x.f0) := (bC_ HG1.out 2).trans rfl
      have hx3 : wr.cell? ⟨g, 3, none⟩ = some (.int .i64 x.f1) := (bC_ HG1.out 3).trans rfl
      have hx4 : wr.cell? ⟨g, 4, none⟩ = some (.int .i64 x.f2) := (bC_ HG1.out 4).trans rfl
      have hx5 : wr.cell? ⟨g, 5, none⟩ = some (.int .i64 x.f3) := (bC_ HG1.out 5).trans rfl
      have hx6 : wr.cell? ⟨g, 6, none⟩ = some (.int .i64 x.f4) := (bC_ HG1.out 6).trans rfl
      have hx7 : wr.cell? ⟨g, 7, none⟩ = some (.string x.f5) := (bC_ HG1.out 7).trans rfl
      go_wp2
      have HX := aM_ (blk_new wr (.cells #[.slice A0 0 c0, .slice Al l.length cl, .int .i64 x.f0, .int .i64 x.f1, .int .i64 x.f2, .int .i64 x.f3, .int .i64 x.f4, .string x.f5] 73 (0, 0)))
      have hb1 := bA_ (Below.refl wr.heap.size wr) (.cells #[.slice A0 0 c0, .slice Al l.length cl, .int .i64 x.f0, .int .i64 x.f1, .int .i64 x.f2, .int .i64 x.f3, .int .i64 x.f4, .string x.f5] 73 (0, 0))
      have hmle : mp ≤ wr.heap.size := by rw [← hmp]; exact HB.out.size
      have HM1 := aM_ (kB_ HM.out hb1)
      have HB1 := aM_ (HB.out.trans (hb1.mono hmle))
      clear hb1 HM HB HG1 hx0 hx1 hx2 hx3 hx4 hx5 hx6 hx7
      generalize wr.heap.size = gx at HX hmle ⊢
      generalize wr.alloc (.cells #[.slice A0 0 c0, .slice Al l.length cl, .int .i64 x.f0, .int .i64 x.f1, .int .i64 x.f2, .int .i64 x.f3, .int .i64 x.f4, .string x.f5] 73 (0, 0)) = W1 at HX HM1 HB1 ⊢
      refine wp_loop_once ?_
      have x1 : W1.cell? ⟨gx, 1, none⟩ = some (.slice Al l.length cl) := (bC_ HX.out 1).trans rfl
      have HC := aM_ (aI112_88112.calls (62 + l.length) Al cl l _ W1 (Kd.C_below HL.out (by rw [hmp]; exact HB1.out)) hcl (contains_eq l hmx))
      cases hp : allPlain l with
      | false =>
        rw [hp] at HC
        go_wp2_with (go_at_call 88; refine HC.out.mono ?_; rintro e w' ⟨rfl, hb⟩; have HB2 := aM_ hb; clear hb)
        go_ret
        exact ⟨by simp [mayBlk, hp], by rw [hmp]; exact HB1.out.trans (HB2.out.mono (Nat.le_trans hmle (Nat.le_of_lt (blk_lt HX.out))))⟩
      | true =>
        rw [hp] at HC
        have HP := aM_ hp
        clear hp
        have hwl : wrap64 (0 + (l.length : Int)) = (l.length : Int) := by unfold wrap64; omega
        cases hz : zeroI x with
        | true =>
          have z1 : (x.f0 == 0 && (x.f1 == 0 && (x.f2 == 0 && (x.f3 == 0 && (x.f4 == 0 && x.f5.toList.isEmpty))))) = true := hz
          go_wp2_with (go_at_call 88; refine HC.out.mono ?_; rintro e w' ⟨rfl, hb⟩; have HX2 := aM_ (kB_ HX.out hb); have HM2 := aM_ (kB_ HM1.out hb); have HB2 := aM_ (HB1.out.trans (hb.mono (Nat.le_trans hmle (Nat.le_of_lt (blk_lt HX.out))))); clear hb x1; have y1 : w'.cell? ⟨gx, 1, none⟩ = some (.slice Al l.length cl) := (bC_ HX2.out 1).trans rfl; have y2 : w'.cell? ⟨gx, 2, none⟩ = some (.int .i64 x.f0) := (bC_ HX2.out 2).trans rfl; have y3 : w'.cell? ⟨gx, 3, none⟩ = some (.int .i64 x.f1) := (bC_ HX2.out 3).trans rfl; have y4 : w'.cell? ⟨gx, 4, none⟩ = some (.int .i64 x.f2) := (bC_ HX2.out 4).trans rfl; have y5 : w'.cell? ⟨gx, 5, none⟩ = some (.int .i64 x.f3) := (bC_ HX2.out 5).trans rfl; have y6 : w'.cell? ⟨gx, 6, none⟩ = some (.int .i64 x.f4) := (bC_ HX2.out 6).trans rfl; have y7 : w'.cell? ⟨gx, 7, none⟩ = some (.string x.f5) := (bC_ HX2.out 7).trans rfl)
          refine ⟨⟨1, Nat.le_refl _, by first | rfl | (congr 1), by simp [totB, hz], ⟨fun _ => by simp [mayBlk, totB, hz, HP.out]; omega⟩, ⟨HM2.out⟩, ⟨HB2.out⟩⟩, by simp [intOf]⟩
        | false =>
          have z1 : (x.f0 == 0 && (x.f1 == 0 && (x.f2 == 0 && (x.f3 == 0 && (x.f4 == 0 && x.f5.toList.isEmpty))))) = false := hz
          have hw2 : wrap64 ((l.length : Int) + 1) = (l.length : Int) + 1 := by unfold wrap64; omega
          have HI := aM_ (fun W => isa_IsIns.calls 50 x.f0 x.f1 x.f2 x.f3 x.f4 x.f5 _ W (isa_ins_eq (Nat.le_refl _) x.f0 x.f1 x.f2 x.f3 x.f4 x.f5))
          cases hI : okI x with
          | false =>
            have hI' : insOk x.f0 x.f1 x.f2 x.f3 x.f4 x.f5 = false := hI
            rw [hI'] at HI
            clear hI'
            go_wp2_with (first | (go_at_call 88; refine HC.out.mono ?_; rintro e w' ⟨rfl, hb⟩; have HX2 := aM_ (kB_ HX.out hb); have HM2 := aM_ (kB_ HM1.out hb); have HB2 := aM_ (HB1.out.trans (hb.mono (Nat.le_trans hmle (Nat.le_of_lt (blk_lt HX.out))))); clear hb x1; have y1 : w'.cell? ⟨gx, 1, none⟩ = some (.slice Al l.length cl) := (bC_ HX2.out 1).trans rfl; have y2 : w'.cell? ⟨gx, 2, none⟩ = some (.int .i64 x.f0) := (bC_ HX2.out 2).trans rfl; have y3 : w'.cell? ⟨gx, 3, none⟩ = some (.int .i64 x.f1) := (bC_ HX2.out 3).trans rfl; have y4 : w'.cell? ⟨gx, 4, none⟩ = some (.int .i64 x.f2) := (bC_ HX2.out 4).trans rfl; have y5 : w'.cell? ⟨gx, 5, none⟩ = some (.int .i64 x.f3) := (bC_ HX2.out 5).trans rfl; have y6 : w'.cell? ⟨gx, 6, none⟩ = some (.int .i64 x.f4) := (bC_ HX2.out 6).trans rfl; have y7 : w'.cell? ⟨gx, 7, none⟩ = some (.string x.f5) := (bC_ HX2.out 7).trans rfl) | (go_at_call 63; refine (HI.out _).mono ?_; rintro e w3 ⟨rfl, hb⟩; have HB3 := aM_ hb; clear hb))
            go_ret
            exact ⟨by simp [mayBlk, HP.out, hz, hI], by rw [hmp]; exact HB2.out.trans (HB3.out.mono (Nat.le_trans hmle (Nat.le_of_lt (blk_lt HX2.out))))⟩
          | true =>
            have hI' : insOk x.f0 x.f1 x.f2 x.f3 x.f4 x.f5 = true := hI
            rw [hI'] at HI
            clear hI'
            go_wp2_with (first | (go_at_call 88; refine HC.out.mono ?_; rintro e w' ⟨rfl, hb⟩; have HX2 := aM_ (kB_ HX.out hb); have HM2 := aM_ (kB_ HM1.out hb); have HB2 := aM_ (HB1.out.trans (hb.mono (Nat.le_trans hmle (Nat.le_of_lt (blk_lt HX.out))))); clear hb x1; have y1 : w'.cell? ⟨gx, 1, none⟩ = some (.slice Al l.length cl) := (bC_ HX2.out 1).trans rfl; have y2 : w'.cell? ⟨gx, 2, none⟩ = some (.int .i64 x.f0) := (bC_ HX2.out 2).trans rfl; have y3 : w'.cell? ⟨gx, 3, none⟩ = some (.int .i64 x.f1) := (bC_ HX2.out 3).trans rfl; have y4 : w'.cell? ⟨gx, 4, none⟩ = some (.int .i64 x.f2) := (bC_ HX2.out 4).trans rfl; have y5 : w'.cell? ⟨gx, 5, none⟩ = some (.int .i64 x.f3) := (bC_ HX2.out 5).trans rfl; have y6 : w'.cell? ⟨gx, 6, none⟩ = some (.int .i64 x.f4) := (bC_ HX2.out 6).trans rfl; have y7 : w'.cell? ⟨gx, 7, none⟩ = some (.string x.f5) := (bC_ HX2.out 7).trans rfl) | (go_at_call 63; refine (HI.out _).mono ?_; rintro e w3 ⟨rfl, hb⟩; have HM3 := aM_ (kB_ HM2.out hb); have HX3 := aM_ (kB_ HX2.out hb); have y22 : w3.cell? ⟨gx, 2, none⟩ = some (.int .i64 x.f0) := (bC_ HX3.out 2).trans rfl; have HB3 := aM_ (HB2.out.trans (hb.mono (Nat.le_trans hmle (Nat.le_of_lt (blk_lt HX2.out))))); clear hb) | (go_at_call 64; refine (isa_Ends.calls x.f0 _ _ (ends_eq x.f0)).mono ?_; rintro e w4 ⟨rfl, ⟨nd, rfl⟩⟩; have HB4 := aM_ (bN_ HB3.out nd); cases hE : endsOp x.f0))
            · go_ret
              exact ⟨by simp [mayBlk, HP.out, hz, hI, hE], by rw [hmp]; exact HB4.out⟩
            · refine ⟨⟨1, Nat.le_refl _, by first | rfl | (congr 1), by simp [totB, hz], ⟨fun _ => by simp [mayBlk, totB, hz, HP.out, hI, hE]; omega⟩, ⟨HM3.out⟩, ⟨HB4.out⟩⟩, by simp [intOf]⟩
    · obtain rfl : j = 1 := by omega
      have hJ := HJ.out rfl
      have hm0 := HM.out
      rw [if_neg (by decide)]
      have ht0 : 0 ≤ totB l x := by unfold totB; split <;> omega
      have q1 : (((1 : Nat) : Int) < 1) = False := eq_false (by omega)
      by_cases hT : totB l x ≤ 200
      · have c1 : (totB l x ≤ 200) = True := eq_true hT
        have c2 : decide (totB l x ≤ 200) = true := decide_eq_true hT
        clear hT
        rw [c2] at hJ
        have HJ2 := aM_ hJ
        clear hJ HJ
        have hu127 : Try.prog.underlying 127 = some (.map (Try.prog.mapKeyOf 127) (Try.prog.mapElemOf 127)) := by kernel_rfl
        have hlm : ∀ ty, (Builtin.len_ #[127] ty #[.map (some mp)]).run Try.prog wr = .ok (.int .i64 0) wr := fun ty => by
          have h_ := run_len_map (P := Try.prog) wr 127 ty mp #[] 0 hu127 hm0
          exact h_
        go_wp2
        go_ret
        exact ⟨by rw [HJ2.out]; rfl, by rw [hmp]; exact HB.out⟩
      · have c1 : (totB l x ≤ 200) = False := eq_false hT
        have c2 : decide (totB l x ≤ 200) = false := decide_eq_false hT
        clear hT
        rw [c2] at hJ
        have HJ2 := aM_ hJ
        clear hJ HJ
        go_wp2
        go_ret
        exact ⟨by rw [HJ2.out]; rfl, by rw [hmp]; exact HB.out⟩
end
end Go.Proofs.Ytibfkkjkahpobaa.PDag

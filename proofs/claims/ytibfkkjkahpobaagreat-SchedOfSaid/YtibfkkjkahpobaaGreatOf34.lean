import Derived.Test.YtibfkkjkahpobaaGreatOf15
import Derived.Test.YtibfkkjkahpobaaGreatOf33
import Derived.Test.YtibfkkjkahpobaaGreatOf22
import Derived.Test.YtibfkkjkahpobaaGreatOf32
import Derived.Test.YtibfkkjkahpobaaGreatOf27
import Derived.Test.YtibfkkjkahpobaaGreatOf18
import Derived.Test.YtibfkkjkahpobaaGreatOf24
import Derived.Test.YtibfkkjkahpobaaGreatOf26
set_option linter.unusedVariables false
set_option linter.unusedSimpArgs false
set_option maxHeartbeats 8000000
set_option maxRecDepth 100000
section
namespace Go.Proofs.YtibfkkjkahpobaaGreat.PDag
open Go.RowKit Go.Proofs.YtibfkkjkahpobaaGreatW.PrintWords Go.Proofs.YtibfkkjkahpobaaGreatW.PrintLast Go.Proofs.YtibfkkjkahpobaaGreatW.PrintMore
set_option maxRecDepth 100000
theorem wrapT {n : Nat} (h : n ≤ 1000000000000000) : wrap64 ((n : Int) + 1) = ((n + 1 : Nat) : Int) := by unfold wrap64; omega
theorem Ev.up {α : Type} {g : Nat → Option α} {r : α} (K : Nat) (h : ∀ m, K ≤ m → g (m + 1) = some r) : Ev g r := ⟨K + 1, fun k hk => by
  obtain ⟨m, rfl⟩ : ∃ m, k = m + 1 := ⟨k - 1, by omega⟩
  exact h m (by omega)⟩
theorem texts_tot (l : List ByteArray) (h : l.length ≤ 1000000000000000) : ∀ (d i : Nat) (x : Int), i + d = l.length → ∃ r, Ev (fun k => w0_Texts.l0 k l x (i : Int)) r
  | 0, i, x, hi => ⟨x, Ev.up 0 fun m _ => by rw [w0_Texts.l0, if_neg (by omega)]⟩
  | d + 1, i, x, hi => by
    by_cases hx : x < 1048576
    · obtain ⟨r, K, hK⟩ := texts_tot l h d (i + 1) (wrap64 (x + ((rdOf ByteArray.empty l (i : Int)).size : Int))) (by omega); refine ⟨r, Ev.up K fun m hm => ?_⟩; rw [w0_Texts.l0, if_pos (by omega), if_pos hx, if_pos (by omega), wrapT (by omega)]; exact hK m hm
    · exact ⟨x, Ev.up 0 fun m _ => by rw [w0_Texts.l0, if_pos (by omega), if_neg hx]⟩
theorem codes_tot (l : List S24) (h : l.length ≤ 1000000000000000) : ∀ (d i : Nat) (x : Int), i + d = l.length → ∃ r, Ev (fun k => w0_CodesWeight.l0 k l x (i : Int)) r
  | 0, i, x, hi => ⟨x, Ev.up 0 fun m _ => by rw [w0_CodesWeight.l0, if_neg (by omega)]⟩
  | d + 1, i, x, hi => by
    by_cases hx : x < 1048576
    · obtain ⟨r, K, hK⟩ := codes_tot l h d (i + 1) (wrap64 (x + (wrap64 ((((J24 l (i : Int)).f5).size : Int) / 8)))) (by omega); refine ⟨r, Ev.up K fun m hm => ?_⟩; rw [w0_CodesWeight.l0, if_pos (by omega), if_pos hx, if_pos (by omega), wrapT (by omega)]; exact hK m hm
    · exact ⟨x, Ev.up 0 fun m _ => by rw [w0_CodesWeight.l0, if_pos (by omega), if_neg hx]⟩
section
variable (u0 : List S132) (u1 : List S134) (u2 : List S136) (u3 : List ByteArray)
theorem unit_l2 (h : u2.length ≤ 1000000000000000) : ∀ (d i : Nat) (x : Int), i + d = u2.length → ∃ r, Ev (fun k => w0_UnitWeight.l2 k x (i : Int) u0 u1 u2 u3) r
  | 0, i, x, hi => ⟨x, Ev.up 0 fun m _ => by rw [w0_UnitWeight.l2, if_neg (by omega)]⟩
  | d + 1, i, x, hi => by
    by_cases hx : x < 1048576
    · obtain ⟨r, K, hK⟩ := unit_l2 h d (i + 1) (wrap64 (x + (wrap64 ((((J136 u2 (i : Int)).f0).size : Int) / 8)))) (by omega); refine ⟨r, Ev.up K fun m hm => ?_⟩; rw [w0_UnitWeight.l2, if_pos (by omega), if_pos hx, if_pos (by omega), wrapT (by omega)]; exact hK m hm
    · exact ⟨x, Ev.up 0 fun m _ => by rw [w0_UnitWeight.l2, if_pos (by omega), if_neg hx]⟩
theorem unit_j3 (h : u2.length ≤ 1000000000000000) (x : Int) : ∃ r, Ev (fun k => w0_UnitWeight.j3 k x u0 u1 u2 u3) r := by
  obtain ⟨r, K, hK⟩ := unit_l2 u0 u1 u2 u3 h u2.length 0 x (by omega); exact ⟨r, Ev.up K fun m hm => by rw [w0_UnitWeight.j3]; exact hK m hm⟩
theorem unit_l1 (h : u2.length ≤ 1000000000000000) (h1 : u1.length ≤ 1000000000000000) : ∀ (d i : Nat) (x : Int), i + d = u1.length → ∃ r, Ev (fun k => w0_UnitWeight.l1 k x (i : Int) u0 u1 u2 u3) r
  | 0, i, x, hi => by
    obtain ⟨r, K, hK⟩ := unit_j3 u0 u1 u2 u3 h x
    exact ⟨r, Ev.up K fun m hm => by rw [w0_UnitWeight.l1, if_neg (by omega)]; exact hK m hm⟩
  | d + 1, i, x, hi => by
    by_cases hx : x < 1048576
    · obtain ⟨r, K, hK⟩ := unit_l1 h h1 d (i + 1) (wrap64 (x + (wrap64 ((((J134 u1 (i : Int)).f0).size : Int) / 8)))) (by omega); refine ⟨r, Ev.up K fun m hm => ?_⟩; rw [w0_UnitWeight.l1, if_pos (by omega), if_pos hx, if_pos (by omega), wrapT (by omega)]; exact hK m hm
    · obtain ⟨r, K, hK⟩ := unit_j3 u0 u1 u2 u3 h x; exact ⟨r, Ev.up K fun m hm => by rw [w0_UnitWeight.l1, if_pos (by omega), if_neg hx]; exact hK m hm⟩
theorem unit_j1 (h : u2.length ≤ 1000000000000000) (h1 : u1.length ≤ 1000000000000000) (x : Int) : ∃ r, Ev (fun k => w0_UnitWeight.j1 k x u0 u1 u2 u3) r := by
  obtain ⟨r, K, hK⟩ := unit_l1 u0 u1 u2 u3 h h1 u1.length 0 x (by omega); exact ⟨r, Ev.up K fun m hm => by rw [w0_UnitWeight.j1]; exact hK m hm⟩
theorem unit_l0 (h : u2.length ≤ 1000000000000000) (h1 : u1.length ≤ 1000000000000000) (h0 : u0.length ≤ 1000000000000000) : ∀ (d i : Nat) (x : Int), i + d = u0.length → ∃ r, Ev (fun k => w0_UnitWeight.l0 k x (i : Int) u0 u1 u2 u3) r
  | 0, i, x, hi => by
    obtain ⟨r, K, hK⟩ := unit_j1 u0 u1 u2 u3 h h1 x
    exact ⟨r, Ev.up K fun m hm => by rw [w0_UnitWeight.l0, if_neg (by omega)]; exact hK m hm⟩
  | d + 1, i, x, hi => by
    by_cases hx : x < 1048576
    · obtain ⟨r, K, hK⟩ := unit_l0 h h1 h0 d (i + 1) (wrap64 (x + (wrap64 (Int.tdiv (wrap64 ((((J132 u0 (i : Int)).f0).size : Int) + (((J132 u0 (i : Int)).f1.f5).size : Int))) 8)))) (by omega); refine ⟨r, Ev.up K fun m hm => ?_⟩; rw [w0_UnitWeight.l0, if_pos (by omega), if_pos hx, if_pos (by omega), wrapT (by omega)]; exact hK m hm
    · obtain ⟨r, K, hK⟩ := unit_j1 u0 u1 u2 u3 h h1 x; exact ⟨r, Ev.up K fun m hm => by rw [w0_UnitWeight.l0, if_pos (by omega), if_neg hx]; exact hK m hm⟩
end
theorem unit_tot (u : S122) (hu : S15.Q140 u) : ∃ r, Ev (fun k => w0_UnitWeight.f k u.f0 u.f1 u.f2 u.f3) r := by
  obtain ⟨⟨h0, _⟩, ⟨h1, _⟩, ⟨h2, _⟩, ⟨h3, _⟩⟩ := hu; obtain ⟨t, hT⟩ := texts_tot u.f3 (by omega) u.f3.length 0 (u.f3.length : Int) (by omega); obtain ⟨r, hr⟩ := unit_l0 u.f0 u.f1 u.f2 u.f3 (by omega) (by omega) (by omega) u.f0.length 0 (wrap64 ((wrap64 ((wrap64 ((wrap64 ((u.f0.length : Int) + (u.f1.length : Int))) + (u.f2.length : Int))) + (u.f3.length : Int))) + (wrap64 (Int.tdiv t 8)))) (by omega); exact ⟨r, Ev.congr (fun k => by unfold w0_UnitWeight.f w0_Texts.f; rfl) (Ev.bind hT hr)⟩
theorem heavy12_l0 (lS : List ByteArray) (lU : List S122) (hq : ∀ u ∈ lU, S15.Q140 u) (h : lU.length ≤ 1000000000000000) : ∀ (d i : Nat) (x : Int), i + d = lU.length → ∃ r, Ev (fun k => w12_Heavy.l0 k x (i : Int) lS lU) r
  | 0, i, x, hi => ⟨_, Ev.up 0 fun m _ => by rw [w12_Heavy.l0, if_neg (by omega)]⟩
  | d + 1, i, x, hi => by
    by_cases hx : x < 1048576
    · have hm : J122 lU (i : Int) ∈ lU := by
        show lU.getD (i : Int).toNat _ ∈ lU; rw [Int.toNat_natCast, List.getD_eq_getElem?_getD, List.getElem?_eq_getElem (by omega)]; exact List.getElem_mem _
      obtain ⟨t, K1, h1⟩ := unit_tot _ (hq _ hm); obtain ⟨r, K, hK⟩ := heavy12_l0 lS lU hq h d (i + 1) (wrap64 (x + t)) (by omega); refine ⟨r, Ev.up (K1 + K) fun m hm => ?_⟩; have h2 : w0_UnitWeight.f m (J122 lU (i : Int)).f0 (J122 lU (i : Int)).f1 (J122 lU (i : Int)).f2 (J122 lU (i : Int)).f3 = some t := h1 m (by omega); rw [w12_Heavy.l0, if_pos (by omega), if_pos hx, if_pos (by omega), h2, Option.bind_some, wrapT (by omega)]; exact hK m (by omega)
    · exact ⟨_, Ev.up 0 fun m _ => by rw [w12_Heavy.l0, if_pos (by omega), if_neg hx]⟩
theorem heavy12_tot (lS : List ByteArray) (lU : List S122) (hS : lS.length ≤ 1000000000000000) (hq : ∀ u ∈ lU, S15.Q140 u) (h : lU.length ≤ 1000000000000000) : ∃ r, Ev (fun k => w12_Heavy.f k lS lU) r := by
  obtain ⟨t, hT⟩ := texts_tot lS hS lS.length 0 (lS.length : Int) (by omega); obtain ⟨r, hr⟩ := heavy12_l0 lS lU hq h lU.length 0 (wrap64 ((lU.length : Int) + (wrap64 (Int.tdiv t 16)))) (by omega); exact ⟨r, Ev.congr (fun k => by unfold w12_Heavy.f w0_Texts.f; rfl) (Ev.bind hT hr)⟩
theorem heavy13_l0 (lS : List ByteArray) (lU : List S122) (lB : List S41) (hS : lS.length ≤ 1000000000000000) (hq : ∀ u ∈ lU, S15.Q140 u) (h : lU.length ≤ 1000000000000000) (hB : lB.length ≤ 1000000000000000) : ∀ (d i : Nat) (x : Int), i + d = lB.length → ∃ r, Ev (fun k => w13_Heavy.l0 k x (i : Int) lS lU lB) r := by
  obtain ⟨b, K1, h1⟩ := heavy12_tot lS lU hS hq h
  have last : ∀ x : Int, ∃ r, ∀ m, K1 ≤ m → (if x > 400 then (some true) else ((w12_Heavy.f m lS lU).bind fun t807 => (some t807))) = some r := fun x => by
    by_cases hx : x > 400
    · exact ⟨true, fun m _ => by rw [if_pos hx]⟩
    · exact ⟨b, fun m hm => by
        have h2 : w12_Heavy.f m lS lU = some b := h1 m hm
        rw [if_neg hx, h2, Option.bind_some]⟩
  intro d
  induction d with
  | zero =>
    intro i x hi; obtain ⟨r, hr⟩ := last x
    exact ⟨r, Ev.up K1 fun m hm => by rw [w13_Heavy.l0, if_neg (by omega)]; exact hr m hm⟩
  | succ d ih =>
    intro i x hi
    by_cases hx : x < 1048576
    · obtain ⟨r, K, hK⟩ := ih (i + 1) (wrap64 ((wrap64 (x + (((J41 lB (i : Int)).f0).length : Int))) + (((J41 lB (i : Int)).f1).length : Int))) (by omega); refine ⟨r, Ev.up K fun m hm => ?_⟩; rw [w13_Heavy.l0, if_pos (by omega), if_pos hx, if_pos (by omega), wrapT (by omega)]; exact hK m hm
    · obtain ⟨r, hr⟩ := last x; exact ⟨r, Ev.up K1 fun m hm => by rw [w13_Heavy.l0, if_pos (by omega), if_neg hx]; exact hr m hm⟩
theorem heavy15_tot (lI : List S24) (x : S24) (lN : List Int) (lS : List ByteArray) (lU : List S122) (lB : List S41) (lC : List S62) (hin : S15.In15 lI x lN lS lU lB lC) : ∃ r, Ev (fun k => w15_Heavy.f k lI x.f0 x.f1 x.f2 x.f3 x.f4 x.f5 lN lS lU lB lC) r := by
  have hI := hin.i.1; have hS := hin.s.1; have hU := hin.u.1; have hB := hin.b.1
  by_cases h : (lC.length : Int) > 100
  · exact ⟨true, 0, fun k _ => by show w15_Heavy.f k lI x.f0 x.f1 x.f2 x.f3 x.f4 x.f5 lN lS lU lB lC = _; unfold w15_Heavy.f; rw [if_pos h]⟩
  · obtain ⟨t, K1, h1⟩ := codes_tot lI (by omega) lI.length 0 (lI.length : Int) (by omega); obtain ⟨b, K2, h2⟩ := heavy13_l0 lS lU lB (by omega) hin.u.2 (by omega) (by omega) lB.length 0 (lB.length : Int) (by omega)
    have h3 : ∀ k, K1 ≤ k → w14_Heavy.f k lI x.f0 x.f1 x.f2 x.f3 x.f4 x.f5 lN = some (decide ((wrap64 (t + (lN.length : Int))) > 300)) := fun k hk => by
      have h4 : w0_CodesWeight.l0 k lI (lI.length : Int) 0 = some t := h1 k hk; unfold w14_Heavy.f w0_CodesWeight.f; rw [h4, Option.bind_some]
    cases hd : decide ((wrap64 (t + (lN.length : Int))) > 300) with
    | true => exact ⟨true, K1, fun k hk => by show w15_Heavy.f k lI x.f0 x.f1 x.f2 x.f3 x.f4 x.f5 lN lS lU lB lC = _; unfold w15_Heavy.f; rw [if_neg h, h3 k hk, hd, Option.bind_some, if_pos rfl]⟩
    | false =>
      refine ⟨b, K1 + K2, fun k hk => ?_⟩; have h5 : w13_Heavy.f k lS lU lB = some b := h2 k (by omega); show w15_Heavy.f k lI x.f0 x.f1 x.f2 x.f3 x.f4 x.f5 lN lS lU lB lC = _; unfold w15_Heavy.f; rw [if_neg h, h3 k (by omega), hd, Option.bind_some, if_neg (by decide), h5, Option.bind_some]
end Go.Proofs.YtibfkkjkahpobaaGreat.PDag
end
section
-- the texts that this claim needs, out of this session's and its print's (wip/shrink.py)
namespace Go.Den
open Go Go.RowKit Go.Proofs
theorem eqv24 {cs ds : List C} {r : Bool} (h : eqZ [.int .i64 0, .int .i64 0, .int .i64 0, .int .i64 0, .int .i64 0, .string ⟨#[]⟩] cs ds = some r) : Tryz.prog.eqGuardType Tryz.prog.depth 24 = false ∧ ∀ {U ρ h w xs ys}, All2 (CR U ρ h w) cs xs → All2 (CR U ρ h w) ds ys → (Op.equal 24 (.agg xs.toArray) (.agg ys.toArray)).run Tryz.prog w = .ok r w := by
  refine ⟨by kernel_rfl, fun {U ρ h' w xs ys} hx hy => ?_⟩; obtain ⟨a0, b0, l0, m0, r0, rfl, rfl, h0, rfl⟩ := eqZ_int h; obtain ⟨a1, b1, l1, m1, r1, rfl, rfl, h1, rfl⟩ := eqZ_int h0; obtain ⟨a2, b2, l2, m2, r2, rfl, rfl, h2, rfl⟩ := eqZ_int h1; obtain ⟨a3, b3, l3, m3, r3, rfl, rfl, h3, rfl⟩ := eqZ_int h2; obtain ⟨a4, b4, l4, m4, r4, rfl, rfl, h4, rfl⟩ := eqZ_int h3; obtain ⟨a5, b5, l5, m5, r5, rfl, rfl, h5, rfl⟩ := eqZ_str h4; obtain ⟨rfl, rfl, rfl⟩ := eqZ_nil h5; obtain ⟨v0, xs, rfl, e0, hx⟩ := hx.left_cons; obtain ⟨v1, xs, rfl, e1, hx⟩ := hx.left_cons; obtain ⟨v2, xs, rfl, e2, hx⟩ := hx.left_cons; obtain ⟨v3, xs, rfl, e3, hx⟩ := hx.left_cons; obtain ⟨v4, xs, rfl, e4, hx⟩ := hx.left_cons; obtain ⟨v5, xs, rfl, e5, hx⟩ := hx.left_cons; obtain rfl := hx.left_nil; obtain ⟨u0, ys, rfl, d0, hy⟩ := hy.left_cons; obtain ⟨u1, ys, rfl, d1, hy⟩ := hy.left_cons; obtain ⟨u2, ys, rfl, d2, hy⟩ := hy.left_cons; obtain ⟨u3, ys, rfl, d3, hy⟩ := hy.left_cons; obtain ⟨u4, ys, rfl, d4, hy⟩ := hy.left_cons; obtain ⟨u5, ys, rfl, d5, hy⟩ := hy.left_cons; obtain rfl := hy.left_nil; rw [show v0 = _ from e0, show v1 = _ from e1, show v2 = _ from e2, show v3 = _ from e3, show v4 = _ from e4, show v5 = _ from e5, show u0 = _ from d0, show u1 = _ from d1, show u2 = _ from d2, show u3 = _ from d3, show u4 = _ from d4, show u5 = _ from d5]; rw [Bool.and_true]; exact Go.Proofs.YtibfkkjkahpobaaGreat.PDag.eqA24 9998 w a0 b0 a1 b1 a2 b2 a3 b3 a4 b4 a5 b5
def ti3 : TI := ⟨.int .i64, 1, 8, [.int .i64 0], some (.int .i64), q0⟩
theorem ti3_ok : TOk Tryz.prog 3 ti3 := ⟨by kernel_rfl, by kernel_rfl, by decide +kernel, rfl, fun k hk => by cases hk <;> exact ⟨rfl, rfl⟩, fun h => by cases h⟩
def ti4 : TI := ⟨.bool, 1, 1, [.bool false], some (.bool), q0⟩
theorem ti4_ok : TOk Tryz.prog 4 ti4 := ⟨by kernel_rfl, by kernel_rfl, by decide +kernel, rfl, fun k hk => by cases hk <;> exact ⟨rfl, rfl⟩, fun h => by cases h⟩
def ti9 : TI := ⟨.str, 1, 16, [.string ⟨#[]⟩], some (.str), q0⟩
theorem ti9_ok : TOk Tryz.prog 9 ti9 := ⟨by kernel_rfl, by kernel_rfl, by decide +kernel, rfl, fun k hk => by cases hk <;> exact ⟨rfl, rfl⟩, fun h => by cases h⟩
def ti24 : TI := ⟨.st [(0, 3), (1, 3), (2, 3), (3, 3), (4, 3), (5, 9)], 6, 56, [.int .i64 0, .int .i64 0, .int .i64 0, .int .i64 0, .int .i64 0, .string ⟨#[]⟩], some (.pair (.int .i64) (.pair (.int .i64) (.pair (.int .i64) (.pair (.int .i64) (.pair (.int .i64) (.pair .str .unit)))))), eqZ [.int .i64 0, .int .i64 0, .int .i64 0, .int .i64 0, .int .i64 0, .string ⟨#[]⟩]⟩
theorem ti24_ok : TOk Tryz.prog 24 ti24 := ⟨by kernel_rfl, by kernel_rfl, by decide +kernel, rfl, fun k hk => by cases hk <;> exact ⟨rfl, rfl⟩, eqv24⟩
def ti25 : TI := ⟨.slice 3, 1, 24, [.slice none 0 0], some (.row 3 (.int .i64)), q0⟩
theorem ti25_ok : TOk Tryz.prog 25 ti25 := ⟨by kernel_rfl, by kernel_rfl, by decide +kernel, rfl, fun k hk => by cases hk <;> exact ⟨rfl, rfl⟩, fun h => by cases h⟩
def ti22 : TI := ⟨.slice 24, 1, 24, [.slice none 0 0], some (.row 24 (.pair (.int .i64) (.pair (.int .i64) (.pair (.int .i64) (.pair (.int .i64) (.pair (.int .i64) (.pair .str .unit))))))), q0⟩
theorem ti22_ok : TOk Tryz.prog 22 ti22 := ⟨by kernel_rfl, by kernel_rfl, by decide +kernel, rfl, fun k hk => by cases hk <;> exact ⟨rfl, rfl⟩, fun h => by cases h⟩
def ti28 : TI := ⟨.slice 9, 1, 24, [.slice none 0 0], some (.row 9 (.str)), q0⟩
theorem ti28_ok : TOk Tryz.prog 28 ti28 := ⟨by kernel_rfl, by kernel_rfl, by decide +kernel, rfl, fun k hk => by cases hk <;> exact ⟨rfl, rfl⟩, fun h => by cases h⟩
def ti41 : TI := ⟨.st [(0, 28), (1, 22), (2, 24)], 8, 104, [.slice none 0 0, .slice none 0 0, .int .i64 0, .int .i64 0, .int .i64 0, .int .i64 0, .int .i64 0, .string ⟨#[]⟩], some (.pair (.row 9 (.str)) (.pair (.row 24 (.pair (.int .i64) (.pair (.int .i64) (.pair (.int .i64) (.pair (.int .i64) (.pair (.int .i64) (.pair .str .unit))))))) (.pair (.pair (.int .i64) (.pair (.int .i64) (.pair (.int .i64) (.pair (.int .i64) (.pair (.int .i64) (.pair .str .unit)))))) (.unit)))), q0⟩
theorem ti41_ok : TOk Tryz.prog 41 ti41 := ⟨by kernel_rfl, by kernel_rfl, by decide +kernel, rfl, fun k hk => by cases hk <;> exact ⟨rfl, rfl⟩, fun h => by cases h⟩
def ti32 : TI := ⟨.slice 41, 1, 24, [.slice none 0 0], some (.row 41 (.pair (.row 9 (.str)) (.pair (.row 24 (.pair (.int .i64) (.pair (.int .i64) (.pair (.int .i64) (.pair (.int .i64) (.pair (.int .i64) (.pair .str .unit))))))) (.pair (.pair (.int .i64) (.pair (.int .i64) (.pair (.int .i64) (.pair (.int .i64) (.pair (.int .i64) (.pair .str .unit)))))) (.unit))))), q0⟩
theorem ti32_ok : TOk Tryz.prog 32 ti32 := ⟨by kernel_rfl, by kernel_rfl, by decide +kernel, rfl, fun k hk => by cases hk <;> exact ⟨rfl, rfl⟩, fun h => by cases h⟩
def ti43 : TI := ⟨.int .i64, 1, 8, [.int .i64 0], some (.int .i64), q0⟩
theorem ti43_ok : TOk Tryz.prog 43 ti43 := ⟨by kernel_rfl, by kernel_rfl, by decide +kernel, rfl, fun k hk => by cases hk <;> exact ⟨rfl, rfl⟩, fun h => by cases h⟩
def ti62 : TI := ⟨.arr 4 24, 24, 224, [.int .i64 0, .int .i64 0, .int .i64 0, .int .i64 0, .int .i64 0, .string ⟨#[]⟩, .int .i64 0, .int .i64 0, .int .i64 0, .int .i64 0, .int .i64 0, .string ⟨#[]⟩, .int .i64 0, .int .i64 0, .int .i64 0, .int .i64 0, .int .i64 0, .string ⟨#[]⟩, .int .i64 0, .int .i64 0, .int .i64 0, .int .i64 0, .int .i64 0, .string ⟨#[]⟩], some (.pair (.pair (.int .i64) (.pair (.int .i64) (.pair (.int .i64) (.pair (.int .i64) (.pair (.int .i64) (.pair .str .unit)))))) (.pair (.pair (.int .i64) (.pair (.int .i64) (.pair (.int .i64) (.pair (.int .i64) (.pair (.int .i64) (.pair .str .unit)))))) (.pair (.pair (.int .i64) (.pair (.int .i64) (.pair (.int .i64) (.pair (.int .i64) (.pair (.int .i64) (.pair .str .unit)))))) (.pair (.pair (.int .i64) (.pair (.int .i64) (.pair (.int .i64) (.pair (.int .i64) (.pair (.int .i64) (.pair .str .unit)))))) .unit)))), q0⟩
theorem ti62_ok : TOk Tryz.prog 62 ti62 := ⟨by kernel_rfl, by kernel_rfl, by decide +kernel, rfl, fun k hk => by cases hk <;> exact ⟨rfl, rfl⟩, fun h => by cases h⟩
def ti35 : TI := ⟨.slice 62, 1, 24, [.slice none 0 0], some (.row 62 (.pair (.pair (.int .i64) (.pair (.int .i64) (.pair (.int .i64) (.pair (.int .i64) (.pair (.int .i64) (.pair .str .unit)))))) (.pair (.pair (.int .i64) (.pair (.int .i64) (.pair (.int .i64) (.pair (.int .i64) (.pair (.int .i64) (.pair .str .unit)))))) (.pair (.pair (.int .i64) (.pair (.int .i64) (.pair (.int .i64) (.pair (.int .i64) (.pair (.int .i64) (.pair .str .unit)))))) (.pair (.pair (.int .i64) (.pair (.int .i64) (.pair (.int .i64) (.pair (.int .i64) (.pair (.int .i64) (.pair .str .unit)))))) .unit))))), q0⟩
theorem ti35_ok : TOk Tryz.prog 35 ti35 := ⟨by kernel_rfl, by kernel_rfl, by decide +kernel, rfl, fun k hk => by cases hk <;> exact ⟨rfl, rfl⟩, fun h => by cases h⟩
def ti59 : TI := ⟨.slice 35, 1, 24, [.slice none 0 0], some (.row 35 (.row 62 (.pair (.pair (.int .i64) (.pair (.int .i64) (.pair (.int .i64) (.pair (.int .i64) (.pair (.int .i64) (.pair .str .unit)))))) (.pair (.pair (.int .i64) (.pair (.int .i64) (.pair (.int .i64) (.pair (.int .i64) (.pair (.int .i64) (.pair .str .unit)))))) (.pair (.pair (.int .i64) (.pair (.int .i64) (.pair (.int .i64) (.pair (.int .i64) (.pair (.int .i64) (.pair .str .unit)))))) (.pair (.pair (.int .i64) (.pair (.int .i64) (.pair (.int .i64) (.pair (.int .i64) (.pair (.int .i64) (.pair .str .unit)))))) .unit)))))), q0⟩
theorem ti59_ok : TOk Tryz.prog 59 ti59 := ⟨by kernel_rfl, by kernel_rfl, by decide +kernel, rfl, fun k hk => by cases hk <;> exact ⟨rfl, rfl⟩, fun h => by cases h⟩
def ti61 : TI := ⟨.arr 4 24, 24, 224, [.int .i64 0, .int .i64 0, .int .i64 0, .int .i64 0, .int .i64 0, .string ⟨#[]⟩, .int .i64 0, .int .i64 0, .int .i64 0, .int .i64 0, .int .i64 0, .string ⟨#[]⟩, .int .i64 0, .int .i64 0, .int .i64 0, .int .i64 0, .int .i64 0, .string ⟨#[]⟩, .int .i64 0, .int .i64 0, .int .i64 0, .int .i64 0, .int .i64 0, .string ⟨#[]⟩], some (.pair (.pair (.int .i64) (.pair (.int .i64) (.pair (.int .i64) (.pair (.int .i64) (.pair (.int .i64) (.pair .str .unit)))))) (.pair (.pair (.int .i64) (.pair (.int .i64) (.pair (.int .i64) (.pair (.int .i64) (.pair (.int .i64) (.pair .str .unit)))))) (.pair (.pair (.int .i64) (.pair (.int .i64) (.pair (.int .i64) (.pair (.int .i64) (.pair (.int .i64) (.pair .str .unit)))))) (.pair (.pair (.int .i64) (.pair (.int .i64) (.pair (.int .i64) (.pair (.int .i64) (.pair (.int .i64) (.pair .str .unit)))))) .unit)))), q0⟩
theorem ti61_ok : TOk Tryz.prog 61 ti61 := ⟨by kernel_rfl, by kernel_rfl, by decide +kernel, rfl, fun k hk => by cases hk <;> exact ⟨rfl, rfl⟩, fun h => by cases h⟩
def ti100 : TI := ⟨.st [(0, 3), (1, 3), (2, 3)], 3, 24, [.int .i64 0, .int .i64 0, .int .i64 0], some (.pair (.int .i64) (.pair (.int .i64) (.pair (.int .i64) (.unit)))), q0⟩
theorem ti100_ok : TOk Tryz.prog 100 ti100 := ⟨by kernel_rfl, by kernel_rfl, by decide +kernel, rfl, fun k hk => by cases hk <;> exact ⟨rfl, rfl⟩, fun h => by cases h⟩
def ti88 : TI := ⟨.slice 100, 1, 24, [.slice none 0 0], some (.row 100 (.pair (.int .i64) (.pair (.int .i64) (.pair (.int .i64) (.unit))))), q0⟩
theorem ti88_ok : TOk Tryz.prog 88 ti88 := ⟨by kernel_rfl, by kernel_rfl, by decide +kernel, rfl, fun k hk => by cases hk <;> exact ⟨rfl, rfl⟩, fun h => by cases h⟩
def ti77 : TI := ⟨.slice 88, 1, 24, [.slice none 0 0], some (.row 88 (.row 100 (.pair (.int .i64) (.pair (.int .i64) (.pair (.int .i64) (.unit)))))), q0⟩
theorem ti77_ok : TOk Tryz.prog 77 ti77 := ⟨by kernel_rfl, by kernel_rfl, by decide +kernel, rfl, fun k hk => by cases hk <;> exact ⟨rfl, rfl⟩, fun h => by cases h⟩
def ti79 : TI := ⟨.st [(0, 22), (1, 77), (2, 25), (3, 25), (4, 25), (5, 25), (6, 3)], 7, 152, [.slice none 0 0, .slice none 0 0, .slice none 0 0, .slice none 0 0, .slice none 0 0, .slice none 0 0, .int .i64 0], some (.pair (.row 24 (.pair (.int .i64) (.pair (.int .i64) (.pair (.int .i64) (.pair (.int .i64) (.pair (.int .i64) (.pair .str .unit))))))) (.pair (.row 88 (.row 100 (.pair (.int .i64) (.pair (.int .i64) (.pair (.int .i64) (.unit)))))) (.pair (.row 3 (.int .i64)) (.pair (.row 3 (.int .i64)) (.pair (.row 3 (.int .i64)) (.pair (.row 3 (.int .i64)) (.pair (.int .i64) (.unit)))))))), q0⟩
theorem ti79_ok : TOk Tryz.prog 79 ti79 := ⟨by kernel_rfl, by kernel_rfl, by decide +kernel, rfl, fun k hk => by cases hk <;> exact ⟨rfl, rfl⟩, fun h => by cases h⟩
def ti75 : TI := ⟨.ptr 79, 1, 8, [.pointer none], none, q0⟩
theorem ti75_ok : TOk Tryz.prog 75 ti75 := ⟨by kernel_rfl, by kernel_rfl, by decide +kernel, rfl, fun k hk => by cases hk <;> exact ⟨rfl, rfl⟩, fun h => by cases h⟩
def ti98 : TI := ⟨.st [(0, 3), (1, 3)], 2, 16, [.int .i64 0, .int .i64 0], some (.pair (.int .i64) (.pair (.int .i64) (.unit))), q0⟩
theorem ti98_ok : TOk Tryz.prog 98 ti98 := ⟨by kernel_rfl, by kernel_rfl, by decide +kernel, rfl, fun k hk => by cases hk <;> exact ⟨rfl, rfl⟩, fun h => by cases h⟩
def ti94 : TI := ⟨.slice 98, 1, 24, [.slice none 0 0], some (.row 98 (.pair (.int .i64) (.pair (.int .i64) (.unit)))), q0⟩
theorem ti94_ok : TOk Tryz.prog 94 ti94 := ⟨by kernel_rfl, by kernel_rfl, by decide +kernel, rfl, fun k hk => by cases hk <;> exact ⟨rfl, rfl⟩, fun h => by cases h⟩
def ti93 : TI := ⟨.int .u64, 1, 8, [.int .u64 0], some (.int .u64), q0⟩
theorem ti93_ok : TOk Tryz.prog 93 ti93 := ⟨by kernel_rfl, by kernel_rfl, by decide +kernel, rfl, fun k hk => by cases hk <;> exact ⟨rfl, rfl⟩, fun h => by cases h⟩
def ti5 : TI := ⟨.int .u8, 1, 1, [.int .u8 0], some (.int .u8), q0⟩
theorem ti5_ok : TOk Tryz.prog 5 ti5 := ⟨by kernel_rfl, by kernel_rfl, by decide +kernel, rfl, fun k hk => by cases hk <;> exact ⟨rfl, rfl⟩, fun h => by cases h⟩
def ti132 : TI := ⟨.st [(0, 9), (1, 24)], 7, 72, [.string ⟨#[]⟩, .int .i64 0, .int .i64 0, .int .i64 0, .int .i64 0, .int .i64 0, .string ⟨#[]⟩], some (.pair .str (.pair (.pair (.int .i64) (.pair (.int .i64) (.pair (.int .i64) (.pair (.int .i64) (.pair (.int .i64) (.pair .str .unit)))))) (.unit))), q0⟩
theorem ti132_ok : TOk Tryz.prog 132 ti132 := ⟨by kernel_rfl, by kernel_rfl, by decide +kernel, rfl, fun k hk => by cases hk <;> exact ⟨rfl, rfl⟩, fun h => by cases h⟩
def ti118 : TI := ⟨.slice 132, 1, 24, [.slice none 0 0], some (.row 132 (.pair .str (.pair (.pair (.int .i64) (.pair (.int .i64) (.pair (.int .i64) (.pair (.int .i64) (.pair (.int .i64) (.pair .str .unit)))))) (.unit)))), q0⟩
theorem ti118_ok : TOk Tryz.prog 118 ti118 := ⟨by kernel_rfl, by kernel_rfl, by decide +kernel, rfl, fun k hk => by cases hk <;> exact ⟨rfl, rfl⟩, fun h => by cases h⟩
def ti134 : TI := ⟨.st [(0, 9), (1, 3)], 2, 24, [.string ⟨#[]⟩, .int .i64 0], some (.pair .str (.pair (.int .i64) (.unit))), q0⟩
theorem ti134_ok : TOk Tryz.prog 134 ti134 := ⟨by kernel_rfl, by kernel_rfl, by decide +kernel, rfl, fun k hk => by cases hk <;> exact ⟨rfl, rfl⟩, fun h => by cases h⟩
def ti119 : TI := ⟨.slice 134, 1, 24, [.slice none 0 0], some (.row 134 (.pair .str (.pair (.int .i64) (.unit)))), q0⟩
theorem ti119_ok : TOk Tryz.prog 119 ti119 := ⟨by kernel_rfl, by kernel_rfl, by decide +kernel, rfl, fun k hk => by cases hk <;> exact ⟨rfl, rfl⟩, fun h => by cases h⟩
def ti136 : TI := ⟨.st [(0, 9), (1, 4), (2, 3), (3, 4)], 4, 40, [.string ⟨#[]⟩, .bool false, .int .i64 0, .bool false], some (.pair .str (.pair .bool (.pair (.int .i64) (.pair .bool .unit)))), q0⟩
theorem ti136_ok : TOk Tryz.prog 136 ti136 := ⟨by kernel_rfl, by kernel_rfl, by decide +kernel, rfl, fun k hk => by cases hk <;> exact ⟨rfl, rfl⟩, fun h => by cases h⟩
def ti120 : TI := ⟨.slice 136, 1, 24, [.slice none 0 0], some (.row 136 (.pair .str (.pair .bool (.pair (.int .i64) (.pair .bool .unit))))), q0⟩
theorem ti120_ok : TOk Tryz.prog 120 ti120 := ⟨by kernel_rfl, by kernel_rfl, by decide +kernel, rfl, fun k hk => by cases hk <;> exact ⟨rfl, rfl⟩, fun h => by cases h⟩
def ti122 : TI := ⟨.st [(0, 118), (1, 119), (2, 120), (3, 28)], 4, 96, [.slice none 0 0, .slice none 0 0, .slice none 0 0, .slice none 0 0], some (.pair (.row 132 (.pair .str (.pair (.pair (.int .i64) (.pair (.int .i64) (.pair (.int .i64) (.pair (.int .i64) (.pair (.int .i64) (.pair .str .unit)))))) (.unit)))) (.pair (.row 134 (.pair .str (.pair (.int .i64) (.unit)))) (.pair (.row 136 (.pair .str (.pair .bool (.pair (.int .i64) (.pair .bool .unit))))) (.pair (.row 9 (.str)) (.unit))))), q0⟩
theorem ti122_ok : TOk Tryz.prog 122 ti122 := ⟨by kernel_rfl, by kernel_rfl, by decide +kernel, rfl, fun k hk => by cases hk <;> exact ⟨rfl, rfl⟩, fun h => by cases h⟩
def ti29 : TI := ⟨.slice 122, 1, 24, [.slice none 0 0], some (.row 122 (.pair (.row 132 (.pair .str (.pair (.pair (.int .i64) (.pair (.int .i64) (.pair (.int .i64) (.pair (.int .i64) (.pair (.int .i64) (.pair .str .unit)))))) (.unit)))) (.pair (.row 134 (.pair .str (.pair (.int .i64) (.unit)))) (.pair (.row 136 (.pair .str (.pair .bool (.pair (.int .i64) (.pair .bool .unit))))) (.pair (.row 9 (.str)) (.unit)))))), q0⟩
theorem ti29_ok : TOk Tryz.prog 29 ti29 := ⟨by kernel_rfl, by kernel_rfl, by decide +kernel, rfl, fun k hk => by cases hk <;> exact ⟨rfl, rfl⟩, fun h => by cases h⟩
def ti31 : TI := ⟨.st [(0, 28), (1, 29)], 2, 48, [.slice none 0 0, .slice none 0 0], some (.pair (.row 9 (.str)) (.pair (.row 122 (.pair (.row 132 (.pair .str (.pair (.pair (.int .i64) (.pair (.int .i64) (.pair (.int .i64) (.pair (.int .i64) (.pair (.int .i64) (.pair .str .unit)))))) (.unit)))) (.pair (.row 134 (.pair .str (.pair (.int .i64) (.unit)))) (.pair (.row 136 (.pair .str (.pair .bool (.pair (.int .i64) (.pair .bool .unit))))) (.pair (.row 9 (.str)) (.unit)))))) (.unit))), q0⟩
theorem ti31_ok : TOk Tryz.prog 31 ti31 := ⟨by kernel_rfl, by kernel_rfl, by decide +kernel, rfl, fun k hk => by cases hk <;> exact ⟨rfl, rfl⟩, fun h => by cases h⟩
def ti34 : TI := ⟨.st [(0, 31), (2, 32)], 3, 72, [.slice none 0 0, .slice none 0 0, .slice none 0 0], some (.pair (.pair (.row 9 (.str)) (.pair (.row 122 (.pair (.row 132 (.pair .str (.pair (.pair (.int .i64) (.pair (.int .i64) (.pair (.int .i64) (.pair (.int .i64) (.pair (.int .i64) (.pair .str .unit)))))) (.unit)))) (.pair (.row 134 (.pair .str (.pair (.int .i64) (.unit)))) (.pair (.row 136 (.pair .str (.pair .bool (.pair (.int .i64) (.pair .bool .unit))))) (.pair (.row 9 (.str)) (.unit)))))) (.unit))) (.pair (.row 41 (.pair (.row 9 (.str)) (.pair (.row 24 (.pair (.int .i64) (.pair (.int .i64) (.pair (.int .i64) (.pair (.int .i64) (.pair (.int .i64) (.pair .str .unit))))))) (.pair (.pair (.int .i64) (.pair (.int .i64) (.pair (.int .i64) (.pair (.int .i64) (.pair (.int .i64) (.pair .str .unit)))))) (.unit))))) (.unit))), q0⟩
theorem ti34_ok : TOk Tryz.prog 34 ti34 := ⟨by kernel_rfl, by kernel_rfl, by decide +kernel, rfl, fun k hk => by cases hk <;> exact ⟨rfl, rfl⟩, fun h => by cases h⟩
def ti27 : TI := ⟨.st [(0, 22), (1, 24), (7, 25)], 8, 104, [.slice none 0 0, .int .i64 0, .int .i64 0, .int .i64 0, .int .i64 0, .int .i64 0, .string ⟨#[]⟩, .slice none 0 0], some (.pair (.row 24 (.pair (.int .i64) (.pair (.int .i64) (.pair (.int .i64) (.pair (.int .i64) (.pair (.int .i64) (.pair .str .unit))))))) (.pair (.pair (.int .i64) (.pair (.int .i64) (.pair (.int .i64) (.pair (.int .i64) (.pair (.int .i64) (.pair .str .unit)))))) (.pair (.row 3 (.int .i64)) (.unit)))), q0⟩
theorem ti27_ok : TOk Tryz.prog 27 ti27 := ⟨by kernel_rfl, by kernel_rfl, by decide +kernel, rfl, fun k hk => by cases hk <;> exact ⟨rfl, rfl⟩, fun h => by cases h⟩
def ti37 : TI := ⟨.st [(0, 27), (8, 34), (11, 35)], 12, 200, [.slice none 0 0, .int .i64 0, .int .i64 0, .int .i64 0, .int .i64 0, .int .i64 0, .string ⟨#[]⟩, .slice none 0 0, .slice none 0 0, .slice none 0 0, .slice none 0 0, .slice none 0 0], some (.pair (.pair (.row 24 (.pair (.int .i64) (.pair (.int .i64) (.pair (.int .i64) (.pair (.int .i64) (.pair (.int .i64) (.pair .str .unit))))))) (.pair (.pair (.int .i64) (.pair (.int .i64) (.pair (.int .i64) (.pair (.int .i64) (.pair (.int .i64) (.pair .str .unit)))))) (.pair (.row 3 (.int .i64)) (.unit)))) (.pair (.pair (.pair (.row 9 (.str)) (.pair (.row 122 (.pair (.row 132 (.pair .str (.pair (.pair (.int .i64) (.pair (.int .i64) (.pair (.int .i64) (.pair (.int .i64) (.pair (.int .i64) (.pair .str .unit)))))) (.unit)))) (.pair (.row 134 (.pair .str (.pair (.int .i64) (.unit)))) (.pair (.row 136 (.pair .str (.pair .bool (.pair (.int .i64) (.pair .bool .unit))))) (.pair (.row 9 (.str)) (.unit)))))) (.unit))) (.pair (.row 41 (.pair (.row 9 (.str)) (.pair (.row 24 (.pair (.int .i64) (.pair (.int .i64) (.pair (.int .i64) (.pair (.int .i64) (.pair (.int .i64) (.pair .str .unit))))))) (.pair (.pair (.int .i64) (.pair (.int .i64) (.pair (.int .i64) (.pair (.int .i64) (.pair (.int .i64) (.pair .str .unit)))))) (.unit))))) (.unit))) (.pair (.row 62 (.pair (.pair (.int .i64) (.pair (.int .i64) (.pair (.int .i64) (.pair (.int .i64) (.pair (.int .i64) (.pair .str .unit)))))) (.pair (.pair (.int .i64) (.pair (.int .i64) (.pair (.int .i64) (.pair (.int .i64) (.pair (.int .i64) (.pair .str .unit)))))) (.pair (.pair (.int .i64) (.pair (.int .i64) (.pair (.int .i64) (.pair (.int .i64) (.pair (.int .i64) (.pair .str .unit)))))) (.pair (.pair (.int .i64) (.pair (.int .i64) (.pair (.int .i64) (.pair (.int .i64) (.pair (.int .i64) (.pair .str .unit)))))) .unit))))) (.unit)))), q0⟩
theorem ti37_ok : TOk Tryz.prog 37 ti37 := ⟨by kernel_rfl, by kernel_rfl, by decide +kernel, rfl, fun k hk => by cases hk <;> exact ⟨rfl, rfl⟩, fun h => by cases h⟩
def tb : Tb := [(3, ti3), (4, ti4), (9, ti9), (24, ti24), (25, ti25), (22, ti22), (28, ti28), (41, ti41), (32, ti32), (43, ti43), (62, ti62), (35, ti35), (59, ti59), (61, ti61), (100, ti100), (88, ti88), (77, ti77), (79, ti79), (75, ti75), (98, ti98), (94, ti94), (93, ti93), (5, ti5), (132, ti132), (118, ti118), (134, ti134), (119, ti119), (136, ti136), (120, ti120), (122, ti122), (29, ti29), (31, ti31), (34, ti34), (27, ti27), (37, ti37)]
@[simp] theorem tb_at3 : Tb.at tb 3 = some ti3 := rfl
@[simp] theorem tb_at4 : Tb.at tb 4 = some ti4 := rfl
@[simp] theorem tb_at9 : Tb.at tb 9 = some ti9 := rfl
@[simp] theorem tb_at24 : Tb.at tb 24 = some ti24 := rfl
@[simp] theorem tb_at25 : Tb.at tb 25 = some ti25 := rfl
@[simp] theorem tb_at22 : Tb.at tb 22 = some ti22 := rfl
@[simp] theorem tb_at28 : Tb.at tb 28 = some ti28 := rfl
@[simp] theorem tb_at41 : Tb.at tb 41 = some ti41 := rfl
@[simp] theorem tb_at32 : Tb.at tb 32 = some ti32 := rfl
@[simp] theorem tb_at43 : Tb.at tb 43 = some ti43 := rfl
@[simp] theorem tb_at62 : Tb.at tb 62 = some ti62 := rfl
@[simp] theorem tb_at35 : Tb.at tb 35 = some ti35 := rfl
@[simp] theorem tb_at59 : Tb.at tb 59 = some ti59 := rfl
@[simp] theorem tb_at61 : Tb.at tb 61 = some ti61 := rfl
@[simp] theorem tb_at100 : Tb.at tb 100 = some ti100 := rfl
@[simp] theorem tb_at88 : Tb.at tb 88 = some ti88 := rfl
@[simp] theorem tb_at77 : Tb.at tb 77 = some ti77 := rfl
@[simp] theorem tb_at79 : Tb.at tb 79 = some ti79 := rfl
@[simp] theorem tb_at75 : Tb.at tb 75 = some ti75 := rfl
@[simp] theorem tb_at98 : Tb.at tb 98 = some ti98 := rfl
@[simp] theorem tb_at94 : Tb.at tb 94 = some ti94 := rfl
@[simp] theorem tb_at93 : Tb.at tb 93 = some ti93 := rfl
@[simp] theorem tb_at5 : Tb.at tb 5 = some ti5 := rfl
@[simp] theorem tb_at132 : Tb.at tb 132 = some ti132 := rfl
@[simp] theorem tb_at118 : Tb.at tb 118 = some ti118 := rfl
@[simp] theorem tb_at134 : Tb.at tb 134 = some ti134 := rfl
@[simp] theorem tb_at119 : Tb.at tb 119 = some ti119 := rfl
@[simp] theorem tb_at136 : Tb.at tb 136 = some ti136 := rfl
@[simp] theorem tb_at120 : Tb.at tb 120 = some ti120 := rfl
@[simp] theorem tb_at122 : Tb.at tb 122 = some ti122 := rfl
@[simp] theorem tb_at29 : Tb.at tb 29 = some ti29 := rfl
@[simp] theorem tb_at31 : Tb.at tb 31 = some ti31 := rfl
@[simp] theorem tb_at34 : Tb.at tb 34 = some ti34 := rfl
@[simp] theorem tb_at27 : Tb.at tb 27 = some ti27 := rfl
@[simp] theorem tb_at37 : Tb.at tb 37 = some ti37 := rfl
attribute [simp] ti3 ti4 ti9 ti24 ti25 ti22 ti28 ti41 ti32 ti43 ti62 ti35 ti59 ti61 ti100 ti88 ti77 ti79 ti75 ti98 ti94 ti93 ti5 ti132 ti118 ti134 ti119 ti136 ti120 ti122 ti29 ti31 ti34 ti27 ti37
theorem tb_ok : TbOk Tryz.prog tb := by
  intro p hp; simp only [tb, List.mem_cons, List.not_mem_nil, or_false] at hp; rcases hp with rfl | rfl | rfl | rfl | rfl | rfl | rfl | rfl | rfl | rfl | rfl | rfl | rfl | rfl | rfl | rfl | rfl | rfl | rfl | rfl | rfl | rfl | rfl | rfl | rfl | rfl | rfl | rfl | rfl | rfl | rfl | rfl | rfl | rfl | rfl
  · exact ti3_ok
  · exact ti4_ok
  · exact ti9_ok
  · exact ti24_ok
  · exact ti25_ok
  · exact ti22_ok
  · exact ti28_ok
  · exact ti41_ok
  · exact ti32_ok
  · exact ti43_ok
  · exact ti62_ok
  · exact ti35_ok
  · exact ti59_ok
  · exact ti61_ok
  · exact ti100_ok
  · exact ti88_ok
  · exact ti77_ok
  · exact ti79_ok
  · exact ti75_ok
  · exact ti98_ok
  · exact ti94_ok
  · exact ti93_ok
  · exact ti5_ok
  · exact ti132_ok
  · exact ti118_ok
  · exact ti134_ok
  · exact ti119_ok
  · exact ti136_ok
  · exact ti120_ok
  · exact ti122_ok
  · exact ti29_ok
  · exact ti31_ok
  · exact ti34_ok
  · exact ti27_ok
  · exact ti37_ok
end Go.Den
end
section
-- the texts that this claim needs, out of this session's and its print's (wip/shrink.py)
namespace Go.Den
open Go Go.RowKit Go.Proofs Go.Proofs.YtibfkkjkahpobaaGreatW.PrintWords Go.Proofs.YtibfkkjkahpobaaGreat.PDag
def fV : Value → Bool
  | .int _ _ => true
  | .bool _ => true
  | .string _ => true
  | _ => false
theorem fV_back {U : Nat → Prop} {ρ : Nat → Value} {h : List Blk} {w : World} {v u : Value} (hv : fV v = true) (hc : CR U ρ h w (vC v) u) : u = v := by
  unfold fV at hv; split at hv <;> first | exact hc | cases hv
theorem fV_args {U : Nat → Prop} {ρ : Nat → Value} {h : List Blk} {w : World} : ∀ (l vs : List Value), l.all fV = true → All2 (SR U ρ h w) (l.map fun v => .one (vC v)) vs → vs = l
  | [], vs, _, ha => ha.left_nil
  | v :: l, vs, hl, ha => by
    obtain ⟨u, us, rfl, h1, h2⟩ := ha.left_cons; simp only [List.all_cons, Bool.and_eq_true] at hl; rw [fV_back hl.1 h1, fV_args l us hl.2 h2]
theorem fV_out {U : Nat → Prop} {ρ : Nat → Value} {h : List Blk} {w : World} {v : Value} (hv : fV v = true) : CR U ρ h w (vC v) v := by
  unfold fV at hv; split at hv <;> first | rfl | cases hv
theorem mkF (f : FuncId) (args : Array Value) (v : Value) (ha : args.toList.all fV = true) (hv : fV v = true) (en : Enters Tryz.prog f) (hc : ∀ w, Calls Tryz.prog f args w fun e w' => e = .returned v ∧ Below w.heap.size w w') : CallStep Tryz.prog f (args.toList.map fun v => .one (vC v)) [] (.one (vC v)) [] := by
  refine CallStep.mk1 en fun U ρ w vs hs => ?_; obtain rfl : vs = args := Array.toList_inj.1 (fV_args _ _ ha hs); refine Calls.mono (hc w) ?_; rintro e w' ⟨rfl, hB⟩; exact ⟨_, rfl, hB, fun U1 hU => fV_out hv⟩
theorem o36 (s : ByteArray) : CallStep Tryz.prog 36 [.one (.str s)] [] (.one (.bool (nameOk s))) [] := mkF 36 #[.string s] (.bool _) rfl rfl ⟨_, _, Tryz.func36, by kernel_rfl, rfl⟩ fun w => (r3_Name.calls 40 s _ w (ref_name (Nat.le_refl _) s)).mono fun _ _ h => ⟨h.1, h.2.below⟩
theorem o39 (n : Int) : CallStep Tryz.prog 39 [.one (.int .i64 n)] [] (.one (.bool (endsOp n))) [] := mkF 39 #[.int .i64 n] (.bool _) rfl rfl ⟨_, _, Tryz.func39, by kernel_rfl, rfl⟩ fun w => (r3_Ends.calls n _ w (rends_eq n)).mono fun _ _ h => ⟨h.1, h.2.below⟩
theorem o66 (op : Int) : CallStep Tryz.prog 66 [.one (.int .i64 op)] [] (.one (.bool (decide (0 ≤ op ∧ op ≤ 33)))) [] := mkF 66 #[.int .i64 op] (.bool _) rfl rfl ⟨_, _, Tryz.func66, by kernel_rfl, rfl⟩ fun w => (r3_Valid.calls op _ w (ref_valid op)).mono fun _ _ h => ⟨h.1, h.2.below⟩
theorem o67 (op : Int) (h0 : 0 ≤ op ∧ op ≤ 33) : CallStep Tryz.prog 67 [.one (.int .i64 op)] [] (.one (.int .i64 (formOf op))) [] := mkF 67 #[.int .i64 op] (.int .i64 _) rfl rfl ⟨_, _, Tryz.func67, by kernel_rfl, rfl⟩ fun w => (r3_Form.calls op _ w (form_eq op h0.1 h0.2)).mono fun _ _ h => ⟨h.1, h.2⟩
theorem o69 (f : Int) (h0 : 0 ≤ f ∧ f ≤ 9) : CallStep Tryz.prog 69 [.one (.int .i64 f)] [] (.one (.bool (hasD f))) [] := mkF 69 #[.int .i64 f] (.bool _) rfl rfl ⟨_, _, Tryz.func69, by kernel_rfl, rfl⟩ fun w => (r3_HasD.calls f _ w (ref_hasD f h0.1 h0.2)).mono fun _ _ h => ⟨h.1, h.2.below⟩
theorem o70 (f : Int) (h0 : 0 ≤ f ∧ f ≤ 9) : CallStep Tryz.prog 70 [.one (.int .i64 f)] [] (.one (.bool (hasA f))) [] := mkF 70 #[.int .i64 f] (.bool _) rfl rfl ⟨_, _, Tryz.func70, by kernel_rfl, rfl⟩ fun w => (r3_HasA.calls f _ w (ref_hasA f h0.1 h0.2)).mono fun _ _ h => ⟨h.1, h.2.below⟩
theorem o71 (f : Int) (h0 : 0 ≤ f ∧ f ≤ 9) : CallStep Tryz.prog 71 [.one (.int .i64 f)] [] (.one (.bool (hasB f))) [] := mkF 71 #[.int .i64 f] (.bool _) rfl rfl ⟨_, _, Tryz.func71, by kernel_rfl, rfl⟩ fun w => (r3_HasB.calls f _ w (ref_hasB f h0.1 h0.2)).mono fun _ _ h => ⟨h.1, h.2.below⟩
theorem o68 (n : Int) (has : Bool) : CallStep Tryz.prog 68 [.one (.int .i64 n), .one (.bool has)] [] (.one (.bool (regOk has n))) [] := mkF 68 #[.int .i64 n, .bool has] (.bool _) rfl rfl ⟨_, _, Tryz.func68, by kernel_rfl, rfl⟩ fun w => (r3_reg.calls n has _ w (ref_reg_eq has n)).mono fun _ _ h => ⟨h.1, h.2.below⟩
theorem o73 (f : Int) (h0 : 0 ≤ f ∧ f ≤ 9) : CallStep Tryz.prog 73 [.one (.int .i64 f)] [] (.one (.bool (target f))) [] := mkF 73 #[.int .i64 f] (.bool _) rfl rfl ⟨_, _, Tryz.func73, by kernel_rfl, rfl⟩ fun w => (r3_Target.calls f _ w (ref_target f h0.1 h0.2)).mono fun _ _ h => ⟨h.1, h.2.below⟩
theorem o75 (f : Int) (h0 : 0 ≤ f ∧ f ≤ 9) : CallStep Tryz.prog 75 [.one (.int .i64 f)] [] (.one (.int .i64 (bitsOf f))) [] := mkF 75 #[.int .i64 f] (.int .i64 _) rfl rfl ⟨_, _, Tryz.func75, by kernel_rfl, rfl⟩ fun w => (r3_Bits.calls 10 f _ w (ref_bits (Nat.le_refl _) f h0.1 h0.2)).mono fun _ _ h => ⟨h.1, h.2.below⟩
theorem fits_eq (n b : Int) (hb : b = 14 ∨ b = 18) : r1_Fits.f n b = some (if b = 14 then fit14 n else fit18 n) := by rcases hb with rfl | rfl; exact fits14 n; exact fits18 n
theorem o72 (n : Int) (b : Int) (hb : b = 14 ∨ b = 18) : CallStep Tryz.prog 72 [.one (.int .i64 n), .one (.int .i64 b)] [] (.one (.bool (if b = 14 then fit14 n else fit18 n))) [] := mkF 72 #[.int .i64 n, .int .i64 b] (.bool _) rfl rfl ⟨_, _, Tryz.func72, by kernel_rfl, rfl⟩ fun w => (r1_Fits.calls n b _ w (fits_eq n b hb)).mono fun _ _ h => ⟨h.1, h.2.below⟩
theorem num_eq (n m : Int) : r0_Num.f n m = some (decide (0 ≤ n ∧ n ≤ m)) := by
  unfold r0_Num.f
  by_cases h : n ≥ 0
  · rw [if_pos h]; congr 1; by_cases h2 : n ≤ m <;> simp [h2] <;> omega
  · rw [if_neg h]; congr 1; symm; rw [decide_eq_false_iff_not]; omega
theorem o74 (n : Int) (m : Int) : CallStep Tryz.prog 74 [.one (.int .i64 n), .one (.int .i64 m)] [] (.one (.bool (decide (0 ≤ n ∧ n ≤ m)))) [] := mkF 74 #[.int .i64 n, .int .i64 m] (.bool _) rfl rfl ⟨_, _, Tryz.func74, by kernel_rfl, rfl⟩ fun w => (r0_Num.calls n m _ w (num_eq n m)).mono fun _ _ h => ⟨h.1, h.2.below⟩
theorem regs_cond (a b c : Bool) : (bif (bif !a then true else !b) then true else !c) = !(a && (b && c)) := by cases a <;> cases b <;> cases c <;> rfl
theorem hnil : (⟨#[]⟩ : ByteArray).toList = [] := by rw [ByteArray.toList_eq]
theorem imm_some {op imm : Int} {s : ByteArray} (h0 : 0 ≤ op) (h1 : op ≤ 33) (hs : ¬ s.toList = []) : immOk (formOf op) imm s = (bif nameOk s then (bif (bif op == 23 then fit18 imm else false) then true else (bif target (formOf op) then imm == 0 else false)) else false) := by
  have hli := formOf_li op h0 h1; unfold immOk; rw [if_neg hs, if_neg hs]
  by_cases h4 : op = 23
  · have hf := hli.2 h4; rw [hf, h4]
    cases nameOk s <;> cases fit18 imm <;> simp [target]
  · have hf : ¬ formOf op = 4 := fun h => h4 (hli.1 h); rw [if_neg hf, show (op == 23) = false by simpa using h4]
    cases nameOk s <;> cases target (formOf op) <;> by_cases hi : imm = 0 <;> simp [hi]
theorem o38 (x : S24) : CallStep Tryz.prog 38 [.agg (kIns.flat (f24 x))] [] (.one (.bool (okI x))) [] := by
  obtain ⟨op, d, a, b, imm, s⟩ := x; show CallStep Tryz.prog 38 [.agg [.int .i64 op, .int .i64 d, .int .i64 a, .int .i64 b, .int .i64 imm, .str s]] [] (.one (.bool (insOk op d a b imm s))) []; refine CallStep.intro' (n := 76) (n0 := 0) (rs := [.tmp 2]) tb_ok Tryz.func38 (by kernel_rfl) rfl rfl rfl rfl rfl fun cx hcx => ?_; refine W.sO tb_ok ?_; refine W.seq ?_; have q0_ := o66 op; refine W.sO tb_ok ?_; refine W.if_ _ rfl (fun e => ?_) (fun e => W.skip ?_)
  · have e : decide (0 ≤ op ∧ op ≤ 33) = false := by rw [← Bool.not_eq_true']; exact e
    rw [show insOk op d a b imm s = false by unfold insOk; rw [e]; rfl]; refine W.sO tb_ok ?_; exact W.ret (endL1 (tb := tb) (n0 := 0) rfl rfl rfl rfl)
  have e : decide (0 ≤ op ∧ op ≤ 33) = true := by rw [← Bool.not_eq_false']; exact e
  have hop := of_decide_eq_true e; have hf := formOf_range op hop.1 hop.2; have hok : insOk op d a b imm s = (regOk (hasD (formOf op)) d && (regOk (hasA (formOf op)) a && regOk (hasB (formOf op)) b) && immOk (formOf op) imm s) := by unfold insOk; rw [e, Bool.true_and, Bool.and_assoc, Bool.and_assoc]
  have h73 := o73 (formOf op) hf; have h75 := o75 (formOf op) hf; have q0_ := o67 op hop; refine W.sO tb_ok ?_; refine W.seq ?_; have q0_ := o69 (formOf op) hf; have q1_ := o70 (formOf op) hf; have q2_ := o71 (formOf op) hf; have q3_ := o68 d (hasD (formOf op)); have q4_ := o68 a (hasA (formOf op)); have q5_ := o68 b (hasB (formOf op)); refine W.aO [22] tb_ok ?_; refine W.if_ _ rfl (fun e2 => ?_) (fun e2 => W.skip ?_)
  · have e3 := (regs_cond _ _ _).symm.trans e2; rw [Bool.not_eq_true'] at e3; rw [hok, e3]; refine W.sO tb_ok ?_; exact W.ret (endL1 (tb := tb) (n0 := 0) rfl rfl rfl rfl)
  have e3 := (regs_cond _ _ _).symm.trans e2; rw [Bool.not_eq_false'] at e3; rw [hok, e3, Bool.true_and]; refine W.seq ?_; refine W.sO tb_ok ?_; refine W.if_ _ rfl (fun e4 => ?_) (fun e4 => W.skip ?_)
  · have e5 : ¬ s.toList = [] := fun h => by have e4 : (!(s.toList == (⟨#[]⟩ : ByteArray).toList)) = true := e4; rw [h, hnil] at e4; cases e4
    rw [imm_some hop.1 hop.2 e5]; have q0_ := o36 s; have q1_ := o72 imm 18 (.inr rfl); refine W.sO tb_ok ?_; exact W.ret (endL1 (tb := tb) (n0 := 0) rfl rfl rfl rfl)
  have e5 : s.toList = [] := by have e4 : (!(s.toList == (⟨#[]⟩ : ByteArray).toList)) = false := e4; rw [Bool.not_eq_false', hnil] at e4; exact eq_of_beq e4
  have him : immOk (formOf op) imm s = if target (formOf op) = true then decide (0 ≤ imm ∧ imm ≤ 1023) else (if bitsOf (formOf op) > 0 then (if bitsOf (formOf op) = 14 then fit14 imm else fit18 imm) else imm == 0) := by
    unfold immOk; rw [if_pos e5, if_pos e5]; generalize formOf op = f at hf; rcases form_cases f hf.1 hf.2 with rfl | rfl | rfl | rfl | rfl | rfl | rfl | rfl | rfl | rfl <;> simp [target, bitsOf]
  refine W.seq (W.block ?_); refine W.sO tb_ok ?_; refine W.if_ _ rfl (fun e6 => ?_) (fun e6 => ?_)
  · rw [him, if_pos e6]; have q0_ := o74 imm 1023; refine W.sO tb_ok ?_; exact W.ret (endL1 (tb := tb) (n0 := 0) rfl rfl rfl rfl)
  rw [if_neg (by rw [e6]; exact Bool.false_ne_true)] at him; refine W.sO tb_ok ?_; refine W.if_ _ rfl (fun e7 => ?_) (fun e7 => W.skip ?_)
  · have e8 := of_decide_eq_true e7
    have hb : bitsOf (formOf op) = 14 ∨ bitsOf (formOf op) = 18 := by
      generalize formOf op = f at hf e8; rcases form_cases f hf.1 hf.2 with rfl | rfl | rfl | rfl | rfl | rfl | rfl | rfl | rfl | rfl <;> simp [bitsOf] at e8 ⊢
    rw [him, if_pos e8]; have q0_ := o72 imm (bitsOf (formOf op)) hb; refine W.aO [6] tb_ok ?_; exact W.ret (endL1 (tb := tb) (n0 := 0) rfl rfl rfl rfl)
  · have e8 := of_decide_eq_false e7; rw [him, if_neg e8]; refine W.sO tb_ok ?_; exact W.ret (endL1 (tb := tb) (n0 := 0) rfl rfl rfl rfl)
end Go.Den
end
section
-- the texts that this claim needs, out of this session's and its print's (wip/shrink.py)
namespace Go.Den
open Go Go.RowKit Go.Proofs Go.Proofs.YtibfkkjkahpobaaGreatW.PrintWords Go.Proofs.YtibfkkjkahpobaaGreat.PDag
theorem insVal {U : Nat → Prop} {ρ : Nat → Value} {h : List Blk} {w : World} {x : S24} {cs : Array Value} (h1 : All2 (CR U ρ h w) (kIns.flat (f24 x)) cs.toList) : cs = #[.int .i64 x.f0, .int .i64 x.f1, .int .i64 x.f2, .int .i64 x.f3, .int .i64 x.f4, .string x.f5] := by
  obtain ⟨v0, l0, e0, a0, h1⟩ := h1.left_cons; obtain ⟨v1, l1, rfl, a1, h1⟩ := h1.left_cons; obtain ⟨v2, l2, rfl, a2, h1⟩ := h1.left_cons; obtain ⟨v3, l3, rfl, a3, h1⟩ := h1.left_cons; obtain ⟨v4, l4, rfl, a4, h1⟩ := h1.left_cons; obtain ⟨v5, l5, rfl, a5, h1⟩ := h1.left_cons; obtain rfl := h1.left_nil; obtain rfl : v0 = .int .i64 x.f0 := a0; obtain rfl : v1 = .int .i64 x.f1 := a1; obtain rfl : v2 = .int .i64 x.f2 := a2; obtain rfl : v3 = .int .i64 x.f3 := a3; obtain rfl : v4 = .int .i64 x.f4 := a4; obtain rfl : v5 = .string x.f5 := a5; exact Array.toList_inj.1 e0
theorem int1 {U : Nat → Prop} {ρ : Nat → Value} {h : List Blk} {w : World} {n : Int} {vs : Array Value} (ha : All2 (SR U ρ h w) [.one (.int .i64 n)] vs.toList) : vs = #[.int .i64 n] := by
  obtain ⟨v, rfl, hv⟩ := vs1 ha; obtain rfl : v = .int .i64 n := hv; rfl
theorem o40 (op : Int) (h0 : 0 ≤ op ∧ op ≤ 33) : CallStep Tryz.prog 40 [.one (.int .i64 op)] [] (.one (.int .i64 (lateOp op))) [] := by
  refine CallStep.mk1 ⟨_, _, Tryz.func40, by kernel_rfl, rfl⟩ fun U ρ w vs ha => ?_; obtain rfl := int1 ha; refine Calls.mono (r3_Latency.calls 5 op _ w (rlate_eq (Nat.le_refl _) op h0.1 h0.2)) ?_; rintro e w' ⟨rfl, hB⟩; exact ⟨_, rfl, hB.below, fun U1 hU => rfl⟩
theorem o80 (op : Int) (h0 : 0 ≤ op ∧ op ≤ 33) : CallStep Tryz.prog 80 [.one (.int .i64 op)] [] (.one (.bool (effOp op))) [] := by
  refine CallStep.mk1 ⟨_, _, Tryz.func80, by kernel_rfl, rfl⟩ fun U ρ w vs ha => ?_; obtain rfl := int1 ha; refine Calls.mono (r3_Effect.calls op _ w (reff_eq op h0.1 h0.2)) ?_; rintro e w' ⟨rfl, hB⟩; exact ⟨_, rfl, hB.below, fun U1 hU => rfl⟩
theorem o77 (x : S24) (h0 : 0 ≤ x.f0 ∧ x.f0 ≤ 33) : CallStep Tryz.prog 77 [.agg (kIns.flat (f24 x))] [] (.one (.int .i64 (wOf x))) [] := by
  refine CallStep.mk1 ⟨_, _, Tryz.func77, by kernel_rfl, rfl⟩ fun U ρ w vs ha => ?_; obtain ⟨v, rfl, hv⟩ := vs1 ha; obtain ⟨cs, rfl, h1⟩ := hv; obtain rfl := insVal h1; refine Calls.mono (r3_Writes.calls _ _ _ _ _ _ _ w (rwrites_eq x h0.1 h0.2)) ?_; rintro e w' ⟨rfl, hB⟩; exact ⟨_, rfl, hB, fun U1 hU => rfl⟩
theorem o79 (x : S24) (h0 : 0 ≤ x.f0 ∧ x.f0 ≤ 33) : CallStep Tryz.prog 79 [.agg (kIns.flat (f24 x))] [] (.one (.row 3 kI (readsL x))) [] := by
  refine CallStep.mk1 ⟨_, _, Tryz.func79, by kernel_rfl, rfl⟩ fun U ρ w vs ha => ?_; obtain ⟨v, rfl, hv⟩ := vs1 ha; obtain ⟨cs, rfl, h1⟩ := hv; obtain rfl := insVal h1; refine Calls.mono (r3_Reads.calls 12 _ _ _ _ _ _ _ w (rreads_eq (Nat.le_refl _) x h0.1 h0.2)) ?_; rintro e w' ⟨v0, rfl, hR, hB⟩; exact ⟨_, rfl, hB, fun U1 hU => (brInts .i64 3).made (base := w.heap.size) (ok := fun _ => True) ⟨v0, rfl, hR⟩ fun a h1 h2 _ h3 => by have := hU a h3; omega⟩
theorem o78 (l : List Int) (v r : Int) (h : r0_In.f 5 l v = some r) : CallStep Tryz.prog 78 [.one (.row 3 kI l), .one (.int .i64 v)] [] (.one (.int .i64 r)) [] := by
  refine CallStep.mk1 ⟨_, _, Tryz.func78, by kernel_rfl, rfl⟩ fun U ρ w vs ha => ?_; obtain ⟨v1, v2, rfl, hv, hv2⟩ := vs2 ha; obtain ⟨A, c, rfl, b1, b2⟩ := argInts (xs := l) hv; obtain rfl : v2 = .int .i64 v := hv2; refine Calls.mono (r0_In.calls 5 A c l v r w b2 b1 h) ?_; rintro e w' ⟨rfl, hB⟩; exact ⟨_, rfl, hB.below, fun U1 hU => rfl⟩
theorem o81 (x y : S24) (hx : okI x = true) (hy : okI y = true) : CallStep Tryz.prog 81 [.agg (kIns.flat (f24 x)), .agg (kIns.flat (f24 y))] [] (.one (.int .i64 (dist x y))) [] := by
  have ox := okI_op hx; have oy := okI_op hy; have dx := okI_d hx; have dy := okI_d hy; obtain ⟨r1, e1, q1⟩ := in_eq (Nat.le_refl 5) x (wOf y); obtain ⟨r2, e2, q2⟩ := in_eq (Nat.le_refl 5) y (wOf x); refine CallStep.intro' (n := 49) (n0 := 0) (rs := [.tmp 4]) tb_ok Tryz.func81 (by kernel_rfl) rfl rfl rfl rfl rfl fun cx hcx => ?_; refine W.sO tb_ok ?_; refine W.sO tb_ok ?_; have q0_ := o77 x ox; have q1_ := o77 y oy; refine W.aO [6] tb_ok ?_; refine W.seq ?_; have q0_ := o79 x ox; have q1_ := o78 (readsL x) (wOf y) r1 e1; refine W.sO tb_ok ?_; generalize hd1 : (if (bif decide (wOf y ≥ 0) then decide (r1 ≥ 0) else false) = true then (0 : Int) else -1) = d1; refine W.ifJ ⟨[(2, .one (.ptr 0 0)), (3, .one (.ptr 1 0)), (6, .one (.int .i64 (wOf x))), (7, .one (.int .i64 (wOf y))), (5, .one (.int .i64 d1))], [.box 24 (kIns.flat (f24 x)), .box 24 (kIns.flat (f24 y))], 49⟩ _ rfl (fun e => ?_) (fun e => W.skip ?_) ?_
  · rw [if_pos e] at hd1; subst hd1; refine W.rO tb_ok ?_; exact Le.to [0, 1] hcx rfl ⟨rfl, rfl, rfl, rfl, rfl, rfl, rfl⟩
  · rw [if_neg (by rw [e]; exact Bool.false_ne_true)] at hd1; subst hd1; exact Le.to [0, 1] hcx rfl ⟨rfl, rfl, rfl, rfl, rfl, rfl, rfl⟩
  refine W.seq ?_; have q0_ := o80 x.f0 ox; have q1_ := o80 y.f0 oy; refine W.sO tb_ok ?_; generalize hd2 : (if (bif effOp x.f0 then effOp y.f0 else false) = true then (1 : Int) else d1) = d2; refine W.ifJ ⟨[(2, .one (.ptr 0 0)), (3, .one (.ptr 1 0)), (6, .one (.int .i64 (wOf x))), (7, .one (.int .i64 (wOf y))), (5, .one (.int .i64 d2))], [.box 24 (kIns.flat (f24 x)), .box 24 (kIns.flat (f24 y))], 49⟩ _ rfl (fun e => ?_) (fun e => W.skip ?_) ?_
  · rw [if_pos e] at hd2; subst hd2; refine W.rO tb_ok ?_; exact Le.to [0, 1] hcx rfl ⟨rfl, rfl, rfl, rfl, rfl, rfl, rfl⟩
  · rw [if_neg (by rw [e]; exact Bool.false_ne_true)] at hd2; subst hd2; exact Le.to [0, 1] hcx rfl ⟨rfl, rfl, rfl, rfl, rfl, rfl, rfl⟩
  refine W.seq ?_; have q0_ := o79 y oy; have q1_ := o78 (readsL y) (wOf x) r2 e2; refine W.sO tb_ok ?_; generalize hd3 : (if (bif decide (wOf x ≥ 0) then (bif wOf x == wOf y then true else decide (r2 ≥ 0)) else false) = true then max d2 (lateOp x.f0) else d2) = d3; refine W.ifJ ⟨[(2, .one (.ptr 0 0)), (3, .one (.ptr 1 0)), (6, .one (.int .i64 (wOf x))), (7, .one (.int .i64 (wOf y))), (5, .one (.int .i64 d3))], [.box 24 (kIns.flat (f24 x)), .box 24 (kIns.flat (f24 y))], 49⟩ _ rfl (fun e => ?_) (fun e => W.skip ?_) ?_
  · rw [if_pos e] at hd3; subst hd3; have q0_ := o40 x.f0 ox; refine W.rO tb_ok ?_; exact Le.to [0, 1] hcx rfl ⟨rfl, rfl, rfl, rfl, rfl, rfl, rfl⟩
  · rw [if_neg (by rw [e]; exact Bool.false_ne_true)] at hd3; subst hd3; exact Le.to [0, 1] hcx rfl ⟨rfl, rfl, rfl, rfl, rfl, rfl, rfl⟩
  refine W.sO tb_ok ?_; refine W.ret (endL1 (tb := tb) (n0 := 0) ?_ rfl rfl rfl); have hmx : ∀ a b : Int, max a b = mx a b := fun a b => by unfold mx; rw [Int.max_def]; split <;> split <;> omega
  refine congrArg (fun n => S.one (C.int .i64 n)) ?_; rw [← hd3, ← hd2, ← hd1, q1, q2]; unfold dist rdsP wOf; simp only [hmx]
  cases hasD (formOf x.f0) <;> cases hasD (formOf y.f0) <;> cases effOp x.f0 <;> cases effOp y.f0 <;> by_cases h : x.f1 = y.f1 <;>
    simp [h, dx, dy, show x.f1 ≠ -1 by omega, show y.f1 ≠ -1 by omega]
end Go.Den
end
section
-- the texts that this claim needs, out of this session's and its print's (wip/shrink.py)
namespace Go.Den
open Go Go.RowKit Go.Proofs Go.Proofs.YtibfkkjkahpobaaGreatW.PrintWords Go.Proofs.YtibfkkjkahpobaaGreat.PDag
@[reducible] def kE : K := .pair (.int .i64) (.pair (.int .i64) (.pair (.int .i64) .unit))
def f100 (x : S100) : kE.T := (x.f0, x.f1, x.f2, ())
theorem at24 (l : List S24) (i : Nat) (h : i < l.length) : (l.map f24).getD i (K.zero kIns) = f24 (J24 l i) := by
  rw [rd_at l i h, List.getD_eq_getElem?_getD, List.getElem?_map, List.getElem?_eq_getElem h]; rfl
theorem o45 (l : List S24) (hn : l.length ≤ 200) (ho : okA l) : CallStep Tryz.prog 45 [.one (.row 24 kIns (l.map f24))] [] (.one (.own 0)) [.row 100 kE ((edges l).map f100)] := by
  have hL : (l.map f24).length = l.length := List.length_map ..; have hfew := edges_few l hn; refine CallStep.intro' (n := 40) (n0 := 0) (rs := [.tmp 2]) tb_ok Tryz.func45 (by kernel_rfl) rfl rfl rfl rfl rfl fun cx hcx => ?_; refine W.sO tb_ok ?_; refine W.sO tb_ok ?_; refine W.seq ?_; refine W.sO tb_ok ?_; refine W.block (W.loop (fun p : Nat × List S100 => ⟨[(4, .one (.int .i64 p.1)), (3, .one (.own 0)), (0, .one (.row 24 kIns (l.map f24)))], [.row 100 kE (p.2.map f100)], 40⟩) (fun p => l.length - p.1) (fun p => p.1 ≤ l.length ∧ p.2 ++ edgesUp l p.1 (l.length - p.1) = edges l) (0, []) ⟨Nat.zero_le _, rfl⟩ (Le.to [1] hcx rfl ⟨rfl, rfl, rfl, rfl, rfl⟩) fun p hp => ?_); obtain ⟨i, acc⟩ := p; obtain ⟨hi, hacc⟩ := hp; simp only at hi hacc; refine W.seq ?_; refine W.sO tb_ok ?_; refine W.if_ _ rfl (fun e => W.skip ?_) (fun e => W.exit ?_)
  case refine_2 =>
    refine W.sO tb_ok ?_; have hi2 : i = l.length := by have := of_decide_eq_false e; omega
    subst hi2; rw [Nat.sub_self, edgesUp, List.append_nil] at hacc; subst hacc; exact W.ret ⟨trivial, [0], rfl, rfl, rfl⟩
  have hil : i < l.length := by have := of_decide_eq_true e; omega
  rw [show l.length - i = (l.length - (i + 1)) + 1 by omega, edgesUp_succ, ← List.append_assoc] at hacc; have hw : IntKind.i64.wrap ((i : Int) + 1) = ((i + 1 : Nat) : Int) := IntWalk.i64_in _ (by omega); refine W.seq (W.block ?_); refine W.sO tb_ok ?_; refine W.block (W.loop (fun q : Nat × List S100 => ⟨[(4, .one (.int .i64 i)), (5, .one (.int .i64 q.1)), (3, .one (.own 0)), (0, .one (.row 24 kIns (l.map f24)))], [.row 100 kE (q.2.map f100)], 40⟩) (fun q => l.length - q.1) (fun q => i < q.1 ∧ q.1 ≤ l.length ∧ q.2 ++ edgesSeg l i q.1 (l.length - q.1) = acc ++ edgesFrom l i) (i + 1, acc) ⟨Nat.lt_succ_self i, hil, rfl⟩ (Le.to [0] hcx rfl ⟨rfl, ?_, rfl, rfl, rfl, rfl⟩) fun q hq => ?_)
  · show S.ren _ (S.one (.int .i64 (IntKind.i64.wrap (↑i + 1)))) = _; rw [hw]; rfl
  obtain ⟨j, bcc⟩ := q; obtain ⟨hij, hj, hbcc⟩ := hq; simp only at hij hj hbcc; have hblen : bcc.length ≤ 40000 := by have h1 := congrArg List.length hbcc; have h2 := congrArg List.length hacc; simp only [List.length_append] at h1 h2; omega
  refine W.seq ?_; refine W.sO tb_ok ?_; refine W.if_ _ rfl (fun e => W.skip ?_) (fun e => W.exit ?_)
  case refine_2 =>
    have hj2 : j = l.length := by have := of_decide_eq_false e; omega
    subst hj2; rw [Nat.sub_self, edgesSeg, List.append_nil] at hbcc; subst hbcc; refine W.rO tb_ok ?_; refine ⟨(i + 1, acc ++ edgesFrom l i), ⟨hil, hacc⟩, Le.to [0] hcx rfl ⟨?_, rfl, rfl, rfl, rfl⟩, by show _ - (i + 1) < _ - i; omega⟩; show S.ren _ (S.one (.int .i64 (IntKind.i64.wrap (↑i + 1)))) = _; rw [hw]; rfl
  have ej : j < l.length := by have := of_decide_eq_true e; omega
  have hd := o81 (g24 ((l.map f24).getD i (K.zero kIns))) (g24 ((l.map f24).getD j (K.zero kIns))) (by rw [at24 l i (by omega)]; exact okA_L ho i (by omega)) (by rw [at24 l j ej]; exact okA_L ho j ej); have hdv : dist (g24 ((l.map f24).getD i (K.zero kIns))) (g24 ((l.map f24).getD j (K.zero kIns))) = dist (J24 l i) (J24 l j) := by rw [at24 l i (by omega), at24 l j ej]; rfl
  rw [hdv] at hd; rw [show l.length - j = (l.length - (j + 1)) + 1 by omega, edgesSeg, ← List.append_assoc] at hbcc; refine W.seq (W.block ?_); refine W.aO [10] tb_ok ?_; refine W.sO tb_ok ?_; have hb : rowB 24 ((bcc.map f100).length + 1) := by rw [List.length_map]; show _ * _ ≤ _; omega
  have hwj : IntKind.i64.wrap ((j : Int) + 1) = ((j + 1 : Nat) : Int) := IntWalk.i64_in _ (by omega); generalize dist (J24 l i) (J24 l j) = d at hbcc ⊢; refine W.if_ _ rfl (fun h => ?_) (fun h => W.skip ?_)
  · replace h := of_decide_eq_true h; rw [if_pos (by omega)] at hbcc; refine W.rO tb_ok ?_; refine W.rO tb_ok ?_; refine ⟨(j + 1, bcc ++ [⟨i, j, d⟩]), ⟨by show i < j + 1; omega, ej, hbcc⟩, Le.to [1] hcx rfl ⟨rfl, ?_, rfl, rfl, ?_, rfl⟩, by show _ - (j + 1) < _ - j; omega⟩
    · show S.ren _ (S.one (.int .i64 (IntKind.i64.wrap (↑j + 1)))) = _; rw [hwj]; rfl
    · rw [List.map_append]; rfl
  · replace h := of_decide_eq_false h; rw [if_neg (by omega), List.append_nil] at hbcc; refine W.rO tb_ok ?_; refine ⟨(j + 1, bcc), ⟨by show i < j + 1; omega, ej, hbcc⟩, Le.to [0] hcx rfl ⟨rfl, ?_, rfl, rfl, rfl, rfl⟩, by show _ - (j + 1) < _ - j; omega⟩
    · show S.ren _ (S.one (.int .i64 (IntKind.i64.wrap (↑j + 1)))) = _; rw [hwj]; rfl
end Go.Den
end
section
-- the texts that this claim needs, out of this session's and its print's (wip/shrink.py)
namespace Go.Den
open Go Go.RowKit Go.Proofs Go.Proofs.YtibfkkjkahpobaaGreatW.PrintWords Go.Proofs.YtibfkkjkahpobaaGreat.PDag
theorem plain_cond (o z e : Bool) : (bif (bif !o then true else z) then true else e) = !(o && (!e && !z)) := by cases o <;> cases z <;> cases e <;> rfl
theorem plain_false {l : List S24} {i : Nat} (h : i < l.length) (hp : plainI (J24 l i) = false) : mayL l = false := by
  rw [rd_at l i h] at hp
  cases hm : mayL l with
  | false => rfl
  | true => have := (mayL_parts hm).2 _ (List.getElem_mem h); rw [this] at hp; cases hp
theorem plain_all {l : List S24} (h : ∀ i : Nat, i < l.length → plainI (J24 l i) = true) : allPlain l = true := by
  unfold allPlain; rw [List.all_eq_true]; intro x hx; obtain ⟨i, hi, rfl⟩ := List.getElem_of_mem hx; have := h i hi; rw [rd_at l i hi] at this; exact this
theorem o12 (l : List S24) (hl : l.length ≤ 1000000000) : CallStep Tryz.prog 12 [.one (.row 24 kIns (l.map f24))] [] (.one (.bool (mayL l))) [] := by
  have hL : (l.map f24).length = l.length := List.length_map ..; refine CallStep.intro' (n := 39) (n0 := 0) (rs := [.tmp 2]) tb_ok Tryz.func12 (by kernel_rfl) rfl rfl rfl rfl rfl fun cx hcx => ?_; refine W.sO tb_ok ?_; refine W.seq ?_; refine W.sO tb_ok ?_; refine W.block (W.loop (fun i : Nat => ⟨[(3, .one (.int .i64 i)), (0, .one (.row 24 kIns (l.map f24)))], [], 39⟩) (fun i => l.length - i) (fun i => i ≤ l.length ∧ i ≤ 201 ∧ ∀ j : Nat, j < i → plainI (J24 l j) = true) 0 ⟨Nat.zero_le _, Nat.zero_le _, fun j h => absurd h (Nat.not_lt_zero _)⟩ (Le.to [] hcx rfl ⟨rfl, rfl, rfl, rfl⟩) fun i hi => ?_); obtain ⟨hi, h201, hp⟩ := hi; refine W.seq ?_; refine W.sO tb_ok ?_
  have hcc : (bif decide ((i : Int) < ((l.map f24).length : Int)) then decide ((i : Int) ≤ 200) else false) = decide (i < l.length ∧ i ≤ 200) := by
    rw [hL]; by_cases h1 : i < l.length <;> by_cases h2 : i ≤ 200 <;> simp [h1, h2] <;> omega
  refine W.if_ _ rfl (fun e => W.skip ?_) (fun e => W.exit ?_)
  case refine_2 =>
    have e1 := of_decide_eq_false (hcc.symm.trans e); refine W.sO tb_ok ?_; refine W.ret (endL1 (tb := tb) (n0 := 0) ?_ rfl rfl rfl); refine congrArg (fun b => S.one (C.bool b)) ?_; unfold mayL
    by_cases h : l.length ≤ 200
    · rw [decide_eq_true h, plain_all fun j hj => hp j (by omega)]; exact decide_eq_true (by omega)
    · rw [decide_eq_false h]; exact decide_eq_false (by omega)
  obtain ⟨e1, e2⟩ := of_decide_eq_true (hcc.symm.trans e); have hy := at24 l i e1; have h38 := o38 (g24 ((l.map f24).getD i (K.zero kIns))); rw [show okI (g24 ((l.map f24).getD i (K.zero kIns))) = okI (J24 l i) by rw [hy]; rfl] at h38; have h39 := o39 ((l.map f24).getD i (K.zero kIns)).1; rw [show endsOp ((l.map f24).getD i (K.zero kIns)).1 = endsOp (J24 l i).f0 by rw [hy]; rfl] at h39; refine W.seq (W.block ?_); refine W.sO tb_ok ?_; have hpc : (bif (bif !okI (J24 l i) then true else ((l.map f24).getD i (K.zero kIns)).1 == 0) then true else endsOp (J24 l i).f0) = !plainI (J24 l i) := by rw [plain_cond, hy]; rfl
  refine W.if_ _ rfl (fun e3 => ?_) (fun e3 => W.skip ?_)
  · have e4 := hpc.symm.trans e3; rw [Bool.not_eq_true'] at e4; rw [plain_false e1 e4]; refine W.sO tb_ok ?_; exact W.ret (endL1 (tb := tb) (n0 := 0) rfl rfl rfl rfl)
  · have e4 := hpc.symm.trans e3; rw [Bool.not_eq_false'] at e4; refine W.rO tb_ok ?_; refine ⟨i + 1, ⟨e1, by omega, fun j hj => (by rcases Nat.eq_or_lt_of_le (Nat.le_of_lt_succ hj) with h | h; rw [h]; exact e4; exact hp j h)⟩, Le.to [] hcx rfl ⟨?_, rfl, rfl, rfl⟩, by omega⟩; show S.ren _ (S.one (.int .i64 (IntKind.i64.wrap (↑i + 1)))) = _; rw [IntWalk.i64_in _ (by omega)]; rfl
def slotsL (op : Int) : List Int := if op == 0 then [0, 1, 2, 3] else if (bif (bif op == 18 then true else op == 19) then true else op == 21) = true then [1] else if (bif decide (14 ≤ op ∧ op ≤ 17) then true else op == 20) = true then [3] else if decide (24 ≤ op ∧ op ≤ 27) = true then [2] else if endsOp op = true then [0] else [0, 1]
theorem btw_eq (n a b : Int) : r0_Between.f n a b = some (decide (a ≤ n ∧ n ≤ b)) := by
  unfold r0_Between.f
  by_cases h : n ≥ a
  · rw [if_pos h]; congr 1; by_cases h2 : n ≤ b <;> simp [h2] <;> omega
  · rw [if_neg h]; congr 1; symm; rw [decide_eq_false_iff_not]; omega
theorem o76 (n a b : Int) : CallStep Tryz.prog 76 [.one (.int .i64 n), .one (.int .i64 a), .one (.int .i64 b)] [] (.one (.bool (decide (a ≤ n ∧ n ≤ b)))) [] := mkF 76 #[.int .i64 n, .int .i64 a, .int .i64 b] (.bool _) rfl rfl ⟨_, _, Tryz.func76, by kernel_rfl, rfl⟩ fun w => (r0_Between.calls n a b _ w (btw_eq n a b)).mono fun _ _ h => ⟨h.1, h.2.below⟩
theorem o82 (op : Int) : CallStep Tryz.prog 82 [.one (.int .i64 op)] [] (.one (.row 3 kI (slotsL op))) [] := by
  refine CallStep.froz (s := .one (.own 0)) (H1 := [.row 3 kI (slotsL op)]) ?_ rfl; refine CallStep.intro' (n := 36) (n0 := 0) (rs := [.tmp 2]) tb_ok Tryz.func82 (by kernel_rfl) rfl rfl rfl rfl rfl fun cx hcx => ?_; refine W.sO tb_ok ?_; refine W.seq (W.block ?_); unfold slotsL; refine W.sO tb_ok ?_; refine W.if_ _ rfl (fun e => ?_) (fun e => ?_)
  · rw [if_pos e]; refine W.sO tb_ok ?_; exact W.ret ⟨trivial, [1], rfl, rfl, rfl⟩
  rw [if_neg (by rw [e]; exact Bool.false_ne_true)]; refine W.sO tb_ok ?_; refine W.if_ _ rfl (fun e => ?_) (fun e => ?_)
  · rw [if_pos e]; refine W.sO tb_ok ?_; exact W.ret ⟨trivial, [1], rfl, rfl, rfl⟩
  rw [if_neg (by rw [e]; exact Bool.false_ne_true)]; have q0_ := o76 op 14 17; refine W.sO tb_ok ?_; refine W.if_ _ rfl (fun e => ?_) (fun e => ?_)
  · rw [if_pos e]; refine W.sO tb_ok ?_; exact W.ret ⟨trivial, [1], rfl, rfl, rfl⟩
  rw [if_neg (by rw [e]; exact Bool.false_ne_true)]; have q0_ := o76 op 24 27; refine W.sO tb_ok ?_; refine W.if_ _ rfl (fun e => ?_) (fun e => ?_)
  · rw [if_pos e]; refine W.sO tb_ok ?_; exact W.ret ⟨trivial, [1], rfl, rfl, rfl⟩
  rw [if_neg (by rw [e]; exact Bool.false_ne_true)]; have q0_ := o39 op; refine W.sO tb_ok ?_; refine W.if_ _ rfl (fun e => ?_) (fun e => ?_)
  · rw [if_pos e]; refine W.sO tb_ok ?_; exact W.ret ⟨trivial, [1], rfl, rfl, rfl⟩
  rw [if_neg (by rw [e]; exact Bool.false_ne_true)]; refine W.skip ?_; refine W.sO tb_ok ?_; exact W.ret ⟨trivial, [1], rfl, rfl, rfl⟩
theorem in_any (l : List Int) (hl : l.length ≤ 4) (v : Int) : ∃ r, r0_In.f 5 l v = some r ∧ (decide (r ≥ 0) = l.any (fun r => v == r)) := by
  unfold r0_In.f; have := in_loop l (by omega) v l.length 5 0 (by omega) (by omega); simpa using this
theorem slots_len (op : Int) : (slotsL op).length ≤ 4 := by unfold slotsL; repeat' (first | decide | split)
theorem slots_any (op s : Int) (h0 : 0 ≤ op) (h1 : op ≤ 33) (s0 : 0 ≤ s) (s1 : s ≤ 3) : (slotsL op).any (fun r => s == r) = mayOp op s := by
  have hs : s = 0 ∨ s = 1 ∨ s = 2 ∨ s = 3 := by omega
  rcases hs with rfl | rfl | rfl | rfl
  · exact upto34 (p := fun op => (slotsL op).any (fun r => (0 : Int) == r) = mayOp op 0) (by decide +kernel) op h0 h1
  · exact upto34 (p := fun op => (slotsL op).any (fun r => (1 : Int) == r) = mayOp op 1) (by decide +kernel) op h0 h1
  · exact upto34 (p := fun op => (slotsL op).any (fun r => (2 : Int) == r) = mayOp op 2) (by decide +kernel) op h0 h1
  · exact upto34 (p := fun op => (slotsL op).any (fun r => (3 : Int) == r) = mayOp op 3) (by decide +kernel) op h0 h1
theorem o46 (op s : Int) (h0 : 0 ≤ op ∧ op ≤ 33) (hs : 0 ≤ s ∧ s ≤ 3) : CallStep Tryz.prog 46 [.one (.int .i64 op), .one (.int .i64 s)] [] (.one (.bool (mayOp op s))) [] := by
  obtain ⟨r, e1, q1⟩ := in_any (slotsL op) (slots_len op) s; have h66 := o66 op; rw [decide_eq_true h0] at h66; refine CallStep.intro' (n := 14) (n0 := 0) (rs := [.tmp 4]) tb_ok Tryz.func46 (by kernel_rfl) rfl rfl rfl rfl rfl fun cx hcx => ?_; refine W.sO tb_ok ?_; have q0_ := o82 op; have q1_ := o78 (slotsL op) s r e1; refine W.sO tb_ok ?_; refine W.ret (endL1 (tb := tb) (n0 := 0) ?_ rfl rfl rfl); rw [← slots_any op s h0.1 h0.2 hs.1 hs.2, ← q1]; rfl
end Go.Den
end

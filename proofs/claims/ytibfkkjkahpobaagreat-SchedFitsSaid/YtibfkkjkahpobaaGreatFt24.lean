import Derived.Test.YtibfkkjkahpobaaGreatFt23
import Derived.Test.YtibfkkjkahpobaaGreatFt17
import Derived.Test.YtibfkkjkahpobaaGreatFt15
import Derived.Test.YtibfkkjkahpobaaGreatFt16
set_option linter.unusedVariables false
set_option linter.unusedSimpArgs false
set_option maxHeartbeats 8000000
set_option maxRecDepth 100000
section
-- the texts that this claim needs, out of this session's and its print's (wip/shrink.py)
namespace Go.Den
open Go Go.RowKit Go.Proofs
theorem eqv24 {cs ds : List C} {r : Bool} (h : eqZ [.int .i64 0, .int .i64 0, .int .i64 0, .int .i64 0, .int .i64 0, .string ⟨#[]⟩] cs ds = some r) : Tryz.prog.eqGuardType Tryz.prog.depth 24 = false ∧ ∀ {U ρ h w xs ys}, All2 (CR U ρ h w) cs xs → All2 (CR U ρ h w) ds ys → (Op.equal 24 (.agg xs.toArray) (.agg ys.toArray)).run Tryz.prog w = .ok r w := by
  refine ⟨by kernel_rfl, fun {U ρ h' w xs ys} hx hy => ?_⟩; obtain ⟨a0, b0, l0, m0, r0, rfl, rfl, h0, rfl⟩ := eqZ_int h; obtain ⟨a1, b1, l1, m1, r1, rfl, rfl, h1, rfl⟩ := eqZ_int h0; obtain ⟨a2, b2, l2, m2, r2, rfl, rfl, h2, rfl⟩ := eqZ_int h1; obtain ⟨a3, b3, l3, m3, r3, rfl, rfl, h3, rfl⟩ := eqZ_int h2; obtain ⟨a4, b4, l4, m4, r4, rfl, rfl, h4, rfl⟩ := eqZ_int h3; obtain ⟨a5, b5, l5, m5, r5, rfl, rfl, h5, rfl⟩ := eqZ_str h4; obtain ⟨rfl, rfl, rfl⟩ := eqZ_nil h5; obtain ⟨v0, xs, rfl, e0, hx⟩ := hx.left_cons; obtain ⟨v1, xs, rfl, e1, hx⟩ := hx.left_cons; obtain ⟨v2, xs, rfl, e2, hx⟩ := hx.left_cons; obtain ⟨v3, xs, rfl, e3, hx⟩ := hx.left_cons; obtain ⟨v4, xs, rfl, e4, hx⟩ := hx.left_cons; obtain ⟨v5, xs, rfl, e5, hx⟩ := hx.left_cons; obtain rfl := hx.left_nil; obtain ⟨u0, ys, rfl, d0, hy⟩ := hy.left_cons; obtain ⟨u1, ys, rfl, d1, hy⟩ := hy.left_cons; obtain ⟨u2, ys, rfl, d2, hy⟩ := hy.left_cons; obtain ⟨u3, ys, rfl, d3, hy⟩ := hy.left_cons; obtain ⟨u4, ys, rfl, d4, hy⟩ := hy.left_cons; obtain ⟨u5, ys, rfl, d5, hy⟩ := hy.left_cons; obtain rfl := hy.left_nil; rw [show v0 = _ from e0, show v1 = _ from e1, show v2 = _ from e2, show v3 = _ from e3, show v4 = _ from e4, show v5 = _ from e5, show u0 = _ from d0, show u1 = _ from d1, show u2 = _ from d2, show u3 = _ from d3, show u4 = _ from d4, show u5 = _ from d5]; rw [Bool.and_true]; exact Go.Proofs.YtibfkkjkahpobaaGreat.PDag.eqA24 9998 w a0 b0 a1 b1 a2 b2 a3 b3 a4 b4 a5 b5
def ti3 : TI := ⟨.int .i64, 1, 8, [.int .i64 0], some (.int .i64), q0⟩
theorem ti3_ok : TOk Tryz.prog 3 ti3 := ⟨by kernel_rfl, by kernel_rfl, by decide +kernel, rfl, fun k hk => by cases hk <;> exact ⟨rfl, rfl⟩, fun h => by cases h⟩
def ti4 : TI := ⟨.bool, 1, 1, [.bool false], some (.bool), q0⟩
theorem ti4_ok : TOk Tryz.prog 4 ti4 := ⟨by kernel_rfl, by kernel_rfl, by decide +kernel, rfl, fun k hk => by cases hk <;> exact ⟨rfl, rfl⟩, fun h => by cases h⟩
def ti9 : TI := ⟨.str, 1, 16, [.string ⟨#[]⟩], some (.str), q0⟩
theorem ti9_ok : TOk Tryz.prog 9 ti9 := ⟨by kernel_rfl, by kernel_rfl, by decide +kernel, rfl, fun k hk => by cases hk <;> exact ⟨rfl, rfl⟩, fun h => by cases h⟩
def ti24 : TI := ⟨.st [(0, 3), (1, 3), (2, 3), (3, 3), (4, 3), (5, 9)], 6, 56, [.int .i64 0, .int .i64 0, .int .i64 0, .int .i64 0, .int .i64 0, .string ⟨#[]⟩], some (.pair (.int .i64) (.pair (.int .i64) (.pair (.int .i64) (.pair (.int .i64) (.pair (.int .i64) (.pair .str .unit)))))), eqZ [.int .i64 0, .int .i64 0, .int .i64 0, .int .i64 0, .int .i64 0, .string ⟨#[]⟩]⟩
theorem ti24_ok : TOk Tryz.prog 24 ti24 := ⟨by kernel_rfl, by kernel_rfl, by decide +kernel, rfl, fun k hk => by cases hk <;> exact ⟨rfl, rfl⟩, eqv24⟩
def ti25 : TI := ⟨.slice 3, 1, 24, [.slice none 0 0], some (.row 3 (.int .i64)), q0⟩
theorem ti25_ok : TOk Tryz.prog 25 ti25 := ⟨by kernel_rfl, by kernel_rfl, by decide +kernel, rfl, fun k hk => by cases hk <;> exact ⟨rfl, rfl⟩, fun h => by cases h⟩
def ti22 : TI := ⟨.slice 24, 1, 24, [.slice none 0 0], some (.row 24 (.pair (.int .i64) (.pair (.int .i64) (.pair (.int .i64) (.pair (.int .i64) (.pair (.int .i64) (.pair .str .unit))))))), q0⟩
theorem ti22_ok : TOk Tryz.prog 22 ti22 := ⟨by kernel_rfl, by kernel_rfl, by decide +kernel, rfl, fun k hk => by cases hk <;> exact ⟨rfl, rfl⟩, fun h => by cases h⟩
def ti28 : TI := ⟨.slice 9, 1, 24, [.slice none 0 0], some (.row 9 (.str)), q0⟩
theorem ti28_ok : TOk Tryz.prog 28 ti28 := ⟨by kernel_rfl, by kernel_rfl, by decide +kernel, rfl, fun k hk => by cases hk <;> exact ⟨rfl, rfl⟩, fun h => by cases h⟩
def ti41 : TI := ⟨.st [(0, 28), (1, 22), (2, 24)], 8, 104, [.slice none 0 0, .slice none 0 0, .int .i64 0, .int .i64 0, .int .i64 0, .int .i64 0, .int .i64 0, .string ⟨#[]⟩], some (.pair (.row 9 (.str)) (.pair (.row 24 (.pair (.int .i64) (.pair (.int .i64) (.pair (.int .i64) (.pair (.int .i64) (.pair (.int .i64) (.pair .str .unit))))))) (.pair (.pair (.int .i64) (.pair (.int .i64) (.pair (.int .i64) (.pair (.int .i64) (.pair (.int .i64) (.pair .str .unit)))))) (.unit)))), q0⟩
theorem ti41_ok : TOk Tryz.prog 41 ti41 := ⟨by kernel_rfl, by kernel_rfl, by decide +kernel, rfl, fun k hk => by cases hk <;> exact ⟨rfl, rfl⟩, fun h => by cases h⟩
def ti32 : TI := ⟨.slice 41, 1, 24, [.slice none 0 0], some (.row 41 (.pair (.row 9 (.str)) (.pair (.row 24 (.pair (.int .i64) (.pair (.int .i64) (.pair (.int .i64) (.pair (.int .i64) (.pair (.int .i64) (.pair .str .unit))))))) (.pair (.pair (.int .i64) (.pair (.int .i64) (.pair (.int .i64) (.pair (.int .i64) (.pair (.int .i64) (.pair .str .unit)))))) (.unit))))), q0⟩
theorem ti32_ok : TOk Tryz.prog 32 ti32 := ⟨by kernel_rfl, by kernel_rfl, by decide +kernel, rfl, fun k hk => by cases hk <;> exact ⟨rfl, rfl⟩, fun h => by cases h⟩
def ti43 : TI := ⟨.int .i64, 1, 8, [.int .i64 0], some (.int .i64), q0⟩
theorem ti43_ok : TOk Tryz.prog 43 ti43 := ⟨by kernel_rfl, by kernel_rfl, by decide +kernel, rfl, fun k hk => by cases hk <;> exact ⟨rfl, rfl⟩, fun h => by cases h⟩
def ti62 : TI := ⟨.arr 4 24, 24, 224, [.int .i64 0, .int .i64 0, .int .i64 0, .int .i64 0, .int .i64 0, .string ⟨#[]⟩, .int .i64 0, .int .i64 0, .int .i64 0, .int .i64 0, .int .i64 0, .string ⟨#[]⟩, .int .i64 0, .int .i64 0, .int .i64 0, .int .i64 0, .int .i64 0, .string ⟨#[]⟩, .int .i64 0, .int .i64 0, .int .i64 0, .int .i64 0, .int .i64 0, .string ⟨#[]⟩], some (.pair (.pair (.int .i64) (.pair (.int .i64) (.pair (.int .i64) (.pair (.int .i64) (.pair (.int .i64) (.pair .str .unit)))))) (.pair (.pair (.int .i64) (.pair (.int .i64) (.pair (.int .i64) (.pair (.int .i64) (.pair (.int .i64) (.pair .str .unit)))))) (.pair (.pair (.int .i64) (.pair (.int .i64) (.pair (.int .i64) (.pair (.int .i64) (.pair (.int .i64) (.pair .str .unit)))))) (.pair (.pair (.int .i64) (.pair (.int .i64) (.pair (.int .i64) (.pair (.int .i64) (.pair (.int .i64) (.pair .str .unit)))))) .unit)))), q0⟩
theorem ti62_ok : TOk Tryz.prog 62 ti62 := ⟨by kernel_rfl, by kernel_rfl, by decide +kernel, rfl, fun k hk => by cases hk <;> exact ⟨rfl, rfl⟩, fun h => by cases h⟩
def ti35 : TI := ⟨.slice 62, 1, 24, [.slice none 0 0], some (.row 62 (.pair (.pair (.int .i64) (.pair (.int .i64) (.pair (.int .i64) (.pair (.int .i64) (.pair (.int .i64) (.pair .str .unit)))))) (.pair (.pair (.int .i64) (.pair (.int .i64) (.pair (.int .i64) (.pair (.int .i64) (.pair (.int .i64) (.pair .str .unit)))))) (.pair (.pair (.int .i64) (.pair (.int .i64) (.pair (.int .i64) (.pair (.int .i64) (.pair (.int .i64) (.pair .str .unit)))))) (.pair (.pair (.int .i64) (.pair (.int .i64) (.pair (.int .i64) (.pair (.int .i64) (.pair (.int .i64) (.pair .str .unit)))))) .unit))))), q0⟩
theorem ti35_ok : TOk Tryz.prog 35 ti35 := ⟨by kernel_rfl, by kernel_rfl, by decide +kernel, rfl, fun k hk => by cases hk <;> exact ⟨rfl, rfl⟩, fun h => by cases h⟩
def ti59 : TI := ⟨.slice 35, 1, 24, [.slice none 0 0], some (.row 35 (.row 62 (.pair (.pair (.int .i64) (.pair (.int .i64) (.pair (.int .i64) (.pair (.int .i64) (.pair (.int .i64) (.pair .str .unit)))))) (.pair (.pair (.int .i64) (.pair (.int .i64) (.pair (.int .i64) (.pair (.int .i64) (.pair (.int .i64) (.pair .str .unit)))))) (.pair (.pair (.int .i64) (.pair (.int .i64) (.pair (.int .i64) (.pair (.int .i64) (.pair (.int .i64) (.pair .str .unit)))))) (.pair (.pair (.int .i64) (.pair (.int .i64) (.pair (.int .i64) (.pair (.int .i64) (.pair (.int .i64) (.pair .str .unit)))))) .unit)))))), q0⟩
theorem ti59_ok : TOk Tryz.prog 59 ti59 := ⟨by kernel_rfl, by kernel_rfl, by decide +kernel, rfl, fun k hk => by cases hk <;> exact ⟨rfl, rfl⟩, fun h => by cases h⟩
def ti61 : TI := ⟨.arr 4 24, 24, 224, [.int .i64 0, .int .i64 0, .int .i64 0, .int .i64 0, .int .i64 0, .string ⟨#[]⟩, .int .i64 0, .int .i64 0, .int .i64 0, .int .i64 0, .int .i64 0, .string ⟨#[]⟩, .int .i64 0, .int .i64 0, .int .i64 0, .int .i64 0, .int .i64 0, .string ⟨#[]⟩, .int .i64 0, .int .i64 0, .int .i64 0, .int .i64 0, .int .i64 0, .string ⟨#[]⟩], some (.pair (.pair (.int .i64) (.pair (.int .i64) (.pair (.int .i64) (.pair (.int .i64) (.pair (.int .i64) (.pair .str .unit)))))) (.pair (.pair (.int .i64) (.pair (.int .i64) (.pair (.int .i64) (.pair (.int .i64) (.pair (.int .i64) (.pair .str .unit)))))) (.pair (.pair (.int .i64) (.pair (.int .i64) (.pair (.int .i64) (.pair (.int .i64) (.pair (.int .i64) (.pair .str .unit)))))) (.pair (.pair (.int .i64) (.pair (.int .i64) (.pair (.int .i64) (.pair (.int .i64) (.pair (.int .i64) (.pair .str .unit)))))) .unit)))), q0⟩
theorem ti61_ok : TOk Tryz.prog 61 ti61 := ⟨by kernel_rfl, by kernel_rfl, by decide +kernel, rfl, fun k hk => by cases hk <;> exact ⟨rfl, rfl⟩, fun h => by cases h⟩
def ti100 : TI := ⟨.st [(0, 3), (1, 3), (2, 3)], 3, 24, [.int .i64 0, .int .i64 0, .int .i64 0], some (.pair (.int .i64) (.pair (.int .i64) (.pair (.int .i64) (.unit)))), q0⟩
theorem ti100_ok : TOk Tryz.prog 100 ti100 := ⟨by kernel_rfl, by kernel_rfl, by decide +kernel, rfl, fun k hk => by cases hk <;> exact ⟨rfl, rfl⟩, fun h => by cases h⟩
def ti88 : TI := ⟨.slice 100, 1, 24, [.slice none 0 0], some (.row 100 (.pair (.int .i64) (.pair (.int .i64) (.pair (.int .i64) (.unit))))), q0⟩
theorem ti88_ok : TOk Tryz.prog 88 ti88 := ⟨by kernel_rfl, by kernel_rfl, by decide +kernel, rfl, fun k hk => by cases hk <;> exact ⟨rfl, rfl⟩, fun h => by cases h⟩
def ti77 : TI := ⟨.slice 88, 1, 24, [.slice none 0 0], some (.row 88 (.row 100 (.pair (.int .i64) (.pair (.int .i64) (.pair (.int .i64) (.unit)))))), q0⟩
theorem ti77_ok : TOk Tryz.prog 77 ti77 := ⟨by kernel_rfl, by kernel_rfl, by decide +kernel, rfl, fun k hk => by cases hk <;> exact ⟨rfl, rfl⟩, fun h => by cases h⟩
def ti79 : TI := ⟨.st [(0, 22), (1, 77), (2, 25), (3, 25), (4, 25), (5, 25), (6, 3)], 7, 152, [.slice none 0 0, .slice none 0 0, .slice none 0 0, .slice none 0 0, .slice none 0 0, .slice none 0 0, .int .i64 0], some (.pair (.row 24 (.pair (.int .i64) (.pair (.int .i64) (.pair (.int .i64) (.pair (.int .i64) (.pair (.int .i64) (.pair .str .unit))))))) (.pair (.row 88 (.row 100 (.pair (.int .i64) (.pair (.int .i64) (.pair (.int .i64) (.unit)))))) (.pair (.row 3 (.int .i64)) (.pair (.row 3 (.int .i64)) (.pair (.row 3 (.int .i64)) (.pair (.row 3 (.int .i64)) (.pair (.int .i64) (.unit)))))))), q0⟩
theorem ti79_ok : TOk Tryz.prog 79 ti79 := ⟨by kernel_rfl, by kernel_rfl, by decide +kernel, rfl, fun k hk => by cases hk <;> exact ⟨rfl, rfl⟩, fun h => by cases h⟩
def ti75 : TI := ⟨.ptr 79, 1, 8, [.pointer none], none, q0⟩
theorem ti75_ok : TOk Tryz.prog 75 ti75 := ⟨by kernel_rfl, by kernel_rfl, by decide +kernel, rfl, fun k hk => by cases hk <;> exact ⟨rfl, rfl⟩, fun h => by cases h⟩
def ti98 : TI := ⟨.st [(0, 3), (1, 3)], 2, 16, [.int .i64 0, .int .i64 0], some (.pair (.int .i64) (.pair (.int .i64) (.unit))), q0⟩
theorem ti98_ok : TOk Tryz.prog 98 ti98 := ⟨by kernel_rfl, by kernel_rfl, by decide +kernel, rfl, fun k hk => by cases hk <;> exact ⟨rfl, rfl⟩, fun h => by cases h⟩
def ti94 : TI := ⟨.slice 98, 1, 24, [.slice none 0 0], some (.row 98 (.pair (.int .i64) (.pair (.int .i64) (.unit)))), q0⟩
theorem ti94_ok : TOk Tryz.prog 94 ti94 := ⟨by kernel_rfl, by kernel_rfl, by decide +kernel, rfl, fun k hk => by cases hk <;> exact ⟨rfl, rfl⟩, fun h => by cases h⟩
def ti93 : TI := ⟨.int .u64, 1, 8, [.int .u64 0], some (.int .u64), q0⟩
theorem ti93_ok : TOk Tryz.prog 93 ti93 := ⟨by kernel_rfl, by kernel_rfl, by decide +kernel, rfl, fun k hk => by cases hk <;> exact ⟨rfl, rfl⟩, fun h => by cases h⟩
def ti5 : TI := ⟨.int .u8, 1, 1, [.int .u8 0], some (.int .u8), q0⟩
theorem ti5_ok : TOk Tryz.prog 5 ti5 := ⟨by kernel_rfl, by kernel_rfl, by decide +kernel, rfl, fun k hk => by cases hk <;> exact ⟨rfl, rfl⟩, fun h => by cases h⟩
def ti132 : TI := ⟨.st [(0, 9), (1, 24)], 7, 72, [.string ⟨#[]⟩, .int .i64 0, .int .i64 0, .int .i64 0, .int .i64 0, .int .i64 0, .string ⟨#[]⟩], some (.pair .str (.pair (.pair (.int .i64) (.pair (.int .i64) (.pair (.int .i64) (.pair (.int .i64) (.pair (.int .i64) (.pair .str .unit)))))) (.unit))), q0⟩
theorem ti132_ok : TOk Tryz.prog 132 ti132 := ⟨by kernel_rfl, by kernel_rfl, by decide +kernel, rfl, fun k hk => by cases hk <;> exact ⟨rfl, rfl⟩, fun h => by cases h⟩
def ti118 : TI := ⟨.slice 132, 1, 24, [.slice none 0 0], some (.row 132 (.pair .str (.pair (.pair (.int .i64) (.pair (.int .i64) (.pair (.int .i64) (.pair (.int .i64) (.pair (.int .i64) (.pair .str .unit)))))) (.unit)))), q0⟩
theorem ti118_ok : TOk Tryz.prog 118 ti118 := ⟨by kernel_rfl, by kernel_rfl, by decide +kernel, rfl, fun k hk => by cases hk <;> exact ⟨rfl, rfl⟩, fun h => by cases h⟩
def ti134 : TI := ⟨.st [(0, 9), (1, 3)], 2, 24, [.string ⟨#[]⟩, .int .i64 0], some (.pair .str (.pair (.int .i64) (.unit))), q0⟩
theorem ti134_ok : TOk Tryz.prog 134 ti134 := ⟨by kernel_rfl, by kernel_rfl, by decide +kernel, rfl, fun k hk => by cases hk <;> exact ⟨rfl, rfl⟩, fun h => by cases h⟩
def ti119 : TI := ⟨.slice 134, 1, 24, [.slice none 0 0], some (.row 134 (.pair .str (.pair (.int .i64) (.unit)))), q0⟩
theorem ti119_ok : TOk Tryz.prog 119 ti119 := ⟨by kernel_rfl, by kernel_rfl, by decide +kernel, rfl, fun k hk => by cases hk <;> exact ⟨rfl, rfl⟩, fun h => by cases h⟩
def ti136 : TI := ⟨.st [(0, 9), (1, 4), (2, 3), (3, 4)], 4, 40, [.string ⟨#[]⟩, .bool false, .int .i64 0, .bool false], some (.pair .str (.pair .bool (.pair (.int .i64) (.pair .bool .unit)))), q0⟩
theorem ti136_ok : TOk Tryz.prog 136 ti136 := ⟨by kernel_rfl, by kernel_rfl, by decide +kernel, rfl, fun k hk => by cases hk <;> exact ⟨rfl, rfl⟩, fun h => by cases h⟩
def ti120 : TI := ⟨.slice 136, 1, 24, [.slice none 0 0], some (.row 136 (.pair .str (.pair .bool (.pair (.int .i64) (.pair .bool .unit))))), q0⟩
theorem ti120_ok : TOk Tryz.prog 120 ti120 := ⟨by kernel_rfl, by kernel_rfl, by decide +kernel, rfl, fun k hk => by cases hk <;> exact ⟨rfl, rfl⟩, fun h => by cases h⟩
def ti122 : TI := ⟨.st [(0, 118), (1, 119), (2, 120), (3, 28)], 4, 96, [.slice none 0 0, .slice none 0 0, .slice none 0 0, .slice none 0 0], some (.pair (.row 132 (.pair .str (.pair (.pair (.int .i64) (.pair (.int .i64) (.pair (.int .i64) (.pair (.int .i64) (.pair (.int .i64) (.pair .str .unit)))))) (.unit)))) (.pair (.row 134 (.pair .str (.pair (.int .i64) (.unit)))) (.pair (.row 136 (.pair .str (.pair .bool (.pair (.int .i64) (.pair .bool .unit))))) (.pair (.row 9 (.str)) (.unit))))), q0⟩
theorem ti122_ok : TOk Tryz.prog 122 ti122 := ⟨by kernel_rfl, by kernel_rfl, by decide +kernel, rfl, fun k hk => by cases hk <;> exact ⟨rfl, rfl⟩, fun h => by cases h⟩
def ti29 : TI := ⟨.slice 122, 1, 24, [.slice none 0 0], some (.row 122 (.pair (.row 132 (.pair .str (.pair (.pair (.int .i64) (.pair (.int .i64) (.pair (.int .i64) (.pair (.int .i64) (.pair (.int .i64) (.pair .str .unit)))))) (.unit)))) (.pair (.row 134 (.pair .str (.pair (.int .i64) (.unit)))) (.pair (.row 136 (.pair .str (.pair .bool (.pair (.int .i64) (.pair .bool .unit))))) (.pair (.row 9 (.str)) (.unit)))))), q0⟩
theorem ti29_ok : TOk Tryz.prog 29 ti29 := ⟨by kernel_rfl, by kernel_rfl, by decide +kernel, rfl, fun k hk => by cases hk <;> exact ⟨rfl, rfl⟩, fun h => by cases h⟩
def ti31 : TI := ⟨.st [(0, 28), (1, 29)], 2, 48, [.slice none 0 0, .slice none 0 0], some (.pair (.row 9 (.str)) (.pair (.row 122 (.pair (.row 132 (.pair .str (.pair (.pair (.int .i64) (.pair (.int .i64) (.pair (.int .i64) (.pair (.int .i64) (.pair (.int .i64) (.pair .str .unit)))))) (.unit)))) (.pair (.row 134 (.pair .str (.pair (.int .i64) (.unit)))) (.pair (.row 136 (.pair .str (.pair .bool (.pair (.int .i64) (.pair .bool .unit))))) (.pair (.row 9 (.str)) (.unit)))))) (.unit))), q0⟩
theorem ti31_ok : TOk Tryz.prog 31 ti31 := ⟨by kernel_rfl, by kernel_rfl, by decide +kernel, rfl, fun k hk => by cases hk <;> exact ⟨rfl, rfl⟩, fun h => by cases h⟩
def ti34 : TI := ⟨.st [(0, 31), (2, 32)], 3, 72, [.slice none 0 0, .slice none 0 0, .slice none 0 0], some (.pair (.pair (.row 9 (.str)) (.pair (.row 122 (.pair (.row 132 (.pair .str (.pair (.pair (.int .i64) (.pair (.int .i64) (.pair (.int .i64) (.pair (.int .i64) (.pair (.int .i64) (.pair .str .unit)))))) (.unit)))) (.pair (.row 134 (.pair .str (.pair (.int .i64) (.unit)))) (.pair (.row 136 (.pair .str (.pair .bool (.pair (.int .i64) (.pair .bool .unit))))) (.pair (.row 9 (.str)) (.unit)))))) (.unit))) (.pair (.row 41 (.pair (.row 9 (.str)) (.pair (.row 24 (.pair (.int .i64) (.pair (.int .i64) (.pair (.int .i64) (.pair (.int .i64) (.pair (.int .i64) (.pair .str .unit))))))) (.pair (.pair (.int .i64) (.pair (.int .i64) (.pair (.int .i64) (.pair (.int .i64) (.pair (.int .i64) (.pair .str .unit)))))) (.unit))))) (.unit))), q0⟩
theorem ti34_ok : TOk Tryz.prog 34 ti34 := ⟨by kernel_rfl, by kernel_rfl, by decide +kernel, rfl, fun k hk => by cases hk <;> exact ⟨rfl, rfl⟩, fun h => by cases h⟩
def ti27 : TI := ⟨.st [(0, 22), (1, 24), (7, 25)], 8, 104, [.slice none 0 0, .int .i64 0, .int .i64 0, .int .i64 0, .int .i64 0, .int .i64 0, .string ⟨#[]⟩, .slice none 0 0], some (.pair (.row 24 (.pair (.int .i64) (.pair (.int .i64) (.pair (.int .i64) (.pair (.int .i64) (.pair (.int .i64) (.pair .str .unit))))))) (.pair (.pair (.int .i64) (.pair (.int .i64) (.pair (.int .i64) (.pair (.int .i64) (.pair (.int .i64) (.pair .str .unit)))))) (.pair (.row 3 (.int .i64)) (.unit)))), q0⟩
theorem ti27_ok : TOk Tryz.prog 27 ti27 := ⟨by kernel_rfl, by kernel_rfl, by decide +kernel, rfl, fun k hk => by cases hk <;> exact ⟨rfl, rfl⟩, fun h => by cases h⟩
def ti37 : TI := ⟨.st [(0, 27), (8, 34), (11, 35)], 12, 200, [.slice none 0 0, .int .i64 0, .int .i64 0, .int .i64 0, .int .i64 0, .int .i64 0, .string ⟨#[]⟩, .slice none 0 0, .slice none 0 0, .slice none 0 0, .slice none 0 0, .slice none 0 0], some (.pair (.pair (.row 24 (.pair (.int .i64) (.pair (.int .i64) (.pair (.int .i64) (.pair (.int .i64) (.pair (.int .i64) (.pair .str .unit))))))) (.pair (.pair (.int .i64) (.pair (.int .i64) (.pair (.int .i64) (.pair (.int .i64) (.pair (.int .i64) (.pair .str .unit)))))) (.pair (.row 3 (.int .i64)) (.unit)))) (.pair (.pair (.pair (.row 9 (.str)) (.pair (.row 122 (.pair (.row 132 (.pair .str (.pair (.pair (.int .i64) (.pair (.int .i64) (.pair (.int .i64) (.pair (.int .i64) (.pair (.int .i64) (.pair .str .unit)))))) (.unit)))) (.pair (.row 134 (.pair .str (.pair (.int .i64) (.unit)))) (.pair (.row 136 (.pair .str (.pair .bool (.pair (.int .i64) (.pair .bool .unit))))) (.pair (.row 9 (.str)) (.unit)))))) (.unit))) (.pair (.row 41 (.pair (.row 9 (.str)) (.pair (.row 24 (.pair (.int .i64) (.pair (.int .i64) (.pair (.int .i64) (.pair (.int .i64) (.pair (.int .i64) (.pair .str .unit))))))) (.pair (.pair (.int .i64) (.pair (.int .i64) (.pair (.int .i64) (.pair (.int .i64) (.pair (.int .i64) (.pair .str .unit)))))) (.unit))))) (.unit))) (.pair (.row 62 (.pair (.pair (.int .i64) (.pair (.int .i64) (.pair (.int .i64) (.pair (.int .i64) (.pair (.int .i64) (.pair .str .unit)))))) (.pair (.pair (.int .i64) (.pair (.int .i64) (.pair (.int .i64) (.pair (.int .i64) (.pair (.int .i64) (.pair .str .unit)))))) (.pair (.pair (.int .i64) (.pair (.int .i64) (.pair (.int .i64) (.pair (.int .i64) (.pair (.int .i64) (.pair .str .unit)))))) (.pair (.pair (.int .i64) (.pair (.int .i64) (.pair (.int .i64) (.pair (.int .i64) (.pair (.int .i64) (.pair .str .unit)))))) .unit))))) (.unit)))), q0⟩
theorem ti37_ok : TOk Tryz.prog 37 ti37 := ⟨by kernel_rfl, by kernel_rfl, by decide +kernel, rfl, fun k hk => by cases hk <;> exact ⟨rfl, rfl⟩, fun h => by cases h⟩
def tb : Tb := [(3, ti3), (4, ti4), (9, ti9), (24, ti24), (25, ti25), (22, ti22), (28, ti28), (41, ti41), (32, ti32), (43, ti43), (62, ti62), (35, ti35), (59, ti59), (61, ti61), (100, ti100), (88, ti88), (77, ti77), (79, ti79), (75, ti75), (98, ti98), (94, ti94), (93, ti93), (5, ti5), (132, ti132), (118, ti118), (134, ti134), (119, ti119), (136, ti136), (120, ti120), (122, ti122), (29, ti29), (31, ti31), (34, ti34), (27, ti27), (37, ti37)]
@[simp] theorem tb_at3 : Tb.at tb 3 = some ti3 := rfl
@[simp] theorem tb_at4 : Tb.at tb 4 = some ti4 := rfl
@[simp] theorem tb_at9 : Tb.at tb 9 = some ti9 := rfl
@[simp] theorem tb_at24 : Tb.at tb 24 = some ti24 := rfl
@[simp] theorem tb_at25 : Tb.at tb 25 = some ti25 := rfl
@[simp] theorem tb_at22 : Tb.at tb 22 = some ti22 := rfl
@[simp] theorem tb_at28 : Tb.at tb 28 = some ti28 := rfl
@[simp] theorem tb_at41 : Tb.at tb 41 = some ti41 := rfl
@[simp] theorem tb_at32 : Tb.at tb 32 = some ti32 := rfl
@[simp] theorem tb_at43 : Tb.at tb 43 = some ti43 := rfl
@[simp] theorem tb_at62 : Tb.at tb 62 = some ti62 := rfl
@[simp] theorem tb_at35 : Tb.at tb 35 = some ti35 := rfl
@[simp] theorem tb_at59 : Tb.at tb 59 = some ti59 := rfl
@[simp] theorem tb_at61 : Tb.at tb 61 = some ti61 := rfl
@[simp] theorem tb_at100 : Tb.at tb 100 = some ti100 := rfl
@[simp] theorem tb_at88 : Tb.at tb 88 = some ti88 := rfl
@[simp] theorem tb_at77 : Tb.at tb 77 = some ti77 := rfl
@[simp] theorem tb_at79 : Tb.at tb 79 = some ti79 := rfl
@[simp] theorem tb_at75 : Tb.at tb 75 = some ti75 := rfl
@[simp] theorem tb_at98 : Tb.at tb 98 = some ti98 := rfl
@[simp] theorem tb_at94 : Tb.at tb 94 = some ti94 := rfl
@[simp] theorem tb_at93 : Tb.at tb 93 = some ti93 := rfl
@[simp] theorem tb_at5 : Tb.at tb 5 = some ti5 := rfl
@[simp] theorem tb_at132 : Tb.at tb 132 = some ti132 := rfl
@[simp] theorem tb_at118 : Tb.at tb 118 = some ti118 := rfl
@[simp] theorem tb_at134 : Tb.at tb 134 = some ti134 := rfl
@[simp] theorem tb_at119 : Tb.at tb 119 = some ti119 := rfl
@[simp] theorem tb_at136 : Tb.at tb 136 = some ti136 := rfl
@[simp] theorem tb_at120 : Tb.at tb 120 = some ti120 := rfl
@[simp] theorem tb_at122 : Tb.at tb 122 = some ti122 := rfl
@[simp] theorem tb_at29 : Tb.at tb 29 = some ti29 := rfl
@[simp] theorem tb_at31 : Tb.at tb 31 = some ti31 := rfl
@[simp] theorem tb_at34 : Tb.at tb 34 = some ti34 := rfl
@[simp] theorem tb_at27 : Tb.at tb 27 = some ti27 := rfl
@[simp] theorem tb_at37 : Tb.at tb 37 = some ti37 := rfl
attribute [simp] ti3 ti4 ti9 ti24 ti25 ti22 ti28 ti41 ti32 ti43 ti62 ti35 ti59 ti61 ti100 ti88 ti77 ti79 ti75 ti98 ti94 ti93 ti5 ti132 ti118 ti134 ti119 ti136 ti120 ti122 ti29 ti31 ti34 ti27 ti37
theorem tb_ok : TbOk Tryz.prog tb := by
  intro p hp; simp only [tb, List.mem_cons, List.not_mem_nil, or_false] at hp; rcases hp with rfl | rfl | rfl | rfl | rfl | rfl | rfl | rfl | rfl | rfl | rfl | rfl | rfl | rfl | rfl | rfl | rfl | rfl | rfl | rfl | rfl | rfl | rfl | rfl | rfl | rfl | rfl | rfl | rfl | rfl | rfl | rfl | rfl | rfl | rfl
  · exact ti3_ok
  · exact ti4_ok
  · exact ti9_ok
  · exact ti24_ok
  · exact ti25_ok
  · exact ti22_ok
  · exact ti28_ok
  · exact ti41_ok
  · exact ti32_ok
  · exact ti43_ok
  · exact ti62_ok
  · exact ti35_ok
  · exact ti59_ok
  · exact ti61_ok
  · exact ti100_ok
  · exact ti88_ok
  · exact ti77_ok
  · exact ti79_ok
  · exact ti75_ok
  · exact ti98_ok
  · exact ti94_ok
  · exact ti93_ok
  · exact ti5_ok
  · exact ti132_ok
  · exact ti118_ok
  · exact ti134_ok
  · exact ti119_ok
  · exact ti136_ok
  · exact ti120_ok
  · exact ti122_ok
  · exact ti29_ok
  · exact ti31_ok
  · exact ti34_ok
  · exact ti27_ok
  · exact ti37_ok
end Go.Den
end
section
-- the texts that this claim needs, out of this session's and its print's (wip/shrink.py)
namespace Go.Den
open Go Go.RowKit Go.Proofs Go.Proofs.YtibfkkjkahpobaaGreatW.PrintWords Go.Proofs.YtibfkkjkahpobaaGreat.PDag
theorem o83 (op : Int) : CallStep Tryz.prog 83 [.one (.int .i64 op)] [] (.one (.bool (decide (0 ≤ op ∧ op ≤ 33)))) [] := mkF 83 #[.int .i64 op] (.bool _) rfl rfl ⟨_, _, Tryz.func83, by kernel_rfl, rfl⟩ fun w => (isa_Is.calls op _ w (isa_is op)).mono fun _ _ h => ⟨h.1, h.2.below⟩
theorem o89 (op : Int) (h0 : 0 ≤ op ∧ op ≤ 33) : CallStep Tryz.prog 89 [.one (.int .i64 op)] [] (.one (.int .i64 (formOf op))) [] := mkF 89 #[.int .i64 op] (.int .i64 _) rfl rfl ⟨_, _, Tryz.func89, by kernel_rfl, rfl⟩ fun w => (isa_Shape.calls 10 op _ w (shape_eq (Nat.le_refl _) op h0.1 h0.2)).mono fun _ _ h => ⟨h.1, h.2.below⟩
theorem o91 (f : Int) (h0 : 0 ≤ f ∧ f ≤ 9) : CallStep Tryz.prog 91 [.one (.int .i64 f)] [] (.one (.bool (hasD f))) [] := mkF 91 #[.int .i64 f] (.bool _) rfl rfl ⟨_, _, Tryz.func91, by kernel_rfl, rfl⟩ fun w => (isa_HasD.calls f _ w (isa_hasD f h0.1 h0.2)).mono fun _ _ h => ⟨h.1, h.2.below⟩
theorem o92 (f : Int) (h0 : 0 ≤ f ∧ f ≤ 9) : CallStep Tryz.prog 92 [.one (.int .i64 f)] [] (.one (.bool (hasA f))) [] := mkF 92 #[.int .i64 f] (.bool _) rfl rfl ⟨_, _, Tryz.func92, by kernel_rfl, rfl⟩ fun w => (isa_HasA.calls 10 f _ w (isa_hasA (Nat.le_refl _) f h0.1 h0.2)).mono fun _ _ h => ⟨h.1, h.2.below⟩
theorem o93 (f : Int) (h0 : 0 ≤ f ∧ f ≤ 9) : CallStep Tryz.prog 93 [.one (.int .i64 f)] [] (.one (.bool (hasB f))) [] := mkF 93 #[.int .i64 f] (.bool _) rfl rfl ⟨_, _, Tryz.func93, by kernel_rfl, rfl⟩ fun w => (isa_HasB.calls f _ w (isa_hasB f h0.1 h0.2)).mono fun _ _ h => ⟨h.1, h.2.below⟩
theorem o103 (f : Int) (h0 : 0 ≤ f ∧ f ≤ 9) : CallStep Tryz.prog 103 [.one (.int .i64 f)] [] (.one (.bool (target f))) [] := mkF 103 #[.int .i64 f] (.bool _) rfl rfl ⟨_, _, Tryz.func103, by kernel_rfl, rfl⟩ fun w => (isa_Target.calls f _ w (isa_target f h0.1 h0.2)).mono fun _ _ h => ⟨h.1, h.2.below⟩
theorem o104 (f : Int) (h0 : 0 ≤ f ∧ f ≤ 9) : CallStep Tryz.prog 104 [.one (.int .i64 f)] [] (.one (.int .i64 (bitsOf f))) [] := mkF 104 #[.int .i64 f] (.int .i64 _) rfl rfl ⟨_, _, Tryz.func104, by kernel_rfl, rfl⟩ fun w => (isa_Bits.calls 10 f _ w (isa_bits (Nat.le_refl _) f h0.1 h0.2)).mono fun _ _ h => ⟨h.1, h.2.below⟩
theorem o90 (has : Bool) (n : Int) : CallStep Tryz.prog 90 [.one (.bool has), .one (.int .i64 n)] [] (.one (.bool (regOk has n))) [] := mkF 90 #[.bool has, .int .i64 n] (.bool _) rfl rfl ⟨_, _, Tryz.func90, by kernel_rfl, rfl⟩ fun w => (isa_reg.calls has n _ w (isa_reg_eq has n)).mono fun _ _ h => ⟨h.1, h.2.below⟩
theorem o55 (s : ByteArray) : CallStep Tryz.prog 55 [.one (.str s)] [] (.one (.bool (nameOk s))) [] := mkF 55 #[.string s] (.bool _) rfl rfl ⟨_, _, Tryz.func55, by kernel_rfl, rfl⟩ fun w => (isa_Name2.calls 40 s _ w (isa_name (Nat.le_refl _) s)).mono fun _ _ h => ⟨h.1, h.2.below⟩
theorem within_eq (n b : Int) (hb : b = 14 ∨ b = 18) : word_Within.f n b = some (if b = 14 then fit14 n else fit18 n) := by rcases hb with rfl | rfl; exact within14 n; exact within18 n
theorem o105 (n : Int) (b : Int) (hb : b = 14 ∨ b = 18) : CallStep Tryz.prog 105 [.one (.int .i64 n), .one (.int .i64 b)] [] (.one (.bool (if b = 14 then fit14 n else fit18 n))) [] := mkF 105 #[.int .i64 n, .int .i64 b] (.bool _) rfl rfl ⟨_, _, Tryz.func105, by kernel_rfl, rfl⟩ fun w => (word_Within.calls n b _ w (within_eq n b hb)).mono fun _ _ h => ⟨h.1, h.2.below⟩
theorem hnilI : (⟨#[]⟩ : ByteArray).toList = [] := by rw [ByteArray.toList_eq]
theorem imm_t {f imm : Int} {s : ByteArray} (hf : target f = true) : immOk f imm s = bif !(s.toList == (⟨#[]⟩ : ByteArray).toList) then (bif imm == 0 then nameOk s else false) else (bif decide (imm ≥ 0) then decide (imm < 1024) else false) := by
  unfold immOk; rw [if_pos hf, hnilI]
  by_cases h : s.toList = []
  · rw [if_pos h, h]; show decide (0 ≤ imm ∧ imm ≤ 1023) = bif decide (imm ≥ 0) then decide (imm < 1024) else false
    by_cases h1 : 0 ≤ imm
    · rw [show decide (imm ≥ 0) = true from decide_eq_true h1]; show _ = decide (imm < 1024); rw [Bool.eq_iff_iff, decide_eq_true_iff, decide_eq_true_iff]; omega
    · rw [show decide (imm ≥ 0) = false from decide_eq_false h1]; exact decide_eq_false (by omega)
  · rw [if_neg h, show (s.toList == []) = false by simpa using h]
    cases imm == 0 <;> rfl
theorem imm_f {f imm : Int} {s : ByteArray} (h0 : 0 ≤ f ∧ f ≤ 9) (hf : target f = false) : immOk f imm s = bif (bif (bif f == 4 then !(s.toList == (⟨#[]⟩ : ByteArray).toList) else false) then !nameOk s else false) then false else (bif (bif !(f == 4) then !(s.toList == (⟨#[]⟩ : ByteArray).toList) else false) then false else (bif bitsOf f == 0 then imm == 0 else (if bitsOf f = 14 then fit14 imm else fit18 imm))) := by
  unfold immOk; rw [hf, if_neg Bool.false_ne_true, hnilI]
  by_cases h : s.toList = []
  · rw [if_pos h, h]; rcases form_cases f h0.1 h0.2 with rfl | rfl | rfl | rfl | rfl | rfl | rfl | rfl | rfl | rfl <;> first | rfl | (exact absurd hf (by decide))
  · rw [if_neg h, show (s.toList == []) = false by simpa using h]
    by_cases h4 : f = 4
    · subst h4
      cases nameOk s <;> rfl
    · rw [if_neg h4, show (f == 4) = false by simpa using h4]; rfl
theorem o94 (x : S24) (f : Int) (h0 : 0 ≤ f ∧ f ≤ 9) : CallStep Tryz.prog 94 [.agg (kIns.flat (f24 x)), .one (.int .i64 f)] [] (.one (.bool (immOk f x.f4 x.f5))) [] := by
  obtain ⟨op, d, a, b, imm, s⟩ := x; show CallStep Tryz.prog 94 [.agg [.int .i64 op, .int .i64 d, .int .i64 a, .int .i64 b, .int .i64 imm, .str s], .one (.int .i64 f)] [] (.one (.bool (immOk f imm s))) []; have h103 := o103 f h0; have h104 := o104 f h0; have h55 := o55 s; refine CallStep.intro' (n := 65) (n0 := 0) (rs := [.tmp 4]) tb_ok Tryz.func94 (by kernel_rfl) rfl rfl rfl rfl rfl fun cx hcx => ?_; refine W.sO tb_ok ?_; refine W.seq (W.block ?_); refine W.sO tb_ok ?_; refine W.if_ _ rfl (fun e => ?_) (fun e => ?_)
  · have e1 : target f = true ∧ (!(s.toList == (⟨#[]⟩ : ByteArray).toList)) = true := by
      have e : (bif target f then !(s.toList == (⟨#[]⟩ : ByteArray).toList) else false) = true := e
      cases ht : target f with
      | true => rw [ht] at e; exact ⟨rfl, e⟩
      | false => rw [ht] at e; cases e
    rw [imm_t e1.1, e1.2]; refine W.sO tb_ok ?_; exact W.ret (endL1 (tb := tb) (n0 := 0) rfl rfl rfl rfl)
  refine W.sO tb_ok ?_; refine W.if_ _ rfl (fun e2 => ?_) (fun e2 => ?_)
  · have e : (bif target f then !(s.toList == (⟨#[]⟩ : ByteArray).toList) else false) = false := e; have e2 : target f = true := e2; rw [e2] at e; rw [imm_t e2, show (!(s.toList == (⟨#[]⟩ : ByteArray).toList)) = false from e]; refine W.sO tb_ok ?_; exact W.ret (endL1 (tb := tb) (n0 := 0) rfl rfl rfl rfl)
  have e2 : target f = false := e2; rw [imm_f h0 e2]; refine W.seq ?_; refine W.sO tb_ok ?_; refine W.ifJ ⟨[(32, .one (.bool (bif (bif (bif f == 4 then !(s.toList == (⟨#[]⟩ : ByteArray).toList) else false) then !nameOk s else false) then true else (bif !(f == 4) then !(s.toList == (⟨#[]⟩ : ByteArray).toList) else false)))), (1, .one (.int .i64 f)), (2, .one (.ptr 0 0))], [.box 24 [.int .i64 op, .int .i64 d, .int .i64 a, .int .i64 b, .int .i64 imm, .str s]], 65⟩ _ rfl (fun e3 => W.skip ?_) (fun e3 => ?_) ?_
  · have e3 : (bif (bif f == 4 then !(s.toList == (⟨#[]⟩ : ByteArray).toList) else false) then !nameOk s else false) = true := e3; rw [e3]; exact Le.to [0] hcx rfl ⟨rfl, rfl, rfl, rfl, rfl⟩
  · have e3 : (bif (bif f == 4 then !(s.toList == (⟨#[]⟩ : ByteArray).toList) else false) then !nameOk s else false) = false := e3; rw [e3]; refine W.rO tb_ok ?_; exact Le.to [0] hcx rfl ⟨rfl, rfl, rfl, rfl, rfl⟩
  generalize (bif (bif f == 4 then !(s.toList == (⟨#[]⟩ : ByteArray).toList) else false) then !nameOk s else false) = p1; generalize (bif !(f == 4) then !(s.toList == (⟨#[]⟩ : ByteArray).toList) else false) = p2; refine W.if_ _ rfl (fun e4 => ?_) (fun e4 => ?_)
  · have e4 : (bif p1 then true else p2) = true := e4; rw [show (bif p1 then false else (bif p2 then false else (bif bitsOf f == 0 then imm == 0 else (if bitsOf f = 14 then fit14 imm else fit18 imm)))) = false by cases p1 <;> cases p2 <;> first | rfl | cases e4]; refine W.sO tb_ok ?_; exact W.ret (endL1 (tb := tb) (n0 := 0) rfl rfl rfl rfl)
  have e4 : (bif p1 then true else p2) = false := e4; rw [show (bif p1 then false else (bif p2 then false else (bif bitsOf f == 0 then imm == 0 else (if bitsOf f = 14 then fit14 imm else fit18 imm)))) = (bif bitsOf f == 0 then imm == 0 else (if bitsOf f = 14 then fit14 imm else fit18 imm)) by cases p1 <;> cases p2 <;> first | rfl | cases e4]; refine W.sO tb_ok ?_; refine W.if_ _ rfl (fun e5 => ?_) (fun e5 => W.skip ?_)
  · have e5 : (bitsOf f == 0) = true := e5; rw [e5]; refine W.sO tb_ok ?_; exact W.ret (endL1 (tb := tb) (n0 := 0) rfl rfl rfl rfl)
  have e5 : (bitsOf f == 0) = false := e5; rw [e5]
  have hb : bitsOf f = 14 ∨ bitsOf f = 18 := by
    rcases form_cases f h0.1 h0.2 with rfl | rfl | rfl | rfl | rfl | rfl | rfl | rfl | rfl | rfl <;> first | (exact .inl rfl) | (exact .inr rfl) | (exact absurd e5 (by decide))
  have q0_ := o105 imm (bitsOf f) hb; refine W.aO [6] tb_ok ?_; exact W.ret (endL1 (tb := tb) (n0 := 0) rfl rfl rfl rfl)
theorem ins_cond (a b c d : Bool) : (bif (bif (bif a then b else false) then c else false) then d else false) = (a && (b && (c && d))) := by cases a <;> cases b <;> cases c <;> rfl
theorem o59i (x : S24) : CallStep Tryz.prog 59 [.agg (kIns.flat (f24 x))] [] (.one (.bool (insOk x.f0 x.f1 x.f2 x.f3 x.f4 x.f5))) [] := by
  have h94 := o94 x; obtain ⟨op, d, a, b, imm, s⟩ := x; show CallStep Tryz.prog 59 [.agg [.int .i64 op, .int .i64 d, .int .i64 a, .int .i64 b, .int .i64 imm, .str s]] [] (.one (.bool (insOk op d a b imm s))) []; replace h94 : ∀ f : Int, 0 ≤ f ∧ f ≤ 9 → CallStep Tryz.prog 94 [.agg [.int .i64 op, .int .i64 d, .int .i64 a, .int .i64 b, .int .i64 imm, .str s], .one (.int .i64 f)] [] (.one (.bool (immOk f imm s))) [] := h94; refine CallStep.intro' (n := 35) (n0 := 0) (rs := [.tmp 2]) tb_ok Tryz.func59 (by kernel_rfl) rfl rfl rfl rfl rfl fun cx hcx => ?_; refine W.sO tb_ok ?_; refine W.seq ?_; have q0_ := o83 op; refine W.sO tb_ok ?_; refine W.if_ _ rfl (fun e => ?_) (fun e => W.skip ?_)
  · have e : decide (0 ≤ op ∧ op ≤ 33) = false := by rw [← Bool.not_eq_true']; exact e
    rw [show insOk op d a b imm s = false by unfold insOk; rw [e]; rfl]; refine W.sO tb_ok ?_; exact W.ret (endL1 (tb := tb) (n0 := 0) rfl rfl rfl rfl)
  have e : decide (0 ≤ op ∧ op ≤ 33) = true := by rw [← Bool.not_eq_false']; exact e
  have hop := of_decide_eq_true e; have hf := formOf_range op hop.1 hop.2; have hok : insOk op d a b imm s = (bif (bif (bif regOk (hasD (formOf op)) d then regOk (hasA (formOf op)) a else false) then regOk (hasB (formOf op)) b else false) then immOk (formOf op) imm s else false) := by unfold insOk; rw [e, Bool.true_and, ins_cond]
  rw [hok]; have h94f := h94 (formOf op) hf; have q0_ := o89 op hop; refine W.sO tb_ok ?_; have q0_ := o91 (formOf op) hf; have q1_ := o92 (formOf op) hf; have q2_ := o93 (formOf op) hf; have q3_ := o90 (hasD (formOf op)) d; have q4_ := o90 (hasA (formOf op)) a; have q5_ := o90 (hasB (formOf op)) b; refine W.aO [25] tb_ok ?_; exact W.ret (endL1 (tb := tb) (n0 := 0) rfl rfl rfl rfl)
end Go.Den
namespace Go.Proofs.YtibfkkjkahpobaaGreat.PDag
open Go.Den Go.RowKit Go.Proofs.YtibfkkjkahpobaaGreatW.PrintWords
def isa_IsIns.f (k : Nat) (a0_0 : Int) (a0_1 : Int) (a0_2 : Int) (a0_3 : Int) (a0_4 : Int) (a0_5 : ByteArray) : Option (Bool) := some (insOk a0_0 a0_1 a0_2 a0_3 a0_4 a0_5)
theorem isa_IsIns.mono : ∀ a0_0 a0_1 a0_2 a0_3 a0_4 a0_5 k, LeO (isa_IsIns.f k a0_0 a0_1 a0_2 a0_3 a0_4 a0_5) (isa_IsIns.f (k + 1) a0_0 a0_1 a0_2 a0_3 a0_4 a0_5) := fun _ _ _ _ _ _ _ => LeO.refl _
theorem isa_ins_eq {k : Nat} (hk : 50 ≤ k) (op d a b imm : Int) (s : ByteArray) : isa_IsIns.f k op d a b imm s = some (insOk op d a b imm s) := rfl
theorem isa_IsIns.calls (k : Nat) (a0_0 : Int) (a0_1 : Int) (a0_2 : Int) (a0_3 : Int) (a0_4 : Int) (a0_5 : ByteArray) (r : Bool) (w : World) (h : isa_IsIns.f k a0_0 a0_1 a0_2 a0_3 a0_4 a0_5 = some r) :
    Calls Tryz.prog 59 #[.agg #[.int .i64 a0_0, .int .i64 a0_1, .int .i64 a0_2, .int .i64 a0_3, .int .i64 a0_4, .string a0_5]] w fun e w' => e = .returned (.bool r) ∧ Below w.heap.size w w' := by
  obtain rfl := Option.some.inj h; refine Calls.mono ((o59i ⟨a0_0, a0_1, a0_2, a0_3, a0_4, a0_5⟩).calls (fun _ => False) (fun _ => undef) w _ (HR.empty _ _ _) (All2.cons ⟨_, rfl, All2.cons rfl (All2.cons rfl (All2.cons rfl (All2.cons rfl (All2.cons rfl (All2.cons rfl All2.nil)))))⟩ All2.nil)) ?_; rintro e w' ⟨v, U1, ρ1, rfl, g, hs⟩; exact ⟨by rw [show v = .bool _ from hs], g.agree.below fun b _ ⟨i, hi⟩ => by simp [place] at hi⟩
end Go.Proofs.YtibfkkjkahpobaaGreat.PDag
end
section
namespace Go.Proofs.YtibfkkjkahpobaaGreat.PDag
open Go.RowKit Go.Proofs.YtibfkkjkahpobaaGreatW.PrintWords Go.Proofs.YtibfkkjkahpobaaGreatW.PrintLast Go.Proofs.YtibfkkjkahpobaaGreatW.PrintMore
attribute [local go_sem] max2_int min2_int max_two min_two max_three min_three max_four min_four
def IsS79 (w0 W : World) (g : Nat) (f0 : List (S24)) (f1 : List (List (S100))) (f2 : List Int) (f3 : List Int) (f4 : List Int) (f5 : List Int) (f6 : Int) : Prop := ∃ A0 c0, ∃ A1 c1, ∃ A2 c2, ∃ A3 c3, ∃ A4 c4, ∃ A5 c5, W.heap[g]? = some (.cells #[.slice A0 f0.length c0, .slice A1 f1.length c1, .slice A2 f2.length c2, .slice A3 f3.length c3, .slice A4 f4.length c4, .slice A5 f5.length c5, .int .i64 f6] 79 (0, 0)) ∧ w0.heap.size ≤ g ∧ Kd.C k24 w0 A0 f0.length f0 ∧ Kd.C (Kd.slice 100 k100) w0 A1 f1.length f1 ∧ Kd.C (Kd.int .i64) w0 A2 f2.length f2 ∧ Kd.C (Kd.int .i64) w0 A3 f3.length f3 ∧ Kd.C (Kd.int .i64) w0 A4 f4.length f4 ∧ Kd.C (Kd.int .i64) w0 A5 f5.length f5
theorem IsS79.grown {w0 W : World} {g : Nat} {f0 : List (S24)} {f1 : List (List (S100))} {f2 : List Int} {f3 : List Int} {f4 : List Int} {f5 : List Int} {f6 : Int} {W1 : World} {row : Option Nat} (h : IsS79 w0 W g f0 f1 f2 f3 f4 f5 f6) (hw : W.grownBy W1 row) (hne : some g ≠ row) : IsS79 w0 W1 g f0 f1 f2 f3 f4 f5 f6 := by
 obtain ⟨A0, c0, A1, c1, A2, c2, A3, c3, A4, c4, A5, c5, hb, hg, hr0, hr1, hr2, hr3, hr4, hr5⟩ := h; exact ⟨A0, c0, A1, c1, A2, c2, A3, c3, A4, c4, A5, c5, blk_grown hb hw hne, hg, hr0, hr1, hr2, hr3, hr4, hr5⟩
theorem IsS79.kept {w0 W : World} {g : Nat} {f0 : List (S24)} {f1 : List (List (S100))} {f2 : List Int} {f3 : List Int} {f4 : List Int} {f5 : List Int} {f6 : Int} {W1 : World} {S : Nat → Prop} (h : IsS79 w0 W g f0 f1 f2 f3 f4 f5 f6) (hk : Kept W W1 S) (hne : ¬ S g) : IsS79 w0 W1 g f0 f1 f2 f3 f4 f5 f6 := by
 obtain ⟨A0, c0, A1, c1, A2, c2, A3, c3, A4, c4, A5, c5, hb, hg, hr0, hr1, hr2, hr3, hr4, hr5⟩ := h; exact ⟨A0, c0, A1, c1, A2, c2, A3, c3, A4, c4, A5, c5, blk_kept hb hk hne, hg, hr0, hr1, hr2, hr3, hr4, hr5⟩
theorem IsS79.below {w0 W : World} {g : Nat} {f0 : List (S24)} {f1 : List (List (S100))} {f2 : List Int} {f3 : List Int} {f4 : List Int} {f5 : List Int} {f6 : Int} {W1 : World} (h : IsS79 w0 W g f0 f1 f2 f3 f4 f5 f6) (hw : Below W.heap.size W W1) : IsS79 w0 W1 g f0 f1 f2 f3 f4 f5 f6 := h.grown (grown_of_below hw none) (by simp)
theorem IsS79.alloc {w0 W : World} {g : Nat} {f0 : List (S24)} {f1 : List (List (S100))} {f2 : List Int} {f3 : List Int} {f4 : List Int} {f5 : List Int} {f6 : Int} (h : IsS79 w0 W g f0 f1 f2 f3 f4 f5 f6) (o : Obj) : IsS79 w0 (W.alloc o) g f0 f1 f2 f3 f4 f5 f6 := h.below (bA_ (Below.refl _ _) o)
theorem IsS79.drewN {w0 W : World} {g : Nat} {f0 : List (S24)} {f1 : List (List (S100))} {f2 : List Int} {f3 : List Int} {f4 : List Int} {f5 : List Int} {f6 : Int} (h : IsS79 w0 W g f0 f1 f2 f3 f4 f5 f6) (m : Nat) : IsS79 w0 (W.drewN m) g f0 f1 f2 f3 f4 f5 f6 := h
theorem IsS79.drew {w0 W : World} {g : Nat} {f0 : List (S24)} {f1 : List (List (S100))} {f2 : List Int} {f3 : List Int} {f4 : List Int} {f5 : List Int} {f6 : Int} (h : IsS79 w0 W g f0 f1 f2 f3 f4 f5 f6) : IsS79 w0 W.drew g f0 f1 f2 f3 f4 f5 f6 := h
theorem IsS79.at_ {w0 W : World} {g : Nat} {f0 : List (S24)} {f1 : List (List (S100))} {f2 : List Int} {f3 : List Int} {f4 : List Int} {f5 : List Int} {f6 : Int} {w' : World} {m : Nat} (hq : W.drewN m = w') (h : IsS79 w0 W g f0 f1 f2 f3 f4 f5 f6) : IsS79 w0 w' g f0 f1 f2 f3 f4 f5 f6 := by subst hq; exact IsS79.drewN h m
theorem IsS79.apart {w0 W : World} {g : Nat} {f0 : List (S24)} {f1 : List (List (S100))} {f2 : List Int} {f3 : List Int} {f4 : List Int} {f5 : List Int} {f6 : Int} {α : Type} {d : Kd α} {e : Nat} {base : Nat} {ok : Nat → Prop} {v : Value} {xs : List α} (h : IsS79 w0 W g f0 f1 f2 f3 f4 f5 f6) (ho : d.R e W base ok v xs) (ht : ∀ q, q ∈ e :: d.E → q ≠ 79) : d.R e W base (fun k => ok k ∧ k ≠ g) v xs := by
 obtain ⟨A0, c0, A1, c1, A2, c2, A3, c3, A4, c4, A5, c5, hb, hg, hr0, hr1, hr2, hr3, hr4, hr5⟩ := h; exact Kd.R_types ho hb ht
theorem IsS79.own_ne {w0 W : World} {g : Nat} {f0 : List (S24)} {f1 : List (List (S100))} {f2 : List Int} {f3 : List Int} {f4 : List Int} {f5 : List Int} {f6 : Int} {α : Type} {d : Kd α} {e : Nat} {base : Nat} {ok : Nat → Prop} {v : Value} {xs : List α} (h : IsS79 w0 W g f0 f1 f2 f3 f4 f5 f6) (ho : d.R e W base ok v xs) (ht : e ≠ 79) : some g ≠ v.ownBlock := by
 obtain ⟨A0, c0, A1, c1, A2, c2, A3, c3, A4, c4, A5, c5, hb, hg, hr0, hr1, hr2, hr3, hr4, hr5⟩ := h; exact Kd.R_ne ho hb ht
theorem IsS79.lt {w0 W : World} {g : Nat} {f0 : List (S24)} {f1 : List (List (S100))} {f2 : List Int} {f3 : List Int} {f4 : List Int} {f5 : List Int} {f6 : Int} (h : IsS79 w0 W g f0 f1 f2 f3 f4 f5 f6) : g < W.heap.size := by
 obtain ⟨A0, c0, A1, c1, A2, c2, A3, c3, A4, c4, A5, c5, hb, hg, hr0, hr1, hr2, hr3, hr4, hr5⟩ := h; exact blk_lt hb
theorem IsS79.ge {w0 W : World} {g : Nat} {f0 : List (S24)} {f1 : List (List (S100))} {f2 : List Int} {f3 : List Int} {f4 : List Int} {f5 : List Int} {f6 : Int} (h : IsS79 w0 W g f0 f1 f2 f3 f4 f5 f6) : w0.heap.size ≤ g := by
 obtain ⟨A0, c0, A1, c1, A2, c2, A3, c3, A4, c4, A5, c5, hb, hg, hr0, hr1, hr2, hr3, hr4, hr5⟩ := h; exact hg
theorem IsS79.new (w0 W : World) (A0 : Option Addr) (c0 : Nat) (A1 : Option Addr) (c1 : Nat) (A2 : Option Addr) (c2 : Nat) (A3 : Option Addr) (c3 : Nat) (A4 : Option Addr) (c4 : Nat) (A5 : Option Addr) (c5 : Nat) (f0 : List (S24)) (f1 : List (List (S100))) (f2 : List Int) (f3 : List Int) (f4 : List Int) (f5 : List Int) (f6 : Int) (hB : Below w0.heap.size w0 W) (hr0 : Kd.C k24 w0 A0 f0.length f0) (hr1 : Kd.C (Kd.slice 100 k100) w0 A1 f1.length f1) (hr2 : Kd.C (Kd.int .i64) w0 A2 f2.length f2) (hr3 : Kd.C (Kd.int .i64) w0 A3 f3.length f3) (hr4 : Kd.C (Kd.int .i64) w0 A4 f4.length f4) (hr5 : Kd.C (Kd.int .i64) w0 A5 f5.length f5) : IsS79 w0 (W.alloc (.cells #[.slice A0 f0.length c0, .slice A1 f1.length c1, .slice A2 f2.length c2, .slice A3 f3.length c3, .slice A4 f4.length c4, .slice A5 f5.length c5, .int .i64 f6] 79)) W.heap.size f0 f1 f2 f3 f4 f5 f6 := ⟨A0, c0, A1, c1, A2, c2, A3, c3, A4, c4, A5, c5, by simpa using heap_alloc_new W _, hB.size, hr0, hr1, hr2, hr3, hr4, hr5⟩
def block_Plain.f (k : Nat) (a0_0 : Int) (a0_1 : Int) (a0_2 : Int) (a0_3 : Int) (a0_4 : Int) (a0_5 : ByteArray) : Option (Bool) := (isa_IsIns.f k a0_0 a0_1 a0_2 a0_3 a0_4 a0_5).bind fun t333 => (if t333 = true then ((isa_Ends.f a0_0).bind fun t334 => (if t334 = true then (some false) else (some (a0_0 != 0)))) else (some false))
theorem block_Plain.calls (k : Nat) (a0_0 : Int) (a0_1 : Int) (a0_2 : Int) (a0_3 : Int) (a0_4 : Int) (a0_5 : ByteArray) (r : Bool) (w : World) (h : block_Plain.f k a0_0 a0_1 a0_2 a0_3 a0_4 a0_5 = some r) :
    Calls Tryz.prog 58 #[.agg #[.int .i64 a0_0, .int .i64 a0_1, .int .i64 a0_2, .int .i64 a0_3, .int .i64 a0_4, .string a0_5]] w fun e w' => e = .returned (.bool r) ∧ Below w.heap.size w w' := by
 have hu24 := Tryz.underlying24; have HB := aM_ (Below.refl w.heap.size w); have H : ((isa_IsIns.f k a0_0 a0_1 a0_2 a0_3 a0_4 a0_5).bind fun t333 => (if t333 = true then ((isa_Ends.f a0_0).bind fun t334 => (if t334 = true then (some false) else (some (a0_0 != 0)))) else (some false))) = some r := h; clear h; obtain ⟨t333, A2, H⟩ := oB_ H
 by_cases c3 : t333 = true
 ·subst c3; rw [if_pos rfl] at H; obtain ⟨t334, A4, H⟩ := oB_ H
  by_cases c5 : t334 = true
  ·subst c5; rw [if_pos rfl] at H; obtain rfl := oI_ H; go_enter Tryz.func58, Tryz.ntmps58
   go_wp2_with (first | ((with_reducible refine gate_dst (N := 1) rfl ?_); refine bX_ (N := 1) (cs := #[.int .i64 a0_0, .int .i64 a0_1, .int .i64 a0_2, .int .i64 a0_3, .int .i64 a0_4, .string a0_5]) (t := 24) ?_; intro gb332 hg w6 hbox hb; replace BK332 := aM_ (hbox); replace GW332 := aM_ (gE_ hg (bl_ HB)); replace GE332 := aM_ (gE_ hg (bl_ HB)); replace HB := aM_ (bT_ (bl_ HB) hb); clear hb hbox hg; obtain ⟨hcz7_0, hcz7_1, hcz7_2, hcz7_3, hcz7_4, hcz7_5⟩ := cl6_ BK332.out; obtain ⟨hfz7_0, hfz7_1, hfz7_2, hfz7_3, hfz7_4, hfz7_5⟩ := fz6_ BK332.out) | ((with_reducible refine gC_ (f := 59) rfl ?_); refine gL_ (some 4) Tryz.func59 #[.agg #[.int .i64 a0_0, .int .i64 a0_1, .int .i64 a0_2, .int .i64 a0_3, .int .i64 a0_4, .string a0_5]] rfl ?_; (with_reducible refine (isa_IsIns.calls k a0_0 a0_1 a0_2 a0_3 a0_4 a0_5 true _ A2.out).mono ?_); rintro e w8 ⟨rfl, hb⟩; refine ⟨_, rfl, ?_⟩; replace BK332 := aM_ (kB_ (rB_ BK332) hb); replace HB := aM_ (bT_ (bs_ HB GE332) hb); obtain ⟨hcz9_0, hcz9_1, hcz9_2, hcz9_3, hcz9_4, hcz9_5⟩ := cl6_ BK332.out; obtain ⟨hfz9_0, hfz9_1, hfz9_2, hfz9_3, hfz9_4, hfz9_5⟩ := fz6_ BK332.out) | (go_at_call 60; (with_reducible refine (isa_Ends.calls a0_0 true _ A4.out).mono ?_); rintro e w' ⟨rfl, ⟨nd, rfl⟩⟩))
   go_ret; exact ⟨eR_, bs_ HB GE332⟩
  replace c5 := eF_ c5; subst c5; rw [if_neg Bool.false_ne_true] at H; obtain rfl := oI_ H; go_enter Tryz.func58, Tryz.ntmps58
  go_wp2_with (first | ((with_reducible refine gate_dst (N := 1) rfl ?_); refine bX_ (N := 1) (cs := #[.int .i64 a0_0, .int .i64 a0_1, .int .i64 a0_2, .int .i64 a0_3, .int .i64 a0_4, .string a0_5]) (t := 24) ?_; intro gb332 hg w10 hbox hb; replace BK332 := aM_ (hbox); replace GW332 := aM_ (gE_ hg (bl_ HB)); replace GE332 := aM_ (gE_ hg (bl_ HB)); replace HB := aM_ (bT_ (bl_ HB) hb); clear hb hbox hg; obtain ⟨hcz11_0, hcz11_1, hcz11_2, hcz11_3, hcz11_4, hcz11_5⟩ := cl6_ BK332.out; obtain ⟨hfz11_0, hfz11_1, hfz11_2, hfz11_3, hfz11_4, hfz11_5⟩ := fz6_ BK332.out) | ((with_reducible refine gC_ (f := 59) rfl ?_); refine gL_ (some 4) Tryz.func59 #[.agg #[.int .i64 a0_0, .int .i64 a0_1, .int .i64 a0_2, .int .i64 a0_3, .int .i64 a0_4, .string a0_5]] rfl ?_; (with_reducible refine (isa_IsIns.calls k a0_0 a0_1 a0_2 a0_3 a0_4 a0_5 true _ A2.out).mono ?_); rintro e w12 ⟨rfl, hb⟩; refine ⟨_, rfl, ?_⟩; replace BK332 := aM_ (kB_ (rB_ BK332) hb); replace HB := aM_ (bT_ (bs_ HB GE332) hb); obtain ⟨hcz13_0, hcz13_1, hcz13_2, hcz13_3, hcz13_4, hcz13_5⟩ := cl6_ BK332.out; obtain ⟨hfz13_0, hfz13_1, hfz13_2, hfz13_3, hfz13_4, hfz13_5⟩ := fz6_ BK332.out) | (go_at_call 60; (with_reducible refine (isa_Ends.calls a0_0 false _ A4.out).mono ?_); rintro e w' ⟨rfl, ⟨nd, rfl⟩⟩))
  go_ret; exact ⟨eR_, bs_ HB GE332⟩
 replace c3 := eF_ c3; subst c3; rw [if_neg Bool.false_ne_true] at H; obtain rfl := oI_ H; go_enter Tryz.func58, Tryz.ntmps58
 go_wp2_with (first | ((with_reducible refine gate_dst (N := 1) rfl ?_); refine bX_ (N := 1) (cs := #[.int .i64 a0_0, .int .i64 a0_1, .int .i64 a0_2, .int .i64 a0_3, .int .i64 a0_4, .string a0_5]) (t := 24) ?_; intro gb332 hg w14 hbox hb; replace BK332 := aM_ (hbox); replace GW332 := aM_ (gE_ hg (bl_ HB)); replace GE332 := aM_ (gE_ hg (bl_ HB)); replace HB := aM_ (bT_ (bl_ HB) hb); clear hb hbox hg; obtain ⟨hcz15_0, hcz15_1, hcz15_2, hcz15_3, hcz15_4, hcz15_5⟩ := cl6_ BK332.out; obtain ⟨hfz15_0, hfz15_1, hfz15_2, hfz15_3, hfz15_4, hfz15_5⟩ := fz6_ BK332.out) | ((with_reducible refine gC_ (f := 59) rfl ?_); refine gL_ (some 4) Tryz.func59 #[.agg #[.int .i64 a0_0, .int .i64 a0_1, .int .i64 a0_2, .int .i64 a0_3, .int .i64 a0_4, .string a0_5]] rfl ?_; (with_reducible refine (isa_IsIns.calls k a0_0 a0_1 a0_2 a0_3 a0_4 a0_5 false _ A2.out).mono ?_); rintro e w16 ⟨rfl, hb⟩; refine ⟨_, rfl, ?_⟩; replace BK332 := aM_ (kB_ (rB_ BK332) hb); replace HB := aM_ (bT_ (bs_ HB GE332) hb)))
 go_ret; exact ⟨eR_, bs_ HB GE332⟩
def dag_May_1.f (k : Nat) (a0_0 : Int) (a0_1 : Int) (a0_2 : Int) (a0_3 : Int) (a0_4 : Int) (a0_5 : ByteArray) : Option (Bool) := (block_Plain.f k a0_0 a0_1 a0_2 a0_3 a0_4 a0_5).bind fun t336 => (some (!t336))
theorem dag_May_1.calls (k : Nat) (a0_0 : Int) (a0_1 : Int) (a0_2 : Int) (a0_3 : Int) (a0_4 : Int) (a0_5 : ByteArray) (r : Bool) (w : World) (h : dag_May_1.f k a0_0 a0_1 a0_2 a0_3 a0_4 a0_5 = some r) :
    Calls Tryz.prog 62 #[.agg #[.int .i64 a0_0, .int .i64 a0_1, .int .i64 a0_2, .int .i64 a0_3, .int .i64 a0_4, .string a0_5]] w fun e w' => e = .returned (.bool r) ∧ Below w.heap.size w w' := by
 have hu24 := Tryz.underlying24; have HB := aM_ (Below.refl w.heap.size w); have H : ((block_Plain.f k a0_0 a0_1 a0_2 a0_3 a0_4 a0_5).bind fun t336 => (some (!t336))) = some r := h; clear h; obtain ⟨t336, A2, H⟩ := oB_ H; obtain rfl := oI_ H; go_enter Tryz.func62, Tryz.ntmps62
 go_wp2_with (first | ((with_reducible refine gate_dst (N := 1) rfl ?_); refine bX_ (N := 1) (cs := #[.int .i64 a0_0, .int .i64 a0_1, .int .i64 a0_2, .int .i64 a0_3, .int .i64 a0_4, .string a0_5]) (t := 24) ?_; intro gb335 hg w3 hbox hb; replace BK335 := aM_ (hbox); replace GW335 := aM_ (gE_ hg (bl_ HB)); replace GE335 := aM_ (gE_ hg (bl_ HB)); replace HB := aM_ (bT_ (bl_ HB) hb); clear hb hbox hg; obtain ⟨hcz4_0, hcz4_1, hcz4_2, hcz4_3, hcz4_4, hcz4_5⟩ := cl6_ BK335.out; obtain ⟨hfz4_0, hfz4_1, hfz4_2, hfz4_3, hfz4_4, hfz4_5⟩ := fz6_ BK335.out) | ((with_reducible refine gC_ (f := 58) rfl ?_); refine gL_ (some 4) Tryz.func58 #[.agg #[.int .i64 a0_0, .int .i64 a0_1, .int .i64 a0_2, .int .i64 a0_3, .int .i64 a0_4, .string a0_5]] rfl ?_; (with_reducible refine (block_Plain.calls k a0_0 a0_1 a0_2 a0_3 a0_4 a0_5 t336 _ A2.out).mono ?_); rintro e w5 ⟨rfl, hb⟩; refine ⟨_, rfl, ?_⟩; replace BK335 := aM_ (kB_ (rB_ BK335) hb); replace HB := aM_ (bT_ (bs_ HB GE335) hb)))
 go_ret; exact ⟨eR_, bs_ HB GE335⟩
def aI62_88062.l0 : Nat → List (S24) → Int → Int → Option (Int)
  | 0, _, _, _ => none
  | k + 1, x0, x7, x8 => if x8 < x7 then (if 0 ≤ x8 then (if x8 < (x0.length : Int) then ((dag_May_1.f k ((J24 x0 x8).f0) ((J24 x0 x8).f1) ((J24 x0 x8).f2) ((J24 x0 x8).f3) ((J24 x0 x8).f4) ((J24 x0 x8).f5)).bind fun t338 => (if t338 = true then (some x8) else (aI62_88062.l0 k x0 x7 (wrap64 (x8 + 1))))) else (none)) else (none)) else (some (-1))
def aI62_88062.f (k : Nat) (l0 : List (S24))  : Option (Int) := aI62_88062.l0 k l0 (l0.length : Int) 0
theorem aI62_88062.calls (k : Nat) (A0 : Option Addr) (c0 : Nat) (l0 : List (S24))  (r : Int) (w : World) (hr0 : Kd.C k24 w A0 l0.length l0) (hc0 : l0.length ≤ c0) (h : aI62_88062.f k l0 = some r) :
    Calls Tryz.prog 88 #[.slice A0 l0.length c0, .func (.func 62) #[] #[]] w fun e w' => e = .returned (.int .i64 r) ∧ Below w.heap.size w w' := by
 have hu24 := Tryz.underlying24; have HR0 := aM_ hr0; have HC0 := aM_ hc0; clear hr0 hc0; have HB := aM_ (Below.refl w.heap.size w); have H : (aI62_88062.l0 k l0 (l0.length : Int) 0) = some r := h; clear h; replace H := aM_ H; go_enter Tryz.func88, Tryz.ntmps88; go_wp2
 go_loopg [8] k (fun kq v8 w' => ∃ (x8_1 : Int), v8 = .int .i64 x8_1 ∧ As_ (aI62_88062.l0 kq l0 (l0.length : Int) x8_1 = some r) ∧ As_ (kq ≤ k) ∧ As_ (Below w.heap.size w w'))
 case atStart => exact ⟨(0), eQ_, H, ⟨Nat.le_refl _⟩, ⟨bl_ HB⟩⟩
 case round =>
  clear H; obtain ⟨x8_1, rfl, HA, HK1, HB⟩ := hrel
  cases gk with
  | zero => exact absurd HA.out (by simp [aI62_88062.l0])
  | succ k1 =>
   have H := HA.out; clear HA; simp only [aI62_88062.l0] at H
   by_cases c3 : x8_1 < (l0.length : Int)
   ·rw [if_pos c3] at H; have c3b0 := dE_ c3; clear c3
    by_cases c4 : 0 ≤ x8_1
    ·rw [if_pos c4] at H; have c4b0 := dE_ c4; clear c4
     by_cases c5 : x8_1 < (l0.length : Int)
     ·rw [if_pos c5] at H; have c5b0 := dE_ c5; clear c5; obtain ⟨t338, A6, H⟩ := oB_ H
      by_cases c7 : t338 = true
      ·subst c7; rw [if_pos rfl] at H; obtain rfl := oI_ H; have p337 : 0 ≤ (x8_1 : Int) := oD_; have q337 : x8_1 < (l0.length : Int) := oD_; obtain ⟨ad337, e337, hx337_0, hx337_1, hx337_2, hx337_3, hx337_4, hx337_5⟩ := at_T24 HR0.out x8_1 p337 q337
       cases e337
       replace hx337_0 := hC_ HB hx337_0; replace hx337_1 := hC_ HB hx337_1; replace hx337_2 := hC_ HB hx337_2; replace hx337_3 := hC_ HB hx337_3; replace hx337_4 := hC_ HB hx337_4; replace hx337_5 := hC_ HB hx337_5; replace p337 := eq_true p337; replace q337 := eq_true q337
       go_wp2_with (first | (go_at_call 62; (with_reducible refine (dag_May_1.calls k1 ((J24 l0 x8_1).f0) ((J24 l0 x8_1).f1) ((J24 l0 x8_1).f2) ((J24 l0 x8_1).f3) ((J24 l0 x8_1).f4) ((J24 l0 x8_1).f5) true _ A6.out).mono ?_); rintro e w8 ⟨rfl, hb⟩; replace HB := aM_ (bT_ (bl_ HB) hb)))
       go_ret; exact ⟨eR_, bl_ HB⟩
      replace c7 := eF_ c7; subst c7; rw [if_neg Bool.false_ne_true] at H; replace H := aM_ H; have p337 : 0 ≤ (x8_1 : Int) := oD_; have q337 : x8_1 < (l0.length : Int) := oD_; obtain ⟨ad337, e337, hx337_0, hx337_1, hx337_2, hx337_3, hx337_4, hx337_5⟩ := at_T24 HR0.out x8_1 p337 q337
      cases e337
      replace hx337_0 := hC_ HB hx337_0; replace hx337_1 := hC_ HB hx337_1; replace hx337_2 := hC_ HB hx337_2; replace hx337_3 := hC_ HB hx337_3; replace hx337_4 := hC_ HB hx337_4; replace hx337_5 := hC_ HB hx337_5; replace p337 := eq_true p337; replace q337 := eq_true q337
      go_wp2_with (first | (go_at_call 62; (with_reducible refine (dag_May_1.calls k1 ((J24 l0 x8_1).f0) ((J24 l0 x8_1).f1) ((J24 l0 x8_1).f2) ((J24 l0 x8_1).f3) ((J24 l0 x8_1).f4) ((J24 l0 x8_1).f5) false _ A6.out).mono ?_); rintro e w9 ⟨rfl, hb⟩; replace HB := aM_ (bT_ (bl_ HB) hb)))
      go_roundg k1
      case measure => have := HK1.out; omega
      case rel => exact ⟨(wrap64 (x8_1 + 1)), eQ_, H, ⟨by have := HK1.out; omega⟩, ⟨bl_ HB⟩⟩
     rw [if_neg c5] at H; exact absurd H (by simp)
    rw [if_neg c4] at H; exact absurd H (by simp)
   rw [if_neg c3] at H; have c3b0 := dF_ c3; clear c3; obtain rfl := oI_ H; go_wp2; go_ret; exact ⟨eR_, bl_ HB⟩
def aI62_56062.f (k : Nat) (l0 : List (S24))  : Option (Bool) := (aI62_88062.f k l0).bind fun t339 => (some (decide (t339 ≥ 0)))
theorem aI62_56062.calls (k : Nat) (A0 : Option Addr) (c0 : Nat) (l0 : List (S24))  (r : Bool) (w : World) (hr0 : Kd.C k24 w A0 l0.length l0) (hc0 : l0.length ≤ c0) (h : aI62_56062.f k l0 = some r) :
    Calls Tryz.prog 56 #[.slice A0 l0.length c0, .func (.func 62) #[] #[]] w fun e w' => e = .returned (.bool r) ∧ Below w.heap.size w w' := by
 have HR0 := aM_ hr0; have HC0 := aM_ hc0; clear hr0 hc0; have HB := aM_ (Below.refl w.heap.size w); have H : ((aI62_88062.f k l0).bind fun t339 => (some (decide (t339 ≥ 0)))) = some r := h; clear h; obtain ⟨t339, A3, H⟩ := oB_ H; obtain rfl := oI_ H; go_enter Tryz.func56, Tryz.ntmps56
 go_wp2_with (first | ((with_reducible refine gC_ (f := 88) rfl ?_); refine gL_ (some 7) Tryz.func88 #[.slice A0 l0.length c0, .func (.func 62) #[] #[]] rfl ?_; (with_reducible refine (aI62_88062.calls k _ _ l0  t339 _ ?side1 ?side2 A3.out).mono ?_); (case side1 => exact rC_ HR0.out); (case side2 => exact HC0.out); rintro e w4 ⟨rfl, hb⟩; refine ⟨_, rfl, ?_⟩; replace HB := aM_ (bT_ (bl_ HB) hb)))
 go_ret; exact ⟨eR_, bl_ HB⟩
def dag_May.f (k : Nat) (l0 : List (S24)) : Option (Bool) := if (l0.length : Int) ≤ 200 then ((aI62_56062.f k l0).bind fun t340 => (some (!t340))) else (some false)
theorem dag_May.calls (k : Nat) (A0 : Option Addr) (c0 : Nat) (l0 : List (S24)) (r : Bool) (w : World) (hr0 : Kd.C k24 w A0 l0.length l0) (hc0 : l0.length ≤ c0) (h : dag_May.f k l0 = some r) :
    Calls Tryz.prog 33 #[.slice A0 l0.length c0] w fun e w' => e = .returned (.bool r) ∧ Below w.heap.size w w' := by
 have HR0 := aM_ hr0; have HC0 := aM_ hc0; clear hr0 hc0; have HB := aM_ (Below.refl w.heap.size w); have H : (if (l0.length : Int) ≤ 200 then ((aI62_56062.f k l0).bind fun t340 => (some (!t340))) else (some false)) = some r := h; clear h
 by_cases c2 : (l0.length : Int) ≤ 200
 ·rw [if_pos c2] at H; have c2b0 := dE_ c2; have c2b1 : decide (l0.length ≤ 200) = true := decide_eq_true (by omega); clear c2; obtain ⟨t340, A3, H⟩ := oB_ H; obtain rfl := oI_ H; go_enter Tryz.func33, Tryz.ntmps33
  go_wp2_with (first | (go_at_call 56; (with_reducible refine (aI62_56062.calls k _ _ l0  t340 _ ?side1 ?side2 A3.out).mono ?_); (case side1 => exact rC_ HR0.out); (case side2 => exact HC0.out); rintro e w4 ⟨rfl, hb⟩; replace HB := aM_ (bT_ (bl_ HB) hb)))
  go_ret; exact ⟨eR_, bl_ HB⟩
 rw [if_neg c2] at H; have c2b0 := dF_ c2; have c2b1 : decide (l0.length ≤ 200) = false := decide_eq_false (by omega); clear c2; obtain rfl := oI_ H; go_enter Tryz.func33, Tryz.ntmps33; go_wp2; go_ret; exact ⟨eR_, bl_ HB⟩
end Go.Proofs.YtibfkkjkahpobaaGreat.PDag
end

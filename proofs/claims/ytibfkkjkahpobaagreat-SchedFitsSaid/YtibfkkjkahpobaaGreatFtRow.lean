/- This text proves its statement, the theorem at its end, for every input that can be read: no condition. -/
import Derived.Test.YtibfkkjkahpobaaGreatFt15
import Derived.Test.YtibfkkjkahpobaaGreatFt37
import Derived.WalkKit
import Derived.ProofKit
import Derived.OpenShut
import Derived.ShutString
import Derived.ChangeOld
import Derived.Below
import Derived.SizedLaws
set_option linter.unusedVariables false
set_option linter.unusedSimpArgs false
set_option maxHeartbeats 8000000
set_option maxRecDepth 100000
namespace Go.Proofs.YtibfkkjkahpobaaGreat.schedFits
open Go.ChangeShapes Go.WideShapes Go.ChangeAt Go.RowKit Go.Proofs.YtibfkkjkahpobaaGreat.PDag Go.Proofs.YtibfkkjkahpobaaGreatW.PrintWords
open Go.ChangeMaps (open_string shut_string)
theorem lifted (os : Os) (started : os.Started) (H : Type) (enc : TypeId × Value → H) :
    ReturnsInHanded {} Tryz.checked os 4 .any (Rows.schedFitsSpec.pre6 enc Tryz.prog Tryz.f4 Rows.schedFitsRow.domain false) (Rows.schedFitsSpec.post enc Tryz.prog Tryz.f4 false true false false) := by
  refine returnsInHanded_of_change_sized (C := Tryz.checked) own started (by kernel_rfl) Tryz.func4
    (ChangeSpec.witness6 (enc := enc) (C := Tryz.checked) false ⟨#[], #[.agg #[.slice none 0 0, .int .i64 0, .int .i64 0, .int .i64 0, .int .i64 0, .int .i64 0, .string ⟨#[]⟩, .slice none 0 0, .slice none 0 0, .slice none 0 0, .slice none 0 0, .slice none 0 0]], []⟩ 8 (by kernel_rfl) (by kernel_rfl) (by kernel_rfl) (by kernel_rfl)) ?_
  intro W base args ds gs before hval0 hW hcnd hsz0 _; have hsz : (DataW.weightsEach Tryz.prog (Tryz.f4.params.toList ++ Rows.schedFitsSpec.plain.varTypes Tryz.prog) (ds ++ gs)).all (· ≤ reachBytes) = true := hsz0; have hval : ∀ (j : Nat) t v, Tryz.f4.params[j]? = some t → args[j]? = some v → Value.okWide Tryz.prog W .any base t v := hval0; have hW' := hW; obtain ⟨p, q, hA0, hV, rfl, hfz, hnd⟩ := hW; have hA : DataW.TrodAll enc Tryz.prog W 0 (fun _ => true) true Tryz.f4.params.toList args.toList ds p := hA0; rw [Tryz.params4] at hA hval hsz; obtain ⟨v0, vs0, d0, ds0, p0, q0, hargs, rfl, rfl, h0, r0⟩ := trodAll_cons hA; obtain ⟨rfl, rfl, rfl⟩ := trodAll_nil r0; obtain rfl : args = #[v0] := by cases args; simp_all
  obtain ⟨rfl, rfl⟩ := trodVars_none hV; have lt0 : ∀ x ∈ p0, x.block < W.heap.size := by obtain ⟨m, hm⟩ := h0; exact DataW.trod_lt m _ _ _ hm
  have ok0 := hval 0 37 v0 rfl rfl; unfold Value.okWide at ok0; rw [Tryz.underlying37] at ok0
  have sz0 : ∀ k ∈ d0.weights Tryz.prog 37, k ≤ reachBytes := fun k hk => by
    have := List.all_eq_true.1 hsz k (DataW.weights_mem_each (j := 0) (t := 37) (d := d0) rfl rfl k hk); simpa using this
  have k0 := h0; obtain ⟨A0, c0, lI, x, A1, c1, lN, A2, c2, lS, A3, c3, lU, A4, c4, lB, A5, c5, lC, rfl, g0, b0, g1, b1, g2, b2, g3, b3, g4, b4, g5, b5, hin⟩ := S15.ask_open ok0 h0 sz0; clear hA0 hval0 hsz0 hsz; refine (Go.Den.schedFits_walk A0 c0 lI x A1 c1 lN A2 c2 lS A3 c3 lU A4 c4 lB A5 c5 lC W g0 b0 g1 b1 g2 b2 g3 b3 g4 b4 g5 b5 hin).mono fun e W' ⟨he, bel⟩ => ?_; subst he; exact ⟨_, rfl, _, _, _, [], _, [], hW', trodAll_mk1 (shut_bool Tryz.underlying4 _), (trodAll_cons_mk (Below.trod laidOut (by kernel_rfl) (of_decide_eq_true (by kernel_rfl)) k0 bel lt0) trodAll_mk0), rfl, bel.frame _, fun h => by cases h⟩
theorem over : Rows.schedFitsRow.holds Tryz.pinned (OpenSpec.ofChange Rows.schedFitsSpec) :=
  OpenClaim.holds_of_wide 4 Tryz.f4 rfl rfl rfl rfl rfl rfl rfl ⟨rfl, rfl, rfl, rfl, rfl⟩ rfl rfl rfl rfl rfl (by kernel_rfl) Tryz.func4 (by kernel_rfl)
    (of_decide_eq_true (by kernel_rfl)) (by unfold Func.isWrapper; first | (rw [if_pos (by decide +kernel)]; kernel_rfl) | (rw [if_neg (by decide +kernel)]; exact ⟨rfl, rfl⟩))
    (fun os started H enc _ => lifted os started H enc)
theorem proved : Rows.SchedFitsSaid := over
end Go.Proofs.YtibfkkjkahpobaaGreat.schedFits
namespace Go.Proofs.YtibfkkjkahpobaaGreat
theorem schedFits_holds : Rows.SchedFitsSaid := schedFits.proved
#print axioms schedFits_holds
end Go.Proofs.YtibfkkjkahpobaaGreat

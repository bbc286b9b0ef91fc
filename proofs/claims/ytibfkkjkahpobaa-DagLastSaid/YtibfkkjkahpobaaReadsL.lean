-- the texts that this claim needs, out of this session's and its print's (wip/shrink.py)
import Derived.Test.YtibfkkjkahpobaaPDagx8L
set_option linter.unusedSimpArgs false
set_option linter.unusedVariables false
namespace Go.Proofs.Ytibfkkjkahpobaa.PDag
open Go.RowKit Go.Proofs.YtibfkkjkahpobaaW.PrintWords Go.Proofs.YtibfkkjkahpobaaW.PrintLast Go.Proofs.YtibfkkjkahpobaaW.PrintMore
def dag_reads.f (k : Nat) (a0_0 a0_1 a0_2 a0_3 a0_4 : Int) (a0_5 : ByteArray) (a1_0 a1_1 a1_2 a1_3 a1_4 : Int) (a1_5 : ByteArray) : Option Bool :=
  (isa_Read.f k a0_0 a0_1 a0_2 a0_3 a0_4 a0_5).bind fun l => (sC_121.f k l a1_0 a1_1 a1_2 a1_3 a1_4 a1_5).bind fun t => some t.1
theorem dag_reads.mono : ∀ a0 a1 a2 a3 a4 a5 a6 a7 a8 a9 a10 a11 k, LeO (dag_reads.f k a0 a1 a2 a3 a4 a5 a6 a7 a8 a9 a10 a11) (dag_reads.f (k + 1) a0 a1 a2 a3 a4 a5 a6 a7 a8 a9 a10 a11) := by
  intro a0 a1 a2 a3 a4 a5 a6 a7 a8 a9 a10 a11 k
  unfold dag_reads.f
  exact LeO.bind (isa_Read.mono _ _ _ _ _ _ _) (fun _ => LeO.bind (sC_121.mono _ _ _ _ _ _ _ _) (fun _ => LeO.refl _))
set_option maxRecDepth 100000 in
set_option maxHeartbeats 4000000 in
theorem dag_reads.calls (k : Nat) (a0_0 : Int) (a0_1 : Int) (a0_2 : Int) (a0_3 : Int) (a0_4 : Int) (a0_5 : ByteArray) (a1_0 : Int) (a1_1 : Int) (a1_2 : Int) (a1_3 : Int) (a1_4 : Int) (a1_5 : ByteArray) (r : Bool) (w : World) (h : dag_reads.f k a0_0 a0_1 a0_2 a0_3 a0_4 a0_5 a1_0 a1_1 a1_2 a1_3 a1_4 a1_5 = some r) :
    Calls Try.prog 103 #[.agg #[.int .i64 a0_0, .int .i64 a0_1, .int .i64 a0_2, .int .i64 a0_3, .int .i64 a0_4, .string a0_5], .agg #[.int .i64 a1_0, .int .i64 a1_1, .int .i64 a1_2, .int .i64 a1_3, .int .i64 a1_4, .string a1_5]] w fun e w' => e = .returned (.bool r) ∧ Below w.heap.size w w' := by
  have hu24 := Try.underlying24
  unfold dag_reads.f at h
  obtain ⟨rs, h1, h⟩ := Option.bind_eq_some_iff.mp h
  obtain ⟨⟨t1, t2, t3, t4, t5, t6, t7⟩, h2, h⟩ := Option.bind_eq_some_iff.mp h
  obtain rfl := Option.some.inj h
  have H1 := As_.mk h1
  have H2 := As_.mk h2
  clear h h1 h2
  have HB := As_.mk (Below.refl w.heap.size w)
  go_enter Try.func103, Try.ntmps103
  go_wp2_with (first | ((with_reducible refine gate_dst (N := 2) rfl ?_); refine box_event ?hg (N := 2) ?hd (cs := #[.int .i64 a0_0, .int .i64 a0_1, .int .i64 a0_2, .int .i64 a0_3, .int .i64 a0_4, .string a0_5]) (t := 24) ?hr ?_; (case hd => rfl); (case hg => rfl); (case hr => first | (go_simp; done) | (go_simp; rfl)); intro g2 hg w2 hbox hb; have hc0 := (bC_ hbox 0).trans rfl; have BX2 := As_.mk hbox; have HG2 := As_.mk hg; have HB2 := As_.mk hb; clear hbox hg hb)  | ((with_reducible refine gate_dst (N := 3) rfl ?_); refine box_event ?hg (N := 3) ?hd (cs := #[.int .i64 a1_0, .int .i64 a1_1, .int .i64 a1_2, .int .i64 a1_3, .int .i64 a1_4, .string a1_5]) (t := 24) ?hr ?_; (case hd => rfl); (case hg => rfl); (case hr => first | (go_simp; done) | (go_simp; rfl)); intro g3 hg w3 hbox hb; have q0 := (bC_ (kB_ BX2.out hb) 0).trans rfl; have q1 := (bC_ (kB_ BX2.out hb) 1).trans rfl; have q2 := (bC_ (kB_ BX2.out hb) 2).trans rfl; have q3 := (bC_ (kB_ BX2.out hb) 3).trans rfl; have q4 := (bC_ (kB_ BX2.out hb) 4).trans rfl; have q5 := (bC_ (kB_ BX2.out hb) 5).trans rfl; have BX3 := As_.mk hbox; have HG3 := As_.mk hg; have HB3 := As_.mk hb; clear hbox hg hb)  | (go_at_call 120; (with_reducible refine (isa_Read.calls k a0_0 a0_1 a0_2 a0_3 a0_4 a0_5 rs _ H1.out).mono ?_); rintro e w4 ⟨v4, rfl, ho, hb⟩; obtain ⟨Ao, co, eo⟩ := Kd.R_slice ho; subst eo; have HO := As_.mk ho; have HB4 := As_.mk hb; clear ho hb)  | (go_at_call 62; (refine (sC_121.calls k Ao co rs g3 a1_0 a1_1 a1_2 a1_3 a1_4 a1_5 t1 t2 t3 t4 t5 t6 t7 w _ ⟨kB_ BX3.out HB4.out, ?_⟩ ?_ (Kd.R_reads' HO.out).2.2 (Kd.R_reads' HO.out).2.1 ?_ H2.out).mono ?_)))
  case refine_1 => have := HG3.out; have := HB2.out.size; omega
  case refine_2 => exact HB2.out.trans ((HB3.out.mono HB2.out.size).trans (HB4.out.mono (Nat.le_trans HB2.out.size HB3.out.size)))
  case refine_3 =>
    intro ad e1 h0
    subst e1
    obtain ⟨g, cap, e2, hb, _⟩ := Kd.R_form HO.out h0
    have e3 : some ad = some ⟨g, 0, none⟩ := (by injection e2)
    obtain rfl := Option.some.inj e3
    have := blk_lt BX3.out
    show g ≠ g3
    omega
  case refine_4 =>
    rintro e w' ⟨rfl, hi, hb, hk⟩
    go_wp2
    go_ret
    exact ⟨rfl, hb⟩
end Go.Proofs.Ytibfkkjkahpobaa.PDag

import Derived.Test.YtibfkkjkahpobaaMx38
import Derived.Test.YtibfkkjkahpobaaMx15
set_option linter.unusedVariables false
set_option linter.unusedSimpArgs false
set_option maxHeartbeats 8000000
set_option maxRecDepth 100000
namespace Go.Proofs.Ytibfkkjkahpobaa.PDag
open Go.RowKit Go.Proofs.YtibfkkjkahpobaaW.PrintWords Go.Proofs.YtibfkkjkahpobaaW.PrintLast Go.Proofs.YtibfkkjkahpobaaW.PrintMore
set_option maxRecDepth 100000
theorem copy_loop (l : List S24) (hl : l.length ≤ 1000000000) : ∀ (d k i : Nat) (acc : List S24), i + d = l.length → acc.length = i → 1 + d ≤ k → r0_CopyCodes.l0 k l acc (i : Int) = some (acc ++ l.drop i)
  | 0, k, i, acc, hi, ha, hk => by
    obtain ⟨k, rfl⟩ : ∃ k', k = k' + 1 := ⟨k - 1, by omega⟩
    unfold r0_CopyCodes.l0
    rw [if_neg (by omega), List.drop_of_length_le (by omega), List.append_nil]
  | d + 1, k, i, acc, hi, ha, hk => by
    obtain ⟨k, rfl⟩ : ∃ k', k = k' + 1 := ⟨k - 1, by omega⟩
    have hlt : i < l.length := by omega
    unfold r0_CopyCodes.l0
    rw [if_pos (by omega), if_pos (by omega), if_pos (by omega), wrap_at (by omega), copy_loop l hl d k (i + 1) _ (by omega) (by simp; omega) (by omega), rd_at l i hlt, List.drop_eq_getElem_cons hlt, List.append_assoc]
    rfl
theorem copy_eq {k : Nat} (l : List S24) (hl : l.length ≤ 1000000) (hk : 2000000 ≤ k) : r0_CopyCodes.f k l = some l := by
  unfold r0_CopyCodes.f
  have := copy_loop l (by omega) l.length k 0 [] (by omega) rfl (by omega)
  simpa using this
theorem wrapT {n : Nat} (h : n ≤ 1000000000000000) : wrap64 ((n : Int) + 1) = ((n + 1 : Nat) : Int) := by unfold wrap64; omega
theorem Ev.up {α : Type} {g : Nat → Option α} {r : α} (K : Nat) (h : ∀ m, K ≤ m → g (m + 1) = some r) : Ev g r := ⟨K + 1, fun k hk => by
  obtain ⟨m, rfl⟩ : ∃ m, k = m + 1 := ⟨k - 1, by omega⟩
  exact h m (by omega)⟩
theorem texts_tot (l : List ByteArray) (h : l.length ≤ 1000000000000000) : ∀ (d i : Nat) (x : Int), i + d = l.length → ∃ r, Ev (fun k => w0_Texts.l0 k l x (i : Int)) r
  | 0, i, x, hi => ⟨x, Ev.up 0 fun m _ => by rw [w0_Texts.l0, if_neg (by omega)]⟩
  | d + 1, i, x, hi => by
    by_cases hx : x < 1048576
    · obtain ⟨r, K, hK⟩ := texts_tot l h d (i + 1) (wrap64 (x + ((rdOf ByteArray.empty l (i : Int)).size : Int))) (by omega)
      refine ⟨r, Ev.up K fun m hm => ?_⟩
      rw [w0_Texts.l0, if_pos (by omega), if_pos hx, if_pos (by omega), wrapT (by omega)]
      exact hK m hm
    · exact ⟨x, Ev.up 0 fun m _ => by rw [w0_Texts.l0, if_pos (by omega), if_neg hx]⟩
theorem codes_tot (l : List S24) (h : l.length ≤ 1000000000000000) : ∀ (d i : Nat) (x : Int), i + d = l.length → ∃ r, Ev (fun k => w0_CodesWeight.l0 k l x (i : Int)) r
  | 0, i, x, hi => ⟨x, Ev.up 0 fun m _ => by rw [w0_CodesWeight.l0, if_neg (by omega)]⟩
  | d + 1, i, x, hi => by
    by_cases hx : x < 1048576
    · obtain ⟨r, K, hK⟩ := codes_tot l h d (i + 1) (wrap64 (x + (wrap64 ((((q24 l (i : Int)).f5).size : Int) / 8)))) (by omega)
      refine ⟨r, Ev.up K fun m hm => ?_⟩
      rw [w0_CodesWeight.l0, if_pos (by omega), if_pos hx, if_pos (by omega), wrapT (by omega)]
      exact hK m hm
    · exact ⟨x, Ev.up 0 fun m _ => by rw [w0_CodesWeight.l0, if_pos (by omega), if_neg hx]⟩
section
variable (u0 : List S145) (u1 : List S147) (u2 : List S149) (u3 : List ByteArray)
theorem unit_l2 (h : u2.length ≤ 1000000000000000) : ∀ (d i : Nat) (x : Int), i + d = u2.length → ∃ r, Ev (fun k => w0_UnitWeight.l2 k x (i : Int) u0 u1 u2 u3) r
  | 0, i, x, hi => ⟨x, Ev.up 0 fun m _ => by rw [w0_UnitWeight.l2, if_neg (by omega)]⟩
  | d + 1, i, x, hi => by
    by_cases hx : x < 1048576
    · obtain ⟨r, K, hK⟩ := unit_l2 h d (i + 1) (wrap64 (x + (wrap64 ((((q149 u2 (i : Int)).f0).size : Int) / 8)))) (by omega)
      refine ⟨r, Ev.up K fun m hm => ?_⟩
      rw [w0_UnitWeight.l2, if_pos (by omega), if_pos hx, if_pos (by omega), wrapT (by omega)]
      exact hK m hm
    · exact ⟨x, Ev.up 0 fun m _ => by rw [w0_UnitWeight.l2, if_pos (by omega), if_neg hx]⟩
theorem unit_j3 (h : u2.length ≤ 1000000000000000) (x : Int) : ∃ r, Ev (fun k => w0_UnitWeight.j3 k x u0 u1 u2 u3) r := by
  obtain ⟨r, K, hK⟩ := unit_l2 u0 u1 u2 u3 h u2.length 0 x (by omega)
  exact ⟨r, Ev.up K fun m hm => by rw [w0_UnitWeight.j3]; exact hK m hm⟩
theorem unit_l1 (h : u2.length ≤ 1000000000000000) (h1 : u1.length ≤ 1000000000000000) : ∀ (d i : Nat) (x : Int), i + d = u1.length → ∃ r, Ev (fun k => w0_UnitWeight.l1 k x (i : Int) u0 u1 u2 u3) r
  | 0, i, x, hi => by
    obtain ⟨r, K, hK⟩ := unit_j3 u0 u1 u2 u3 h x
    exact ⟨r, Ev.up K fun m hm => by rw [w0_UnitWeight.l1, if_neg (by omega)]; exact hK m hm⟩
  | d + 1, i, x, hi => by
    by_cases hx : x < 1048576
    · obtain ⟨r, K, hK⟩ := unit_l1 h h1 d (i + 1) (wrap64 (x + (wrap64 ((((q147 u1 (i : Int)).f0).size : Int) / 8)))) (by omega)
      refine ⟨r, Ev.up K fun m hm => ?_⟩
      rw [w0_UnitWeight.l1, if_pos (by omega), if_pos hx, if_pos (by omega), wrapT (by omega)]
      exact hK m hm
    · obtain ⟨r, K, hK⟩ := unit_j3 u0 u1 u2 u3 h x
      exact ⟨r, Ev.up K fun m hm => by rw [w0_UnitWeight.l1, if_pos (by omega), if_neg hx]; exact hK m hm⟩
theorem unit_j1 (h : u2.length ≤ 1000000000000000) (h1 : u1.length ≤ 1000000000000000) (x : Int) : ∃ r, Ev (fun k => w0_UnitWeight.j1 k x u0 u1 u2 u3) r := by
  obtain ⟨r, K, hK⟩ := unit_l1 u0 u1 u2 u3 h h1 u1.length 0 x (by omega)
  exact ⟨r, Ev.up K fun m hm => by rw [w0_UnitWeight.j1]; exact hK m hm⟩
theorem unit_l0 (h : u2.length ≤ 1000000000000000) (h1 : u1.length ≤ 1000000000000000) (h0 : u0.length ≤ 1000000000000000) : ∀ (d i : Nat) (x : Int), i + d = u0.length → ∃ r, Ev (fun k => w0_UnitWeight.l0 k x (i : Int) u0 u1 u2 u3) r
  | 0, i, x, hi => by
    obtain ⟨r, K, hK⟩ := unit_j1 u0 u1 u2 u3 h h1 x
    exact ⟨r, Ev.up K fun m hm => by rw [w0_UnitWeight.l0, if_neg (by omega)]; exact hK m hm⟩
  | d + 1, i, x, hi => by
    by_cases hx : x < 1048576
    · obtain ⟨r, K, hK⟩ := unit_l0 h h1 h0 d (i + 1) (wrap64 (x + (wrap64 (Int.tdiv (wrap64 ((((q145 u0 (i : Int)).f0).size : Int) + (((q145 u0 (i : Int)).f1.f5).size : Int))) 8)))) (by omega)
      refine ⟨r, Ev.up K fun m hm => ?_⟩
      rw [w0_UnitWeight.l0, if_pos (by omega), if_pos hx, if_pos (by omega), wrapT (by omega)]
      exact hK m hm
    · obtain ⟨r, K, hK⟩ := unit_j1 u0 u1 u2 u3 h h1 x
      exact ⟨r, Ev.up K fun m hm => by rw [w0_UnitWeight.l0, if_pos (by omega), if_neg hx]; exact hK m hm⟩
end
theorem unit_tot (u : S140) (hu : S15.Q140 u) : ∃ r, Ev (fun k => w0_UnitWeight.f k u.f0 u.f1 u.f2 u.f3) r := by
  obtain ⟨⟨h0, _⟩, ⟨h1, _⟩, ⟨h2, _⟩, ⟨h3, _⟩⟩ := hu
  obtain ⟨t, hT⟩ := texts_tot u.f3 (by omega) u.f3.length 0 (u.f3.length : Int) (by omega)
  obtain ⟨r, hr⟩ := unit_l0 u.f0 u.f1 u.f2 u.f3 (by omega) (by omega) (by omega) u.f0.length 0 (wrap64 ((wrap64 ((wrap64 ((wrap64 ((u.f0.length : Int) + (u.f1.length : Int))) + (u.f2.length : Int))) + (u.f3.length : Int))) + (wrap64 (Int.tdiv t 8)))) (by omega)
  exact ⟨r, Ev.congr (fun k => by unfold w0_UnitWeight.f w0_Texts.f; rfl) (Ev.bind hT hr)⟩
theorem heavy12_l0 (lS : List ByteArray) (lU : List S140) (hq : ∀ u ∈ lU, S15.Q140 u) (h : lU.length ≤ 1000000000000000) : ∀ (d i : Nat) (x : Int), i + d = lU.length → ∃ r, Ev (fun k => w12_Heavy.l0 k x (i : Int) lS lU) r
  | 0, i, x, hi => ⟨_, Ev.up 0 fun m _ => by rw [w12_Heavy.l0, if_neg (by omega)]⟩
  | d + 1, i, x, hi => by
    by_cases hx : x < 1048576
    · have hm : q140 lU (i : Int) ∈ lU := by
        show lU.getD (i : Int).toNat _ ∈ lU
        rw [Int.toNat_natCast, List.getD_eq_getElem?_getD, List.getElem?_eq_getElem (by omega)]
        exact List.getElem_mem _
      obtain ⟨t, K1, h1⟩ := unit_tot _ (hq _ hm)
      obtain ⟨r, K, hK⟩ := heavy12_l0 lS lU hq h d (i + 1) (wrap64 (x + t)) (by omega)
      refine ⟨r, Ev.up (K1 + K) fun m hm => ?_⟩
      have h2 : w0_UnitWeight.f m (q140 lU (i : Int)).f0 (q140 lU (i : Int)).f1 (q140 lU (i : Int)).f2 (q140 lU (i : Int)).f3 = some t := h1 m (by omega)
      rw [w12_Heavy.l0, if_pos (by omega), if_pos hx, if_pos (by omega), h2, Option.bind_some, wrapT (by omega)]
      exact hK m (by omega)
    · exact ⟨_, Ev.up 0 fun m _ => by rw [w12_Heavy.l0, if_pos (by omega), if_neg hx]⟩
theorem heavy12_tot (lS : List ByteArray) (lU : List S140) (hS : lS.length ≤ 1000000000000000) (hq : ∀ u ∈ lU, S15.Q140 u) (h : lU.length ≤ 1000000000000000) : ∃ r, Ev (fun k => w12_Heavy.f k lS lU) r := by
  obtain ⟨t, hT⟩ := texts_tot lS hS lS.length 0 (lS.length : Int) (by omega)
  obtain ⟨r, hr⟩ := heavy12_l0 lS lU hq h lU.length 0 (wrap64 ((lU.length : Int) + (wrap64 (Int.tdiv t 16)))) (by omega)
  exact ⟨r, Ev.congr (fun k => by unfold w12_Heavy.f w0_Texts.f; rfl) (Ev.bind hT hr)⟩
theorem heavy13_l0 (lS : List ByteArray) (lU : List S140) (lB : List S73) (hS : lS.length ≤ 1000000000000000) (hq : ∀ u ∈ lU, S15.Q140 u) (h : lU.length ≤ 1000000000000000) (hB : lB.length ≤ 1000000000000000) : ∀ (d i : Nat) (x : Int), i + d = lB.length → ∃ r, Ev (fun k => w13_Heavy.l0 k x (i : Int) lS lU lB) r := by
  obtain ⟨b, K1, h1⟩ := heavy12_tot lS lU hS hq h
  have last : ∀ x : Int, ∃ r, ∀ m, K1 ≤ m → (if x > 400 then (some true) else ((w12_Heavy.f m lS lU).bind fun t807 => (some t807))) = some r := fun x => by
    by_cases hx : x > 400
    · exact ⟨true, fun m _ => by rw [if_pos hx]⟩
    · exact ⟨b, fun m hm => by
        have h2 : w12_Heavy.f m lS lU = some b := h1 m hm
        rw [if_neg hx, h2, Option.bind_some]⟩
  intro d
  induction d with
  | zero =>
    intro i x hi
    obtain ⟨r, hr⟩ := last x
    exact ⟨r, Ev.up K1 fun m hm => by rw [w13_Heavy.l0, if_neg (by omega)]; exact hr m hm⟩
  | succ d ih =>
    intro i x hi
    by_cases hx : x < 1048576
    · obtain ⟨r, K, hK⟩ := ih (i + 1) (wrap64 ((wrap64 (x + (((q73 lB (i : Int)).f0).length : Int))) + (((q73 lB (i : Int)).f1).length : Int))) (by omega)
      refine ⟨r, Ev.up K fun m hm => ?_⟩
      rw [w13_Heavy.l0, if_pos (by omega), if_pos hx, if_pos (by omega), wrapT (by omega)]
      exact hK m hm
    · obtain ⟨r, hr⟩ := last x
      exact ⟨r, Ev.up K1 fun m hm => by rw [w13_Heavy.l0, if_pos (by omega), if_neg hx]; exact hr m hm⟩
theorem heavy15_tot (lI : List S24) (x : S24) (lN : List Int) (lS : List ByteArray) (lU : List S140) (lB : List S73) (lC : List S81) (hin : S15.In15 lI x lN lS lU lB lC) : ∃ r, Ev (fun k => w15_Heavy.f k lI x.f0 x.f1 x.f2 x.f3 x.f4 x.f5 lN lS lU lB lC) r := by
  have hI := hin.i.1
  have hS := hin.s.1
  have hU := hin.u.1
  have hB := hin.b.1
  by_cases h : (lC.length : Int) > 100
  · exact ⟨true, 0, fun k _ => by show w15_Heavy.f k lI x.f0 x.f1 x.f2 x.f3 x.f4 x.f5 lN lS lU lB lC = _; unfold w15_Heavy.f; rw [if_pos h]⟩
  · obtain ⟨t, K1, h1⟩ := codes_tot lI (by omega) lI.length 0 (lI.length : Int) (by omega)
    obtain ⟨b, K2, h2⟩ := heavy13_l0 lS lU lB (by omega) hin.u.2 (by omega) (by omega) lB.length 0 (lB.length : Int) (by omega)
    have h3 : ∀ k, K1 ≤ k → w14_Heavy.f k lI x.f0 x.f1 x.f2 x.f3 x.f4 x.f5 lN = some (decide ((wrap64 (t + (lN.length : Int))) > 300)) := fun k hk => by
      have h4 : w0_CodesWeight.l0 k lI (lI.length : Int) 0 = some t := h1 k hk
      unfold w14_Heavy.f w0_CodesWeight.f
      rw [h4, Option.bind_some]
    cases hd : decide ((wrap64 (t + (lN.length : Int))) > 300) with
    | true => exact ⟨true, K1, fun k hk => by show w15_Heavy.f k lI x.f0 x.f1 x.f2 x.f3 x.f4 x.f5 lN lS lU lB lC = _; unfold w15_Heavy.f; rw [if_neg h, h3 k hk, hd, Option.bind_some, if_pos rfl]⟩
    | false =>
      refine ⟨b, K1 + K2, fun k hk => ?_⟩
      have h5 : w13_Heavy.f k lS lU lB = some b := h2 k (by omega)
      show w15_Heavy.f k lI x.f0 x.f1 x.f2 x.f3 x.f4 x.f5 lN lS lU lB lC = _
      unfold w15_Heavy.f
      rw [if_neg h, h3 k (by omega), hd, Option.bind_some, if_neg (by decide), h5, Option.bind_some]
theorem may_plain (l : List S24) (h : ∀ y ∈ l, plainI y = true) (hl : l.length ≤ 100) : mayBlk l ⟨33, 0, 0, 0, 0, ⟨#[]⟩⟩ = true ∧ mayBlk l ⟨0, 0, 0, 0, 0, ⟨#[]⟩⟩ = true := by
  have hp : allPlain l = true := by unfold allPlain; exact List.all_eq_true.2 h
  have z1 : zeroI ⟨33, 0, 0, 0, 0, ⟨#[]⟩⟩ = false := by kernel_rfl
  have z2 : zeroI ⟨0, 0, 0, 0, 0, ⟨#[]⟩⟩ = true := by kernel_rfl
  have z3 : okI ⟨33, 0, 0, 0, 0, ⟨#[]⟩⟩ = true := by kernel_rfl
  have z4 : endsOp 33 = true := by kernel_rfl
  unfold mayBlk
  rw [hp, z1, z2, z3, z4]
  constructor
  · simp; omega
  · simp; omega
theorem mixed_l1 (l : List S24) (h : ∀ y ∈ l, plainI y = true) (hl : l.length ≤ 14) : ∀ (d i : Nat), i + d = l.length → Ev (fun k => w15_SchedMixed.l1 k l (i : Int)) true
  | 0, i, hi => by
    obtain ⟨K, hK⟩ := wakes_ev
    exact Ev.up K fun m hm => by
      have h1 : w15_wakes.f m = some true := hK m hm
      rw [w15_SchedMixed.l1, if_neg (by omega), h1, Option.bind_some]
  | d + 1, i, hi => by
    obtain ⟨K, hK⟩ := mixed_l1 l h hl d (i + 1) (by omega)
    have hlen : (l.take i ++ l.drop (i + 1)).length ≤ 100 := by simp; omega
    have hp := may_plain (l.take i ++ l.drop (i + 1)) (fun y hy => by
      rcases List.mem_append.1 hy with hy | hy
      · exact h y (List.mem_of_mem_take hy)
      · exact h y (List.mem_of_mem_drop hy)) hlen
    obtain ⟨K1, h1⟩ := placed_ev _ _ hp.1
    obtain ⟨K2, h2⟩ := placed_ev _ _ hp.2
    refine Ev.up (K + K1 + K2 + 2000000) fun m hm => ?_
    have e1 : w15_placed.f m ([] : List ByteArray) (l.take i ++ l.drop (i + 1)) 33 0 0 0 0 (⟨#[]⟩ : ByteArray) = some true := h1 m (by omega)
    have e2 : w15_placed.f m ([] : List ByteArray) (l.take i ++ l.drop (i + 1)) 0 0 0 0 0 (⟨#[]⟩ : ByteArray) = some true := h2 m (by omega)
    have e3 : r0_CopyCodes.f m (l.take i) = some (l.take i) := copy_eq _ (by simp; omega) (by omega)
    have e4 : w15_SchedMixed.l1 m l ((i + 1 : Nat) : Int) = some true := hK m (by omega)
    rw [w15_SchedMixed.l1, if_pos (by omega), if_pos (by omega), if_pos (by omega), Int.toNat_natCast, e3, Option.bind_some, wrapT (by omega), if_pos (by omega), if_pos (by omega), Int.toNat_natCast, Option.bind_some, if_pos (by simp; omega), Option.bind_some, e1, Option.bind_some, if_pos rfl, e2, Option.bind_some, if_pos rfl, e4]
section
variable (lI : List S24) (a b c d e : Int) (s : ByteArray) (lN : List Int) (lS : List ByteArray) (lU : List S140) (lB : List S73) (lC : List S81)
theorem mixed_out (l : List S24) (i : Nat) (h : ∀ y ∈ l, plainI y = true) (hl : l.length ≤ 14) (hi : i = lI.length ∨ ¬ l.length < 14) (hle : i ≤ lI.length) : Ev (fun k => w15_SchedMixed.l0 k l (i : Int) lI a b c d e s lN lS lU lB lC) true := by
  obtain ⟨K, hK⟩ := mixed_l1 l h hl l.length 0 (by omega)
  have hj : ∀ m, K ≤ m → w15_SchedMixed.j1 (m + 1) l (i : Int) false lI a b c d e s lN lS lU lB lC = some true := fun m hm => by
    rw [w15_SchedMixed.j1, if_neg (by decide)]
    exact hK m hm
  refine Ev.up (K + 1) fun m hm => ?_
  obtain ⟨m, rfl⟩ : ∃ m', m = m' + 1 := ⟨m - 1, by omega⟩
  rw [w15_SchedMixed.l0]
  by_cases hlt : (i : Int) < (lI.length : Int)
  · rw [if_pos hlt, decide_eq_false (by omega)]
    exact hj m (by omega)
  · rw [if_neg hlt]
    exact hj m (by omega)
theorem mixed_l0 (hI : lI.length ≤ 1000000000000000) : ∀ (f i : Nat) (l : List S24), i + f = lI.length → (∀ y ∈ l, plainI y = true) → l.length ≤ 14 → Ev (fun k => w15_SchedMixed.l0 k l (i : Int) lI a b c d e s lN lS lU lB lC) true
  | 0, i, l, hi, hp, hl => mixed_out lI a b c d e s lN lS lU lB lC l i hp hl (.inl (by omega)) (by omega)
  | f + 1, i, l, hi, hp, hl => by
    by_cases h14 : l.length < 14
    · have hone : (lI.take (i + 1)).drop i = [q24 lI (i : Int)] := by
        have : q24 lI (i : Int) = lI[i]'(by omega) := by
          show lI.getD (i : Int).toNat _ = _
          rw [Int.toNat_natCast, List.getD_eq_getElem?_getD, List.getElem?_eq_getElem (by omega)]; rfl
        rw [this, List.drop_take]
        rw [show i + 1 - i = 1 by omega, List.drop_eq_getElem_cons (by omega)]
        rfl
      generalize hy : q24 lI (i : Int) = y at hone
      have hst : ∀ m, 700 ≤ m → r13_Straight.f m [y] = some (mayL [y]) := fun m hm => straight_eq [y] (by simp) hm
      have hm1 : mayL [y] = plainI y := by unfold mayL allPlain; simp
      have step : ∀ (l' : List S24), Ev (fun k => w15_SchedMixed.l0 k l' ((i + 1 : Nat) : Int) lI a b c d e s lN lS lU lB lC) true → (l' = if plainI y = true then l ++ [y] else l) → Ev (fun k => w15_SchedMixed.l0 k l (i : Int) lI a b c d e s lN lS lU lB lC) true := fun l' hev hl' => by
        obtain ⟨K, hK⟩ := hev
        refine Ev.up (K + 702) fun m hm => ?_
        obtain ⟨m, rfl⟩ : ∃ m', m = m' + 1 := ⟨m - 1, by omega⟩
        have hk : w15_SchedMixed.l0 m l' ((i + 1 : Nat) : Int) lI a b c d e s lN lS lU lB lC = some true := hK m (by omega)
        rw [w15_SchedMixed.l0, if_pos (by omega), decide_eq_true (by omega), w15_SchedMixed.j1, if_pos rfl, if_pos (by omega), wrapT (by omega), if_pos (by omega), if_pos (by omega), Int.toNat_natCast, Int.toNat_natCast, hone, hst m (by omega), Option.bind_some, hm1]
        cases hpy : plainI y with
        | true =>
          rw [hpy, if_pos rfl] at hl'
          rw [if_pos rfl, if_pos (by omega), if_pos (by omega), hy, ← hk, hl']
        | false =>
          rw [hpy, if_neg (by decide)] at hl'
          rw [if_neg (by decide), ← hk, hl']
      refine step _ (mixed_l0 hI f (i + 1) _ (by omega) ?_ ?_) rfl
      · intro z hz
        split at hz
        · rename_i hpy
          rcases List.mem_append.1 hz with hz | hz
          · exact hp z hz
          · rw [List.mem_singleton.1 hz]; exact hpy
        · exact hp z hz
      · split
        · simp; omega
        · omega
    · exact mixed_out lI a b c d e s lN lS lU lB lC l i hp hl (.inr h14) (by omega)
end
theorem mixed_walk : S15.LawWalk 13 := by
  intro A0 c0 lI x A1 c1 lN A2 c2 lS A3 c3 lU A4 c4 lB A5 c5 lC w g0 b0 g1 b1 g2 b2 g3 b3 g4 b4 g5 b5 hin
  obtain ⟨r, K1, h1⟩ := heavy15_tot lI x lN lS lU lB lC hin
  have hI := hin.i.1
  obtain ⟨K2, h2⟩ := mixed_l0 lI x.f0 x.f1 x.f2 x.f3 x.f4 x.f5 lN lS lU lB lC (by omega) lI.length 0 [] (by omega) (by simp) (by simp)
  refine w15_SchedMixed.calls (K1 + K2) A0 c0 lI x.f0 x.f1 x.f2 x.f3 x.f4 x.f5 A1 c1 lN A2 c2 lS A3 c3 lU A4 c4 lB A5 c5 lC true w g0 b0 g1 b1 g2 b2 g3 b3 g4 b4 g5 b5 ?_
  have e1 : w15_Heavy.f (K1 + K2) lI x.f0 x.f1 x.f2 x.f3 x.f4 x.f5 lN lS lU lB lC = some r := h1 _ (by omega)
  have e2 : w15_SchedMixed.l0 (K1 + K2) [] 0 lI x.f0 x.f1 x.f2 x.f3 x.f4 x.f5 lN lS lU lB lC = some true := h2 _ (by omega)
  unfold w15_SchedMixed.f
  rw [e1, Option.bind_some]
  cases r with
  | true => rw [if_pos rfl]
  | false => rw [if_neg (by decide), e2]
end Go.Proofs.Ytibfkkjkahpobaa.PDag

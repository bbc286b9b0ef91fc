import Derived.Test.YtibfkkjkahpobaaHx15
import Derived.Test.YtibfkkjkahpobaaHx21
set_option linter.unusedVariables false
set_option linter.unusedSimpArgs false
set_option maxHeartbeats 8000000
set_option maxRecDepth 100000
open Go.RowKit Go.Proofs.YtibfkkjkahpobaaW.PrintWords Go.Proofs.YtibfkkjkahpobaaW.PrintLast Go.Proofs.YtibfkkjkahpobaaW.PrintMore
namespace Go.Proofs.Ytibfkkjkahpobaa.PDag
section
attribute [local go_sem] max2_int min2_int max_two min_two max_three min_three max_four min_four
def w14_wakes.f (k : Nat)  : Option (Bool) := (some (([(⟨14, 1, 2, 3, 0, (⟨#[]⟩ : ByteArray)⟩ : S24), (⟨1, 4, 1, 1, 0, (⟨#[]⟩ : ByteArray)⟩ : S24)] : List (S24)) : List (S24))).bind fun y254 => ((dag_Of.f k y254).bind fun bt257 => ((dag_Heights.f k y254).bind fun bt261 => ((w14_num.f bt257.2).bind fun t265 => (if t265 = 0 then ((w14_num.f bt261.2).bind fun t266 => (if t266 = 0 then (if (bt257.1.length : Int) = 1 then (if 0 < (bt257.1.length : Int) then (if ((J51 bt257.1 0).f2) = 2 then (if (bt261.1.length : Int) = 2 then (if 0 < (bt261.1.length : Int) then (some ((rd bt261.1 0) == 3)) else (none)) else (some false)) else (some false)) else (none)) else (some false)) else (some false))) else (some false)))))
theorem w14_wakes.mono : ∀ k, LeO (w14_wakes.f k ) (w14_wakes.f (k + 1) ) := by
 intro  k
 unfold w14_wakes.f
 repeat' first
  | (with_reducible exact dag_Heights.mono _ _)
  | (with_reducible exact dag_Of.mono _ _)
  | (with_reducible exact LeO.refl _)
  | (with_reducible exact LeO.none _)
  | (with_reducible refine LeO.ite ?_ ?_)
  | (with_reducible refine LeO.bind ?_ (fun _ => ?_))
  | exact LeO.none _
  | refine LeO.ite ?_ ?_
  | refine LeO.bind ?_ (fun _ => ?_)
theorem w14_wakes.calls (k : Nat)  (r : Bool) (w : World) (h : w14_wakes.f k  = some r) :
    Calls Try.prog 26 #[] w fun e w' => e = .returned (.bool r) ∧ Below w.heap.size w w' := by
 have hu24 := Try.underlying24
 have HB := aM_ (Below.refl w.heap.size w)
 have H : ((some (([(⟨14, 1, 2, 3, 0, (⟨#[]⟩ : ByteArray)⟩ : S24), (⟨1, 4, 1, 1, 0, (⟨#[]⟩ : ByteArray)⟩ : S24)] : List (S24)) : List (S24))).bind fun y254 => ((dag_Of.f k y254).bind fun bt257 => ((dag_Heights.f k y254).bind fun bt261 => ((w14_num.f bt257.2).bind fun t265 => (if t265 = 0 then ((w14_num.f bt261.2).bind fun t266 => (if t266 = 0 then (if (bt257.1.length : Int) = 1 then (if 0 < (bt257.1.length : Int) then (if ((J51 bt257.1 0).f2) = 2 then (if (bt261.1.length : Int) = 2 then (if 0 < (bt261.1.length : Int) then (some ((rd bt261.1 0) == 3)) else (none)) else (some false)) else (some false)) else (none)) else (some false)) else (some false))) else (some false)))))) = some r := h
 clear h
 obtain ⟨y254, hy254⟩ : ∃ y_ : List (S24), y_ = (([(⟨14, 1, 2, 3, 0, (⟨#[]⟩ : ByteArray)⟩ : S24), (⟨1, 4, 1, 1, 0, (⟨#[]⟩ : ByteArray)⟩ : S24)] : List (S24))) := ⟨_, rfl⟩
 replace H : ((dag_Of.f k y254).bind fun bt257 => ((dag_Heights.f k y254).bind fun bt261 => ((w14_num.f bt257.2).bind fun t265 => (if t265 = 0 then ((w14_num.f bt261.2).bind fun t266 => (if t266 = 0 then (if (bt257.1.length : Int) = 1 then (if 0 < (bt257.1.length : Int) then (if ((J51 bt257.1 0).f2) = 2 then (if (bt261.1.length : Int) = 2 then (if 0 < (bt261.1.length : Int) then (some ((rd bt261.1 0) == 3)) else (none)) else (some false)) else (some false)) else (none)) else (some false)) else (some false))) else (some false))))) = some r := by first | (rw [hy254]; with_reducible exact H) | (have H2_ := (Option.bind_some _ _).symm.trans H; rw [hy254]; with_reducible exact H2_) | (have H2_ := (Option.bind_some _ _).symm.trans H; with_reducible exact H2_) | with_reducible exact H | (rw [hy254]; exact H) | exact H
 have Ny254 := aM_ hy254
 clear hy254
 replace H := oB_ H
 obtain ⟨⟨t257, t258⟩, A1, H⟩ := H
 replace H : ((dag_Heights.f k y254).bind fun bt261 => ((w14_num.f t258).bind fun t265 => (if t265 = 0 then ((w14_num.f bt261.2).bind fun t266 => (if t266 = 0 then (if (t257.length : Int) = 1 then (if 0 < (t257.length : Int) then (if ((J51 t257 0).f2) = 2 then (if (bt261.1.length : Int) = 2 then (if 0 < (bt261.1.length : Int) then (some ((rd bt261.1 0) == 3)) else (none)) else (some false)) else (some false)) else (none)) else (some false)) else (some false))) else (some false)))) = some r := H
 replace H := oB_ H
 obtain ⟨⟨t261, t262⟩, A2, H⟩ := H
 replace H : ((w14_num.f t258).bind fun t265 => (if t265 = 0 then ((w14_num.f t262).bind fun t266 => (if t266 = 0 then (if (t257.length : Int) = 1 then (if 0 < (t257.length : Int) then (if ((J51 t257 0).f2) = 2 then (if (t261.length : Int) = 2 then (if 0 < (t261.length : Int) then (some ((rd t261 0) == 3)) else (none)) else (some false)) else (some false)) else (none)) else (some false)) else (some false))) else (some false))) = some r := H
 replace H := oB_ H
 obtain ⟨t265, A3, H⟩ := H
 by_cases c4 : t265 = 0
 ·rw [if_pos c4] at H
  have c4b0 := bH_ c4
  have c4b1 := bF_ c4
  clear c4
  replace H := oB_ H
  obtain ⟨t266, A5, H⟩ := H
  by_cases c6 : t266 = 0
  ·rw [if_pos c6] at H
   have c6b0 := bH_ c6
   have c6b1 := bF_ c6
   clear c6
   by_cases c7 : (t257.length : Int) = 1
   ·rw [if_pos c7] at H
    have c7b0 := bH_ c7
    have c7b1 := bF_ c7
    clear c7
    by_cases c8 : 0 < (t257.length : Int)
    ·rw [if_pos c8] at H
     have c8b0 := dE_ c8
     have c8b1 : decide (0 < t257.length) = true := decide_eq_true (by omega)
     clear c8
     by_cases c9 : ((J51 t257 0).f2) = 2
     ·rw [if_pos c9] at H
      have c9b0 := bH_ c9
      have c9b1 := bF_ c9
      clear c9
      by_cases c10 : (t261.length : Int) = 2
      ·rw [if_pos c10] at H
       have c10b0 := bH_ c10
       have c10b1 := bF_ c10
       clear c10
       by_cases c11 : 0 < (t261.length : Int)
       ·rw [if_pos c11] at H
        have c11b0 := dE_ c11
        have c11b1 : decide (0 < t261.length) = true := decide_eq_true (by omega)
        clear c11
        obtain rfl := oI_ H
        go_enter Try.func26, Try.ntmps26
        go_wp2_with (first | ((with_reducible refine gate_dst (N := 8) rfl ?_); refine Kd.R_lit k24 _ 24 ?hg (N := 8) ?hd (xs := ([(⟨14, 1, 2, 3, 0, (⟨#[]⟩ : ByteArray)⟩ : S24), (⟨1, 4, 1, 1, 0, (⟨#[]⟩ : ByteArray)⟩ : S24)] : List (S24))) (inner := [.int .i64 14, .int .i64 1, .int .i64 2, .int .i64 3, .int .i64 0, .string (⟨#[]⟩ : ByteArray), .int .i64 1, .int .i64 4, .int .i64 1, .int .i64 1, .int .i64 0, .string (⟨#[]⟩ : ByteArray)]) (ok := fun _ => True) (okp := fun _ => True) ?hr ?hp (fun _ hk => hk) trivial (Below.refl _ _) (Nat.le_refl _) (by simp) ?_; (case hd => rfl); (case hg => rfl); (case hr => first | (go_simp; done) | (go_simp; rfl)); (case hp => exact (Reps.c6 (show Kd.M k24 _ _ _ (⟨14, 1, 2, 3, 0, (⟨#[]⟩ : ByteArray)⟩ : S24) [.int .i64 14, .int .i64 1, .int .i64 2, .int .i64 3, .int .i64 0, .string (⟨#[]⟩ : ByteArray)] from (k24_mkM _ _ _ (⟨14, 1, 2, 3, 0, (⟨#[]⟩ : ByteArray)⟩ : S24) )) (Reps.c6 (show Kd.M k24 _ _ _ (⟨1, 4, 1, 1, 0, (⟨#[]⟩ : ByteArray)⟩ : S24) [.int .i64 1, .int .i64 4, .int .i64 1, .int .i64 1, .int .i64 0, .string (⟨#[]⟩ : ByteArray)] from (k24_mkM _ _ _ (⟨1, 4, 1, 1, 0, (⟨#[]⟩ : ByteArray)⟩ : S24) )) (Reps.none _ _)))); intro v255 w12 ho13 hb hg_ hnew_; clear hg_ hnew_; (first | rw [← Ny254.out] at ho13 | (simp only [Int.reduceToNat] at ho13; rw [← Ny254.out] at ho13)); replace HO256 := aM_ (Kd.R_lower ho13 (bY_ (bl_ HB))); replace HB := aM_ (bT_ (bl_ HB) hb); clear hb ho13; obtain ⟨Ao14, co14, eo14⟩ := Kd.R_slice HO256.out; subst eo14) | ((with_reducible refine gC_ (f := 19) rfl ?_); refine gL_ (some 11) Try.func19 #[.slice Ao14 y254.length co14] rfl ?_; (with_reducible refine (dag_Of.calls k _ _ y254 t257 t258 _ ?side1 ?side2 A1.out).mono ?_); (case side1 => exact rC_ (Kd.R_reads' HO256.out).2.2); (case side2 => exact (Kd.R_reads' HO256.out).2.1); rintro e w15 ⟨v259, rfl, ho0, hb⟩; refine ⟨_, rfl, ?_⟩; replace HO256 := aM_ (Kd.R_below (rR_ HO256) hb); replace HO260 := aM_ (Kd.R_lower ho0 (bY_ (bl_ HB))); replace HB := aM_ (bT_ (bl_ HB) hb); (try clear ho0)) | ((with_reducible refine gC_ (f := 20) rfl ?_); refine gL_ (some 16) Try.func20 #[.slice Ao14 y254.length co14] rfl ?_; (with_reducible refine (dag_Heights.calls k _ _ y254 t261 t262 _ ?side1 ?side2 A2.out).mono ?_); (case side1 => exact rC_ (Kd.R_reads' HO256.out).2.2); (case side2 => exact (Kd.R_reads' HO256.out).2.1); rintro e w16 ⟨v263, rfl, ho0, hb⟩; refine ⟨_, rfl, ?_⟩; replace HO256 := aM_ (Kd.R_below (rR_ HO256) hb); replace HO260 := aM_ (Kd.R_below (rR_ HO260) hb); replace HO264 := aM_ (Kd.R_lower ho0 (bY_ (bl_ HB))); replace HB := aM_ (bT_ (bl_ HB) hb); (try clear ho0)) | ((with_reducible refine gC_ (f := 21) rfl ?_); refine gL_ (some 20) Try.func21 #[.int .i64 t258] rfl ?_; (with_reducible refine (w14_num.calls t258 t265 _ A3.out).mono ?_); rintro e w' ⟨rfl, ⟨nd, rfl⟩⟩; refine ⟨_, rfl, ?_⟩) | (go_at_call 21; (with_reducible refine (w14_num.calls t262 t266 _ A5.out).mono ?_); rintro e w' ⟨rfl, ⟨nd, rfl⟩⟩; obtain ⟨Ao17, co17, eo17⟩ := Kd.R_slice HO260.out; subst eo17; have p267 : 0 ≤ (0 : Int) := (by omega); have q267 : 0 < (t257.length : Int) := oD_; obtain ⟨ad267, e267, hx267_0, hx267_1, hx267_2⟩ := at_T51 (Kd.R_reads' HO260.out).2.2 0 p267 q267; cases e267; have qi267 : (0 < t257.length) = True := eq_true (by omega); (try rw [show ((0 : Int)).toNat = 0 from rfl] at hx267_0); (try rw [show 0 * 3 = 0 from rfl] at hx267_0); (try rw [Addr.add_zero'] at hx267_0); (try rw [show ((0 : Int)).toNat = 0 from rfl] at hx267_1); (try rw [show 0 * 3 = 0 from rfl] at hx267_1); (try rw [Addr.add_zero'] at hx267_1); (try rw [show ((0 : Int)).toNat = 0 from rfl] at hx267_2); (try rw [show 0 * 3 = 0 from rfl] at hx267_2); (try rw [Addr.add_zero'] at hx267_2); replace p267 := eq_true p267; replace q267 := eq_true q267; obtain ⟨Ao18, co18, eo18⟩ := Kd.R_slice HO264.out; subst eo18; have p268 : 0 ≤ (0 : Int) := (by omega); have q268 : 0 < (t261.length : Int) := oD_; obtain ⟨ad268, e268, hx268_0⟩ := Kd.at_int (Kd.R_reads' HO264.out).2.2 0 p268 q268; cases e268; have qi268 : (0 < t261.length) = True := eq_true (by omega); (try rw [show ((0 : Int)).toNat = 0 from rfl] at hx268_0); (try rw [Addr.add_zero'] at hx268_0); replace p268 := eq_true p268; replace q268 := eq_true q268))
        go_ret
        exact ⟨eR_, bl_ HB⟩
       rw [if_neg c11] at H
       exact absurd H (by simp)
      rw [if_neg c10] at H
      have c10b0 := bE_ c10
      have c10b1 := bG_ c10
      obtain rfl := oI_ H
      go_enter Try.func26, Try.ntmps26
      go_wp2_with (first | ((with_reducible refine gate_dst (N := 8) rfl ?_); refine Kd.R_lit k24 _ 24 ?hg (N := 8) ?hd (xs := ([(⟨14, 1, 2, 3, 0, (⟨#[]⟩ : ByteArray)⟩ : S24), (⟨1, 4, 1, 1, 0, (⟨#[]⟩ : ByteArray)⟩ : S24)] : List (S24))) (inner := [.int .i64 14, .int .i64 1, .int .i64 2, .int .i64 3, .int .i64 0, .string (⟨#[]⟩ : ByteArray), .int .i64 1, .int .i64 4, .int .i64 1, .int .i64 1, .int .i64 0, .string (⟨#[]⟩ : ByteArray)]) (ok := fun _ => True) (okp := fun _ => True) ?hr ?hp (fun _ hk => hk) trivial (Below.refl _ _) (Nat.le_refl _) (by simp) ?_; (case hd => rfl); (case hg => rfl); (case hr => first | (go_simp; done) | (go_simp; rfl)); (case hp => exact (Reps.c6 (show Kd.M k24 _ _ _ (⟨14, 1, 2, 3, 0, (⟨#[]⟩ : ByteArray)⟩ : S24) [.int .i64 14, .int .i64 1, .int .i64 2, .int .i64 3, .int .i64 0, .string (⟨#[]⟩ : ByteArray)] from (k24_mkM _ _ _ (⟨14, 1, 2, 3, 0, (⟨#[]⟩ : ByteArray)⟩ : S24) )) (Reps.c6 (show Kd.M k24 _ _ _ (⟨1, 4, 1, 1, 0, (⟨#[]⟩ : ByteArray)⟩ : S24) [.int .i64 1, .int .i64 4, .int .i64 1, .int .i64 1, .int .i64 0, .string (⟨#[]⟩ : ByteArray)] from (k24_mkM _ _ _ (⟨1, 4, 1, 1, 0, (⟨#[]⟩ : ByteArray)⟩ : S24) )) (Reps.none _ _)))); intro v255 w19 ho20 hb hg_ hnew_; clear hg_ hnew_; (first | rw [← Ny254.out] at ho20 | (simp only [Int.reduceToNat] at ho20; rw [← Ny254.out] at ho20)); replace HO256 := aM_ (Kd.R_lower ho20 (bY_ (bl_ HB))); replace HB := aM_ (bT_ (bl_ HB) hb); clear hb ho20; obtain ⟨Ao21, co21, eo21⟩ := Kd.R_slice HO256.out; subst eo21) | ((with_reducible refine gC_ (f := 19) rfl ?_); refine gL_ (some 11) Try.func19 #[.slice Ao21 y254.length co21] rfl ?_; (with_reducible refine (dag_Of.calls k _ _ y254 t257 t258 _ ?side1 ?side2 A1.out).mono ?_); (case side1 => exact rC_ (Kd.R_reads' HO256.out).2.2); (case side2 => exact (Kd.R_reads' HO256.out).2.1); rintro e w22 ⟨v259, rfl, ho0, hb⟩; refine ⟨_, rfl, ?_⟩; replace HO256 := aM_ (Kd.R_below (rR_ HO256) hb); replace HO260 := aM_ (Kd.R_lower ho0 (bY_ (bl_ HB))); replace HB := aM_ (bT_ (bl_ HB) hb); (try clear ho0)) | ((with_reducible refine gC_ (f := 20) rfl ?_); refine gL_ (some 16) Try.func20 #[.slice Ao21 y254.length co21] rfl ?_; (with_reducible refine (dag_Heights.calls k _ _ y254 t261 t262 _ ?side1 ?side2 A2.out).mono ?_); (case side1 => exact rC_ (Kd.R_reads' HO256.out).2.2); (case side2 => exact (Kd.R_reads' HO256.out).2.1); rintro e w23 ⟨v263, rfl, ho0, hb⟩; refine ⟨_, rfl, ?_⟩; replace HO256 := aM_ (Kd.R_below (rR_ HO256) hb); replace HO260 := aM_ (Kd.R_below (rR_ HO260) hb); replace HO264 := aM_ (Kd.R_lower ho0 (bY_ (bl_ HB))); replace HB := aM_ (bT_ (bl_ HB) hb); (try clear ho0)) | ((with_reducible refine gC_ (f := 21) rfl ?_); refine gL_ (some 20) Try.func21 #[.int .i64 t258] rfl ?_; (with_reducible refine (w14_num.calls t258 t265 _ A3.out).mono ?_); rintro e w' ⟨rfl, ⟨nd, rfl⟩⟩; refine ⟨_, rfl, ?_⟩) | (go_at_call 21; (with_reducible refine (w14_num.calls t262 t266 _ A5.out).mono ?_); rintro e w' ⟨rfl, ⟨nd, rfl⟩⟩; obtain ⟨Ao24, co24, eo24⟩ := Kd.R_slice HO260.out; subst eo24; have p267 : 0 ≤ (0 : Int) := (by omega); have q267 : 0 < (t257.length : Int) := oD_; obtain ⟨ad267, e267, hx267_0, hx267_1, hx267_2⟩ := at_T51 (Kd.R_reads' HO260.out).2.2 0 p267 q267; cases e267; have qi267 : (0 < t257.length) = True := eq_true (by omega); (try rw [show ((0 : Int)).toNat = 0 from rfl] at hx267_0); (try rw [show 0 * 3 = 0 from rfl] at hx267_0); (try rw [Addr.add_zero'] at hx267_0); (try rw [show ((0 : Int)).toNat = 0 from rfl] at hx267_1); (try rw [show 0 * 3 = 0 from rfl] at hx267_1); (try rw [Addr.add_zero'] at hx267_1); (try rw [show ((0 : Int)).toNat = 0 from rfl] at hx267_2); (try rw [show 0 * 3 = 0 from rfl] at hx267_2); (try rw [Addr.add_zero'] at hx267_2); replace p267 := eq_true p267; replace q267 := eq_true q267; obtain ⟨Ao25, co25, eo25⟩ := Kd.R_slice HO264.out; subst eo25))
      go_ret
      exact ⟨eR_, bl_ HB⟩
     rw [if_neg c9] at H
     have c9b0 := bE_ c9
     have c9b1 := bG_ c9
     obtain rfl := oI_ H
     go_enter Try.func26, Try.ntmps26
     go_wp2_with (first | ((with_reducible refine gate_dst (N := 8) rfl ?_); refine Kd.R_lit k24 _ 24 ?hg (N := 8) ?hd (xs := ([(⟨14, 1, 2, 3, 0, (⟨#[]⟩ : ByteArray)⟩ : S24), (⟨1, 4, 1, 1, 0, (⟨#[]⟩ : ByteArray)⟩ : S24)] : List (S24))) (inner := [.int .i64 14, .int .i64 1, .int .i64 2, .int .i64 3, .int .i64 0, .string (⟨#[]⟩ : ByteArray), .int .i64 1, .int .i64 4, .int .i64 1, .int .i64 1, .int .i64 0, .string (⟨#[]⟩ : ByteArray)]) (ok := fun _ => True) (okp := fun _ => True) ?hr ?hp (fun _ hk => hk) trivial (Below.refl _ _) (Nat.le_refl _) (by simp) ?_; (case hd => rfl); (case hg => rfl); (case hr => first | (go_simp; done) | (go_simp; rfl)); (case hp => exact (Reps.c6 (show Kd.M k24 _ _ _ (⟨14, 1, 2, 3, 0, (⟨#[]⟩ : ByteArray)⟩ : S24) [.int .i64 14, .int .i64 1, .int .i64 2, .int .i64 3, .int .i64 0, .string (⟨#[]⟩ : ByteArray)] from (k24_mkM _ _ _ (⟨14, 1, 2, 3, 0, (⟨#[]⟩ : ByteArray)⟩ : S24) )) (Reps.c6 (show Kd.M k24 _ _ _ (⟨1, 4, 1, 1, 0, (⟨#[]⟩ : ByteArray)⟩ : S24) [.int .i64 1, .int .i64 4, .int .i64 1, .int .i64 1, .int .i64 0, .string (⟨#[]⟩ : ByteArray)] from (k24_mkM _ _ _ (⟨1, 4, 1, 1, 0, (⟨#[]⟩ : ByteArray)⟩ : S24) )) (Reps.none _ _)))); intro v255 w26 ho27 hb hg_ hnew_; clear hg_ hnew_; (first | rw [← Ny254.out] at ho27 | (simp only [Int.reduceToNat] at ho27; rw [← Ny254.out] at ho27)); replace HO256 := aM_ (Kd.R_lower ho27 (bY_ (bl_ HB))); replace HB := aM_ (bT_ (bl_ HB) hb); clear hb ho27; obtain ⟨Ao28, co28, eo28⟩ := Kd.R_slice HO256.out; subst eo28) | ((with_reducible refine gC_ (f := 19) rfl ?_); refine gL_ (some 11) Try.func19 #[.slice Ao28 y254.length co28] rfl ?_; (with_reducible refine (dag_Of.calls k _ _ y254 t257 t258 _ ?side1 ?side2 A1.out).mono ?_); (case side1 => exact rC_ (Kd.R_reads' HO256.out).2.2); (case side2 => exact (Kd.R_reads' HO256.out).2.1); rintro e w29 ⟨v259, rfl, ho0, hb⟩; refine ⟨_, rfl, ?_⟩; replace HO256 := aM_ (Kd.R_below (rR_ HO256) hb); replace HO260 := aM_ (Kd.R_lower ho0 (bY_ (bl_ HB))); replace HB := aM_ (bT_ (bl_ HB) hb); (try clear ho0)) | ((with_reducible refine gC_ (f := 20) rfl ?_); refine gL_ (some 16) Try.func20 #[.slice Ao28 y254.length co28] rfl ?_; (with_reducible refine (dag_Heights.calls k _ _ y254 t261 t262 _ ?side1 ?side2 A2.out).mono ?_); (case side1 => exact rC_ (Kd.R_reads' HO256.out).2.2); (case side2 => exact (Kd.R_reads' HO256.out).2.1); rintro e w30 ⟨v263, rfl, ho0, hb⟩; refine ⟨_, rfl, ?_⟩; replace HO256 := aM_ (Kd.R_below (rR_ HO256) hb); replace HO260 := aM_ (Kd.R_below (rR_ HO260) hb); replace HO264 := aM_ (Kd.R_lower ho0 (bY_ (bl_ HB))); replace HB := aM_ (bT_ (bl_ HB) hb); (try clear ho0)) | ((with_reducible refine gC_ (f := 21) rfl ?_); refine gL_ (some 20) Try.func21 #[.int .i64 t258] rfl ?_; (with_reducible refine (w14_num.calls t258 t265 _ A3.out).mono ?_); rintro e w' ⟨rfl, ⟨nd, rfl⟩⟩; refine ⟨_, rfl, ?_⟩) | (go_at_call 21; (with_reducible refine (w14_num.calls t262 t266 _ A5.out).mono ?_); rintro e w' ⟨rfl, ⟨nd, rfl⟩⟩; obtain ⟨Ao31, co31, eo31⟩ := Kd.R_slice HO260.out; subst eo31; have p267 : 0 ≤ (0 : Int) := (by omega); have q267 : 0 < (t257.length : Int) := oD_; obtain ⟨ad267, e267, hx267_0, hx267_1, hx267_2⟩ := at_T51 (Kd.R_reads' HO260.out).2.2 0 p267 q267; cases e267; have qi267 : (0 < t257.length) = True := eq_true (by omega); (try rw [show ((0 : Int)).toNat = 0 from rfl] at hx267_0); (try rw [show 0 * 3 = 0 from rfl] at hx267_0); (try rw [Addr.add_zero'] at hx267_0); (try rw [show ((0 : Int)).toNat = 0 from rfl] at hx267_1); (try rw [show 0 * 3 = 0 from rfl] at hx267_1); (try rw [Addr.add_zero'] at hx267_1); (try rw [show ((0 : Int)).toNat = 0 from rfl] at hx267_2); (try rw [show 0 * 3 = 0 from rfl] at hx267_2); (try rw [Addr.add_zero'] at hx267_2); replace p267 := eq_true p267; replace q267 := eq_true q267))
     go_ret
     exact ⟨eR_, bl_ HB⟩
    rw [if_neg c8] at H
    exact absurd H (by simp)
   rw [if_neg c7] at H
   have c7b0 := bE_ c7
   have c7b1 := bG_ c7
   obtain rfl := oI_ H
   go_enter Try.func26, Try.ntmps26
   go_wp2_with (first | ((with_reducible refine gate_dst (N := 8) rfl ?_); refine Kd.R_lit k24 _ 24 ?hg (N := 8) ?hd (xs := ([(⟨14, 1, 2, 3, 0, (⟨#[]⟩ : ByteArray)⟩ : S24), (⟨1, 4, 1, 1, 0, (⟨#[]⟩ : ByteArray)⟩ : S24)] : List (S24))) (inner := [.int .i64 14, .int .i64 1, .int .i64 2, .int .i64 3, .int .i64 0, .string (⟨#[]⟩ : ByteArray), .int .i64 1, .int .i64 4, .int .i64 1, .int .i64 1, .int .i64 0, .string (⟨#[]⟩ : ByteArray)]) (ok := fun _ => True) (okp := fun _ => True) ?hr ?hp (fun _ hk => hk) trivial (Below.refl _ _) (Nat.le_refl _) (by simp) ?_; (case hd => rfl); (case hg => rfl); (case hr => first | (go_simp; done) | (go_simp; rfl)); (case hp => exact (Reps.c6 (show Kd.M k24 _ _ _ (⟨14, 1, 2, 3, 0, (⟨#[]⟩ : ByteArray)⟩ : S24) [.int .i64 14, .int .i64 1, .int .i64 2, .int .i64 3, .int .i64 0, .string (⟨#[]⟩ : ByteArray)] from (k24_mkM _ _ _ (⟨14, 1, 2, 3, 0, (⟨#[]⟩ : ByteArray)⟩ : S24) )) (Reps.c6 (show Kd.M k24 _ _ _ (⟨1, 4, 1, 1, 0, (⟨#[]⟩ : ByteArray)⟩ : S24) [.int .i64 1, .int .i64 4, .int .i64 1, .int .i64 1, .int .i64 0, .string (⟨#[]⟩ : ByteArray)] from (k24_mkM _ _ _ (⟨1, 4, 1, 1, 0, (⟨#[]⟩ : ByteArray)⟩ : S24) )) (Reps.none _ _)))); intro v255 w32 ho33 hb hg_ hnew_; clear hg_ hnew_; (first | rw [← Ny254.out] at ho33 | (simp only [Int.reduceToNat] at ho33; rw [← Ny254.out] at ho33)); replace HO256 := aM_ (Kd.R_lower ho33 (bY_ (bl_ HB))); replace HB := aM_ (bT_ (bl_ HB) hb); clear hb ho33; obtain ⟨Ao34, co34, eo34⟩ := Kd.R_slice HO256.out; subst eo34) | ((with_reducible refine gC_ (f := 19) rfl ?_); refine gL_ (some 11) Try.func19 #[.slice Ao34 y254.length co34] rfl ?_; (with_reducible refine (dag_Of.calls k _ _ y254 t257 t258 _ ?side1 ?side2 A1.out).mono ?_); (case side1 => exact rC_ (Kd.R_reads' HO256.out).2.2); (case side2 => exact (Kd.R_reads' HO256.out).2.1); rintro e w35 ⟨v259, rfl, ho0, hb⟩; refine ⟨_, rfl, ?_⟩; replace HO256 := aM_ (Kd.R_below (rR_ HO256) hb); replace HO260 := aM_ (Kd.R_lower ho0 (bY_ (bl_ HB))); replace HB := aM_ (bT_ (bl_ HB) hb); (try clear ho0)) | ((with_reducible refine gC_ (f := 20) rfl ?_); refine gL_ (some 16) Try.func20 #[.slice Ao34 y254.length co34] rfl ?_; (with_reducible refine (dag_Heights.calls k _ _ y254 t261 t262 _ ?side1 ?side2 A2.out).mono ?_); (case side1 => exact rC_ (Kd.R_reads' HO256.out).2.2); (case side2 => exact (Kd.R_reads' HO256.out).2.1); rintro e w36 ⟨v263, rfl, ho0, hb⟩; refine ⟨_, rfl, ?_⟩; replace HO256 := aM_ (Kd.R_below (rR_ HO256) hb); replace HO260 := aM_ (Kd.R_below (rR_ HO260) hb); replace HO264 := aM_ (Kd.R_lower ho0 (bY_ (bl_ HB))); replace HB := aM_ (bT_ (bl_ HB) hb); (try clear ho0)) | ((with_reducible refine gC_ (f := 21) rfl ?_); refine gL_ (some 20) Try.func21 #[.int .i64 t258] rfl ?_; (with_reducible refine (w14_num.calls t258 t265 _ A3.out).mono ?_); rintro e w' ⟨rfl, ⟨nd, rfl⟩⟩; refine ⟨_, rfl, ?_⟩) | (go_at_call 21; (with_reducible refine (w14_num.calls t262 t266 _ A5.out).mono ?_); rintro e w' ⟨rfl, ⟨nd, rfl⟩⟩; obtain ⟨Ao37, co37, eo37⟩ := Kd.R_slice HO260.out; subst eo37))
   go_ret
   exact ⟨eR_, bl_ HB⟩
  rw [if_neg c6] at H
  have c6b0 := bE_ c6
  have c6b1 := bG_ c6
  obtain rfl := oI_ H
  go_enter Try.func26, Try.ntmps26
  go_wp2_with (first | ((with_reducible refine gate_dst (N := 8) rfl ?_); refine Kd.R_lit k24 _ 24 ?hg (N := 8) ?hd (xs := ([(⟨14, 1, 2, 3, 0, (⟨#[]⟩ : ByteArray)⟩ : S24), (⟨1, 4, 1, 1, 0, (⟨#[]⟩ : ByteArray)⟩ : S24)] : List (S24))) (inner := [.int .i64 14, .int .i64 1, .int .i64 2, .int .i64 3, .int .i64 0, .string (⟨#[]⟩ : ByteArray), .int .i64 1, .int .i64 4, .int .i64 1, .int .i64 1, .int .i64 0, .string (⟨#[]⟩ : ByteArray)]) (ok := fun _ => True) (okp := fun _ => True) ?hr ?hp (fun _ hk => hk) trivial (Below.refl _ _) (Nat.le_refl _) (by simp) ?_; (case hd => rfl); (case hg => rfl); (case hr => first | (go_simp; done) | (go_simp; rfl)); (case hp => exact (Reps.c6 (show Kd.M k24 _ _ _ (⟨14, 1, 2, 3, 0, (⟨#[]⟩ : ByteArray)⟩ : S24) [.int .i64 14, .int .i64 1, .int .i64 2, .int .i64 3, .int .i64 0, .string (⟨#[]⟩ : ByteArray)] from (k24_mkM _ _ _ (⟨14, 1, 2, 3, 0, (⟨#[]⟩ : ByteArray)⟩ : S24) )) (Reps.c6 (show Kd.M k24 _ _ _ (⟨1, 4, 1, 1, 0, (⟨#[]⟩ : ByteArray)⟩ : S24) [.int .i64 1, .int .i64 4, .int .i64 1, .int .i64 1, .int .i64 0, .string (⟨#[]⟩ : ByteArray)] from (k24_mkM _ _ _ (⟨1, 4, 1, 1, 0, (⟨#[]⟩ : ByteArray)⟩ : S24) )) (Reps.none _ _)))); intro v255 w38 ho39 hb hg_ hnew_; clear hg_ hnew_; (first | rw [← Ny254.out] at ho39 | (simp only [Int.reduceToNat] at ho39; rw [← Ny254.out] at ho39)); replace HO256 := aM_ (Kd.R_lower ho39 (bY_ (bl_ HB))); replace HB := aM_ (bT_ (bl_ HB) hb); clear hb ho39; obtain ⟨Ao40, co40, eo40⟩ := Kd.R_slice HO256.out; subst eo40) | ((with_reducible refine gC_ (f := 19) rfl ?_); refine gL_ (some 11) Try.func19 #[.slice Ao40 y254.length co40] rfl ?_; (with_reducible refine (dag_Of.calls k _ _ y254 t257 t258 _ ?side1 ?side2 A1.out).mono ?_); (case side1 => exact rC_ (Kd.R_reads' HO256.out).2.2); (case side2 => exact (Kd.R_reads' HO256.out).2.1); rintro e w41 ⟨v259, rfl, ho0, hb⟩; refine ⟨_, rfl, ?_⟩; replace HO256 := aM_ (Kd.R_below (rR_ HO256) hb); replace HO260 := aM_ (Kd.R_lower ho0 (bY_ (bl_ HB))); replace HB := aM_ (bT_ (bl_ HB) hb); (try clear ho0)) | ((with_reducible refine gC_ (f := 20) rfl ?_); refine gL_ (some 16) Try.func20 #[.slice Ao40 y254.length co40] rfl ?_; (with_reducible refine (dag_Heights.calls k _ _ y254 t261 t262 _ ?side1 ?side2 A2.out).mono ?_); (case side1 => exact rC_ (Kd.R_reads' HO256.out).2.2); (case side2 => exact (Kd.R_reads' HO256.out).2.1); rintro e w42 ⟨v263, rfl, ho0, hb⟩; refine ⟨_, rfl, ?_⟩; replace HO256 := aM_ (Kd.R_below (rR_ HO256) hb); replace HO260 := aM_ (Kd.R_below (rR_ HO260) hb); replace HO264 := aM_ (Kd.R_lower ho0 (bY_ (bl_ HB))); replace HB := aM_ (bT_ (bl_ HB) hb); (try clear ho0)) | ((with_reducible refine gC_ (f := 21) rfl ?_); refine gL_ (some 20) Try.func21 #[.int .i64 t258] rfl ?_; (with_reducible refine (w14_num.calls t258 t265 _ A3.out).mono ?_); rintro e w' ⟨rfl, ⟨nd, rfl⟩⟩; refine ⟨_, rfl, ?_⟩) | (go_at_call 21; (with_reducible refine (w14_num.calls t262 t266 _ A5.out).mono ?_); rintro e w' ⟨rfl, ⟨nd, rfl⟩⟩))
  go_ret
  exact ⟨eR_, bl_ HB⟩
 rw [if_neg c4] at H
 have c4b0 := bE_ c4
 have c4b1 := bG_ c4
 obtain rfl := oI_ H
 go_enter Try.func26, Try.ntmps26
 go_wp2_with (first | ((with_reducible refine gate_dst (N := 8) rfl ?_); refine Kd.R_lit k24 _ 24 ?hg (N := 8) ?hd (xs := ([(⟨14, 1, 2, 3, 0, (⟨#[]⟩ : ByteArray)⟩ : S24), (⟨1, 4, 1, 1, 0, (⟨#[]⟩ : ByteArray)⟩ : S24)] : List (S24))) (inner := [.int .i64 14, .int .i64 1, .int .i64 2, .int .i64 3, .int .i64 0, .string (⟨#[]⟩ : ByteArray), .int .i64 1, .int .i64 4, .int .i64 1, .int .i64 1, .int .i64 0, .string (⟨#[]⟩ : ByteArray)]) (ok := fun _ => True) (okp := fun _ => True) ?hr ?hp (fun _ hk => hk) trivial (Below.refl _ _) (Nat.le_refl _) (by simp) ?_; (case hd => rfl); (case hg => rfl); (case hr => first | (go_simp; done) | (go_simp; rfl)); (case hp => exact (Reps.c6 (show Kd.M k24 _ _ _ (⟨14, 1, 2, 3, 0, (⟨#[]⟩ : ByteArray)⟩ : S24) [.int .i64 14, .int .i64 1, .int .i64 2, .int .i64 3, .int .i64 0, .string (⟨#[]⟩ : ByteArray)] from (k24_mkM _ _ _ (⟨14, 1, 2, 3, 0, (⟨#[]⟩ : ByteArray)⟩ : S24) )) (Reps.c6 (show Kd.M k24 _ _ _ (⟨1, 4, 1, 1, 0, (⟨#[]⟩ : ByteArray)⟩ : S24) [.int .i64 1, .int .i64 4, .int .i64 1, .int .i64 1, .int .i64 0, .string (⟨#[]⟩ : ByteArray)] from (k24_mkM _ _ _ (⟨1, 4, 1, 1, 0, (⟨#[]⟩ : ByteArray)⟩ : S24) )) (Reps.none _ _)))); intro v255 w43 ho44 hb hg_ hnew_; clear hg_ hnew_; (first | rw [← Ny254.out] at ho44 | (simp only [Int.reduceToNat] at ho44; rw [← Ny254.out] at ho44)); replace HO256 := aM_ (Kd.R_lower ho44 (bY_ (bl_ HB))); replace HB := aM_ (bT_ (bl_ HB) hb); clear hb ho44; obtain ⟨Ao45, co45, eo45⟩ := Kd.R_slice HO256.out; subst eo45) | ((with_reducible refine gC_ (f := 19) rfl ?_); refine gL_ (some 11) Try.func19 #[.slice Ao45 y254.length co45] rfl ?_; (with_reducible refine (dag_Of.calls k _ _ y254 t257 t258 _ ?side1 ?side2 A1.out).mono ?_); (case side1 => exact rC_ (Kd.R_reads' HO256.out).2.2); (case side2 => exact (Kd.R_reads' HO256.out).2.1); rintro e w46 ⟨v259, rfl, ho0, hb⟩; refine ⟨_, rfl, ?_⟩; replace HO256 := aM_ (Kd.R_below (rR_ HO256) hb); replace HO260 := aM_ (Kd.R_lower ho0 (bY_ (bl_ HB))); replace HB := aM_ (bT_ (bl_ HB) hb); (try clear ho0)) | ((with_reducible refine gC_ (f := 20) rfl ?_); refine gL_ (some 16) Try.func20 #[.slice Ao45 y254.length co45] rfl ?_; (with_reducible refine (dag_Heights.calls k _ _ y254 t261 t262 _ ?side1 ?side2 A2.out).mono ?_); (case side1 => exact rC_ (Kd.R_reads' HO256.out).2.2); (case side2 => exact (Kd.R_reads' HO256.out).2.1); rintro e w47 ⟨v263, rfl, ho0, hb⟩; refine ⟨_, rfl, ?_⟩; replace HO256 := aM_ (Kd.R_below (rR_ HO256) hb); replace HO260 := aM_ (Kd.R_below (rR_ HO260) hb); replace HO264 := aM_ (Kd.R_lower ho0 (bY_ (bl_ HB))); replace HB := aM_ (bT_ (bl_ HB) hb); (try clear ho0)) | ((with_reducible refine gC_ (f := 21) rfl ?_); refine gL_ (some 20) Try.func21 #[.int .i64 t258] rfl ?_; (with_reducible refine (w14_num.calls t258 t265 _ A3.out).mono ?_); rintro e w' ⟨rfl, ⟨nd, rfl⟩⟩; refine ⟨_, rfl, ?_⟩))
 go_ret
 exact ⟨eR_, bl_ HB⟩
def w0_CodesWeight.l0 : Nat → List (S24) → Int → Int → Option (Int)
  | 0, _, _, _ => none
  | k + 1, x0, x3, x4 => if x4 < (x0.length : Int) then (if x3 < 1048576 then (if 0 ≤ x4 then (w0_CodesWeight.l0 k x0 (wrap64 (x3 + (wrap64 ((((J24 x0 x4).f5).size : Int) / 8)))) (wrap64 (x4 + 1))) else (none)) else (some x3)) else (some x3)
def w0_CodesWeight.f (k : Nat) (l0 : List (S24)) : Option (Int) := w0_CodesWeight.l0 k l0 (l0.length : Int) 0
theorem w0_CodesWeight.calls (k : Nat) (A0 : Option Addr) (c0 : Nat) (l0 : List (S24)) (r : Int) (w : World) (hr0 : Kd.C k24 w A0 l0.length l0) (hc0 : l0.length ≤ c0) (h : w0_CodesWeight.f k l0 = some r) :
    Calls Try.prog 59 #[.slice A0 l0.length c0] w fun e w' => e = .returned (.int .i64 r) ∧ Dr_ w w' := by
 have HR0 := aM_ hr0
 have HC0 := aM_ hc0
 clear hr0 hc0
 have H : (w0_CodesWeight.l0 k l0 (l0.length : Int) 0) = some r := h
 clear h
 replace H := aM_ H
 go_enter Try.func59, Try.ntmps59
 go_wp2
 go_loopg [3, 4] k (fun kq v3 v4 w' => ∃ (x3_1 : Int) (x4_1 : Int), v3 = .int .i64 x3_1 ∧ v4 = .int .i64 x4_1 ∧ As_ (w0_CodesWeight.l0 kq l0 x3_1 x4_1 = some r) ∧ As_ (kq ≤ k) ∧ Dr_ w w')
 case atStart => exact ⟨((l0.length : Int)), (0), eQ_, eQ_, H, ⟨Nat.le_refl _⟩, dR_⟩
 case round =>
  clear H
  obtain ⟨x3_1, x4_1, rfl, rfl, HA, HK1, ⟨m1, rfl⟩⟩ := hrel
  cases gk with
  | zero => exact absurd HA.out (by simp [w0_CodesWeight.l0])
  | succ k1 =>
   have H := HA.out
   clear HA
   simp only [w0_CodesWeight.l0] at H
   by_cases c2 : x4_1 < (l0.length : Int)
   ·rw [if_pos c2] at H
    have c2b0 := dE_ c2
    clear c2
    by_cases c3 : x3_1 < 1048576
    ·rw [if_pos c3] at H
     have c3b0 := dE_ c3
     clear c3
     by_cases c4 : 0 ≤ x4_1
     ·rw [if_pos c4] at H
      have c4b0 := dE_ c4
      clear c4
      replace H := aM_ H
      have p269 : 0 ≤ (x4_1 : Int) := oD_
      have q269 : x4_1 < (l0.length : Int) := oD_
      obtain ⟨ad269, e269, hx269_0, hx269_1, hx269_2, hx269_3, hx269_4, hx269_5⟩ := at_T24 HR0.out x4_1 p269 q269
      cases e269
      replace p269 := eq_true p269
      replace q269 := eq_true q269
      go_wp2
      go_roundg k1
      case measure => have := HK1.out; omega
      case rel => exact ⟨(wrap64 (x3_1 + (wrap64 ((((J24 l0 x4_1).f5).size : Int) / 8)))), (wrap64 (x4_1 + 1)), eQ_, eQ_, H, ⟨by have := HK1.out; omega⟩, dR_⟩
     rw [if_neg c4] at H
     exact absurd H (by simp)
    rw [if_neg c3] at H
    have c3b0 := dF_ c3
    clear c3
    obtain rfl := oI_ H
    go_wp2
    go_ret
    exact ⟨eQ_, dR_⟩
   rw [if_neg c2] at H
   have c2b0 := dF_ c2
   clear c2
   obtain rfl := oI_ H
   go_wp2
   go_ret
   exact ⟨eQ_, dR_⟩
def w14_Heavy.f (k : Nat) (l0_0 : List (S24)) (a0_1 : Int) (a0_2 : Int) (a0_3 : Int) (a0_4 : Int) (a0_5 : Int) (a0_6 : ByteArray) (l0_7 : List Int) : Option (Bool) := (w0_CodesWeight.f k l0_0).bind fun t271 => (some (decide ((wrap64 (t271 + (l0_7.length : Int))) > 300)))
theorem w14_Heavy.calls (k : Nat) (A0_0 : Option Addr) (c0_0 : Nat) (l0_0 : List (S24)) (a0_1 : Int) (a0_2 : Int) (a0_3 : Int) (a0_4 : Int) (a0_5 : Int) (a0_6 : ByteArray) (A0_7 : Option Addr) (c0_7 : Nat) (l0_7 : List Int) (r : Bool) (w : World) (hr0_0 : Kd.C k24 w A0_0 l0_0.length l0_0) (hc0_0 : l0_0.length ≤ c0_0) (hr0_7 : Kd.C (Kd.int .i64) w A0_7 l0_7.length l0_7) (hc0_7 : l0_7.length ≤ c0_7) (h : w14_Heavy.f k l0_0 a0_1 a0_2 a0_3 a0_4 a0_5 a0_6 l0_7 = some r) :
    Calls Try.prog 28 #[.agg #[.slice A0_0 l0_0.length c0_0, .int .i64 a0_1, .int .i64 a0_2, .int .i64 a0_3, .int .i64 a0_4, .int .i64 a0_5, .string a0_6, .slice A0_7 l0_7.length c0_7]] w fun e w' => e = .returned (.bool r) ∧ Below w.heap.size w w' := by
 have hu27 := Try.underlying27
 have HR0_0 := aM_ hr0_0
 have HC0_0 := aM_ hc0_0
 clear hr0_0 hc0_0
 have HR0_7 := aM_ hr0_7
 have HC0_7 := aM_ hc0_7
 clear hr0_7 hc0_7
 have HB := aM_ (Below.refl w.heap.size w)
 have H : ((w0_CodesWeight.f k l0_0).bind fun t271 => (some (decide ((wrap64 (t271 + (l0_7.length : Int))) > 300)))) = some r := h
 clear h
 replace H := oB_ H
 obtain ⟨t271, A2, H⟩ := H
 obtain rfl := oI_ H
 go_enter Try.func28, Try.ntmps28
 go_wp2_with (first | ((with_reducible refine gate_dst (N := 1) rfl ?_); refine bX_ (N := 1) (cs := #[.slice A0_0 l0_0.length c0_0, .int .i64 a0_1, .int .i64 a0_2, .int .i64 a0_3, .int .i64 a0_4, .int .i64 a0_5, .string a0_6, .slice A0_7 l0_7.length c0_7]) (t := 27) ?_; intro gb270 hg w3 hbox hb; replace BK270 := aM_ (hbox); replace GW270 := aM_ (gE_ hg (bl_ HB)); replace GE270 := aM_ (gE_ hg (bl_ HB)); replace HB := aM_ (bT_ (bl_ HB) hb); clear hb hbox hg; obtain ⟨hcz4_0, hcz4_1, hcz4_2, hcz4_3, hcz4_4, hcz4_5, hcz4_6, hcz4_7⟩ := cl8_ BK270.out; obtain ⟨hfz4_0, hfz4_1, hfz4_2, hfz4_3, hfz4_4, hfz4_5, hfz4_6, hfz4_7⟩ := fz8_ BK270.out) | (go_at_call 59; (with_reducible refine (w0_CodesWeight.calls k _ _ l0_0 t271 _ ?side1 ?side2 A2.out).mono ?_); (case side1 => exact rC_ (Kd.C_below HR0_0.out HB.out)); (case side2 => exact HC0_0.out); rintro e w' ⟨rfl, ⟨nd, rfl⟩⟩; (try first | exact ⟨rfl, _, dN_⟩ | exact ⟨rfl, _, dT_⟩)))
 repeat (go_quiet (first | ((with_reducible refine gate_dst (N := 1) rfl ?_); refine bX_ (N := 1) (cs := #[.slice A0_0 l0_0.length c0_0, .int .i64 a0_1, .int .i64 a0_2, .int .i64 a0_3, .int .i64 a0_4, .int .i64 a0_5, .string a0_6, .slice A0_7 l0_7.length c0_7]) (t := 27) ?_; intro gb270 hg w3 hbox hb; replace BK270 := aM_ (hbox); replace GW270 := aM_ (gE_ hg (bl_ HB)); replace GE270 := aM_ (gE_ hg (bl_ HB)); replace HB := aM_ (bT_ (bl_ HB) hb); clear hb hbox hg; obtain ⟨hcz4_0, hcz4_1, hcz4_2, hcz4_3, hcz4_4, hcz4_5, hcz4_6, hcz4_7⟩ := cl8_ BK270.out; obtain ⟨hfz4_0, hfz4_1, hfz4_2, hfz4_3, hfz4_4, hfz4_5, hfz4_6, hfz4_7⟩ := fz8_ BK270.out) | (go_at_call 59; (with_reducible refine (w0_CodesWeight.calls k _ _ l0_0 t271 _ ?side1 ?side2 A2.out).mono ?_); (case side1 => exact rC_ (Kd.C_below HR0_0.out HB.out)); (case side2 => exact HC0_0.out); rintro e w' ⟨rfl, ⟨nd, rfl⟩⟩; (try first | exact ⟨rfl, _, dN_⟩ | exact ⟨rfl, _, dT_⟩))); try go_wp2_with (first | ((with_reducible refine gate_dst (N := 1) rfl ?_); refine bX_ (N := 1) (cs := #[.slice A0_0 l0_0.length c0_0, .int .i64 a0_1, .int .i64 a0_2, .int .i64 a0_3, .int .i64 a0_4, .int .i64 a0_5, .string a0_6, .slice A0_7 l0_7.length c0_7]) (t := 27) ?_; intro gb270 hg w3 hbox hb; replace BK270 := aM_ (hbox); replace GW270 := aM_ (gE_ hg (bl_ HB)); replace GE270 := aM_ (gE_ hg (bl_ HB)); replace HB := aM_ (bT_ (bl_ HB) hb); clear hb hbox hg; obtain ⟨hcz4_0, hcz4_1, hcz4_2, hcz4_3, hcz4_4, hcz4_5, hcz4_6, hcz4_7⟩ := cl8_ BK270.out; obtain ⟨hfz4_0, hfz4_1, hfz4_2, hfz4_3, hfz4_4, hfz4_5, hfz4_6, hfz4_7⟩ := fz8_ BK270.out) | (go_at_call 59; (with_reducible refine (w0_CodesWeight.calls k _ _ l0_0 t271 _ ?side1 ?side2 A2.out).mono ?_); (case side1 => exact rC_ (Kd.C_below HR0_0.out HB.out)); (case side2 => exact HC0_0.out); rintro e w' ⟨rfl, ⟨nd, rfl⟩⟩; (try first | exact ⟨rfl, _, dN_⟩ | exact ⟨rfl, _, dT_⟩))))
 go_ret
 exact ⟨eR_, bs_ HB GE270⟩
def r0_Num.f (a0 : Int) (a1 : Int) : Option (Bool) := if a0 ≥ 0 then (some (decide (a0 ≤ a1))) else (some false)
theorem r0_Num.calls (a0 : Int) (a1 : Int) (r : Bool) (w : World) (h : r0_Num.f a0 a1 = some r) :
    Calls Try.prog 35 #[.int .i64 a0, .int .i64 a1] w fun e w' => e = .returned (.bool r) ∧ Dr_ w w' := by
 have H : (if a0 ≥ 0 then (some (decide (a0 ≤ a1))) else (some false)) = some r := h
 clear h
 by_cases c3 : a0 ≥ 0
 ·rw [if_pos c3] at H
  have c3b0 := dE_ c3
  clear c3
  obtain rfl := oI_ H
  go_enter Try.func35, Try.ntmps35
  go_wp2
  go_ret
  exact ⟨eQ_, dR_⟩
 rw [if_neg c3] at H
 have c3b0 := dF_ c3
 clear c3
 obtain rfl := oI_ H
 go_enter Try.func35, Try.ntmps35
 go_wp2
 go_ret
 exact ⟨eQ_, dR_⟩
def r3_Target.f (a0 : Int) : Option (Bool) := if a0 = 8 then (some true) else (some (a0 == 9))
theorem r3_Target.calls (a0 : Int) (r : Bool) (w : World) (h : r3_Target.f a0 = some r) :
    Calls Try.prog 43 #[.int .i64 a0] w fun e w' => e = .returned (.bool r) ∧ Dr_ w w' := by
 have H : (if a0 = 8 then (some true) else (some (a0 == 9))) = some r := h
 clear h
 by_cases c2 : a0 = 8
 ·rw [if_pos c2] at H
  have c2b0 := bH_ c2
  have c2b1 := bF_ c2
  clear c2
  obtain rfl := oI_ H
  go_enter Try.func43, Try.ntmps43
  go_wp2
  go_ret
  exact ⟨eQ_, dR_⟩
 rw [if_neg c2] at H
 have c2b0 := bE_ c2
 have c2b1 := bG_ c2
 obtain rfl := oI_ H
 go_enter Try.func43, Try.ntmps43
 go_wp2
 go_ret
 exact ⟨eQ_, dR_⟩
def r3_Valid.f (a0 : Int) : Option (Bool) := (r0_Between.f a0 0 33).bind fun t272 => (some t272)
theorem r3_Valid.calls (a0 : Int) (r : Bool) (w : World) (h : r3_Valid.f a0 = some r) :
    Calls Try.prog 66 #[.int .i64 a0] w fun e w' => e = .returned (.bool r) ∧ Dr_ w w' := by
 have H : ((r0_Between.f a0 0 33).bind fun t272 => (some t272)) = some r := h
 clear h
 replace H := oB_ H
 obtain ⟨t272, A2, H⟩ := H
 obtain rfl := oI_ H
 go_enter Try.func66, Try.ntmps66
 go_wp2_with (first | ((with_reducible refine gC_ (f := 54) rfl ?_); refine gL_ (some 4) Try.func54 #[.int .i64 a0, .int .i64 0, .int .i64 33] rfl ?_; (with_reducible refine (r0_Between.calls a0 0 33 t272 _ A2.out).mono ?_); rintro e w' ⟨rfl, ⟨nd, rfl⟩⟩; refine ⟨_, rfl, ?_⟩))
 go_ret
 exact ⟨eQ_, dR_⟩
def r3_reg.f (a0 : Int) (a1 : Bool) : Option (Bool) := if a1 = true then ((r0_Num.f a0 15).bind fun t273 => (some t273)) else (some (a0 == 0))
theorem r3_reg.calls (a0 : Int) (a1 : Bool) (r : Bool) (w : World) (h : r3_reg.f a0 a1 = some r) :
    Calls Try.prog 67 #[.int .i64 a0, .bool a1] w fun e w' => e = .returned (.bool r) ∧ Dr_ w w' := by
 have H : (if a1 = true then ((r0_Num.f a0 15).bind fun t273 => (some t273)) else (some (a0 == 0))) = some r := h
 clear h
 by_cases c3 : a1 = true
 ·subst c3
  rw [if_pos rfl] at H
  replace H := oB_ H
  obtain ⟨t273, A4, H⟩ := H
  obtain rfl := oI_ H
  go_enter Try.func67, Try.ntmps67
  go_wp2_with (first | ((with_reducible refine gC_ (f := 35) rfl ?_); refine gL_ (some 7) Try.func35 #[.int .i64 a0, .int .i64 15] rfl ?_; (with_reducible refine (r0_Num.calls a0 15 t273 _ A4.out).mono ?_); rintro e w' ⟨rfl, ⟨nd, rfl⟩⟩; refine ⟨_, rfl, ?_⟩))
  go_ret
  exact ⟨eQ_, dR_⟩
 replace c3 := eF_ c3
 subst c3
 rw [if_neg Bool.false_ne_true] at H
 obtain rfl := oI_ H
 go_enter Try.func67, Try.ntmps67
 go_wp2
 go_ret
 exact ⟨eQ_, dR_⟩
end
section
attribute [local go_sem] max2_int min2_int max_two min_two max_three min_three max_four min_four
mutual
def r3_Name.j0 : Nat → ByteArray → Bool → Option (Bool)
  | 0, _, _ => none
  | k + 1, x0, x21 => if x21 = true then (some false) else (r3_Name.l0 k x0 0)
def r3_Name.l0 : Nat → ByteArray → Int → Option (Bool)
  | 0, _, _ => none
  | k + 1, x0, x3 => if x3 < (x0.size : Int) then (if 0 ≤ x3 then (if (bt x0 x3) ≥ 97 then (if (bt x0 x3) ≤ 122 then (r3_Name.j2 k x0 x3 (!true)) else (if (bt x0 x3) = 95 then (r3_Name.j2 k x0 x3 (!true)) else (if (bt x0 x3) ≥ 48 then (r3_Name.j2 k x0 x3 (!(decide ((bt x0 x3) ≤ 57)))) else (r3_Name.j2 k x0 x3 (!false))))) else (if (bt x0 x3) = 95 then (r3_Name.j2 k x0 x3 (!true)) else (if (bt x0 x3) ≥ 48 then (r3_Name.j2 k x0 x3 (!(decide ((bt x0 x3) ≤ 57)))) else (r3_Name.j2 k x0 x3 (!false))))) else (none)) else (some true)
def r3_Name.j2 : Nat → ByteArray → Int → Bool → Option (Bool)
  | 0, _, _, _ => none
  | k + 1, x0, x3, x56 => if x56 = true then (some false) else (r3_Name.l0 k x0 (wrap64 (x3 + 1)))
end
def r3_Name.f (k : Nat) (a0 : ByteArray) : Option (Bool) := if (a0.size : Int) = 0 then (r3_Name.j0 k a0 true) else (if (a0.size : Int) > 12 then (r3_Name.j0 k a0 true) else (if 0 < (a0.size : Int) then (if (bt a0 0) ≥ 48 then (r3_Name.j0 k a0 (decide ((bt a0 0) ≤ 57))) else (r3_Name.j0 k a0 false)) else (none)))
theorem r3_Name.calls (k : Nat) (a0 : ByteArray) (r : Bool) (w : World) (h : r3_Name.f k a0 = some r) :
    Calls Try.prog 68 #[.string a0] w fun e w' => e = .returned (.bool r) ∧ Dr_ w w' := by
 have H : (if (a0.size : Int) = 0 then (r3_Name.j0 k a0 true) else (if (a0.size : Int) > 12 then (r3_Name.j0 k a0 true) else (if 0 < (a0.size : Int) then (if (bt a0 0) ≥ 48 then (r3_Name.j0 k a0 (decide ((bt a0 0) ≤ 57))) else (r3_Name.j0 k a0 false)) else (none)))) = some r := h
 clear h
 have HC2 := aM_ H
 clear H
 go_enter Try.func68, Try.ntmps68
 go_upto_region 1 with (fail)
 go_cut [21] (fun v21 wc => ∃ (kq : Nat) (x21_1 : Bool), v21 = .bool x21_1 ∧ As_ (r3_Name.j0 kq a0 x21_1 = some r) ∧ As_ (kq ≤ k) ∧ Dr_ w wc)
 case first =>
  have H := HC2.out
  clear HC2
  by_cases c3 : (a0.size : Int) = 0
  ·rw [if_pos c3] at H
   have c3b0 := bH_ c3
   have c3b1 := bF_ c3
   clear c3
   (first | rw [c3b0] | (simp only [i64_w, i32_w]; rw [c3b0]) | skip)
   replace H := aM_ H
   go_wp2
   go_meet
   case rel => exact ⟨_, (true), eQ_, H, ⟨by first | omega | exact Nat.le_refl _⟩, dR_⟩
  rw [if_neg c3] at H
  have c3b0 := bE_ c3
  have c3b1 := bG_ c3
  (first | rw [c3b0] | (simp only [i64_w, i32_w]; rw [c3b0]) | skip)
  by_cases c4 : (a0.size : Int) > 12
  ·rw [if_pos c4] at H
   have c4b0 := dE_ c4
   have c4b1 : decide (12 < a0.size) = true := decide_eq_true (by omega)
   clear c4
   replace H := aM_ H
   go_wp2
   go_meet
   case rel => exact ⟨_, (true), eQ_, H, ⟨by first | omega | exact Nat.le_refl _⟩, dR_⟩
  rw [if_neg c4] at H
  have c4b0 := dF_ c4
  have c4b1 : decide (12 < a0.size) = false := decide_eq_false (by omega)
  clear c4
  by_cases c5 : 0 < (a0.size : Int)
  ·rw [if_pos c5] at H
   have c5b0 := dE_ c5
   have c5b1 : decide (0 < a0.size) = true := decide_eq_true (by omega)
   clear c5
   by_cases c7 : (bt a0 0) ≥ 48
   ·rw [if_pos c7] at H
    have c7b0 := dE_ c7
    clear c7
    replace H := aM_ H
    have p6 : 0 ≤ (0 : Int) := (by omega)
    have q6 : 0 < a0.size := (by have : (0 : Int) < (a0.size : Int) := oD_; omega)
    have hx6 : ∀ h : 0 < a0.size, ((a0[0]'h).toNat : Int) = bt a0 0 := bt_at a0 0
    clear p6
    have qi6 : (0 < (a0.size : Int)) = True := eq_true (oD_)
    replace q6 := eq_true q6
    have p8 : 0 ≤ (0 : Int) := (by omega)
    have q8 : 0 < a0.size := (by have : (0 : Int) < (a0.size : Int) := oD_; omega)
    have hx8 : ∀ h : 0 < a0.size, ((a0[0]'h).toNat : Int) = bt a0 0 := bt_at a0 0
    clear p8
    have qi8 : (0 < (a0.size : Int)) = True := eq_true (oD_)
    replace q8 := eq_true q8
    go_wp2
    go_meet
    case rel => exact ⟨_, (decide ((bt a0 0) ≤ 57)), eQ_, H, ⟨by first | omega | exact Nat.le_refl _⟩, dR_⟩
   rw [if_neg c7] at H
   have c7b0 := dF_ c7
   clear c7
   replace H := aM_ H
   have p6 : 0 ≤ (0 : Int) := (by omega)
   have q6 : 0 < a0.size := (by have : (0 : Int) < (a0.size : Int) := oD_; omega)
   have hx6 : ∀ h : 0 < a0.size, ((a0[0]'h).toNat : Int) = bt a0 0 := bt_at a0 0
   clear p6
   have qi6 : (0 < (a0.size : Int)) = True := eq_true (oD_)
   replace q6 := eq_true q6
   go_wp2
   go_meet
   case rel => exact ⟨_, (false), eQ_, H, ⟨by first | omega | exact Nat.le_refl _⟩, dR_⟩
  rw [if_neg c5] at H
  exact absurd H (by simp)
 case rest =>
  clear HC2
  obtain ⟨kq, x21_1, rfl, HA, HJ1, ⟨mc1, rfl⟩⟩ := hcut
  cases kq with
  | zero => exact absurd HA.out (by simp [r3_Name.j0])
  | succ kj1 =>
   have H := HA.out
   clear HA
   simp only [r3_Name.j0] at H
   by_cases c9 : x21_1 = true
   ·subst c9
    rw [if_pos rfl] at H
    obtain rfl := oI_ H
    go_wp2
    go_ret
    exact ⟨eQ_, dR_⟩
   replace c9 := eF_ c9
   subst c9
   rw [if_neg Bool.false_ne_true] at H
   replace H := aM_ H
   go_wp2
   go_loopg [3] kj1 (fun kq v3 w' => ∃ (x3_2 : Int), v3 = .int .i64 x3_2 ∧ As_ (r3_Name.l0 kq a0 x3_2 = some r) ∧ As_ (kq ≤ kj1) ∧ Dr_ w w')
   case atStart => exact ⟨(0), eQ_, H, ⟨Nat.le_refl _⟩, dR_⟩
   case round =>
    clear H
    obtain ⟨x3_2, rfl, HA, HK2, ⟨m2, rfl⟩⟩ := hrel
    cases gk with
    | zero => exact absurd HA.out (by simp [r3_Name.l0])
    | succ k2 =>
     have H := HA.out
     clear HA
     simp only [r3_Name.l0] at H
     by_cases c10 : x3_2 < (a0.size : Int)
     ·rw [if_pos c10] at H
      have c10b0 := dE_ c10
      clear c10
      have HC11 := aM_ H
      clear H
      go_upto_region 6 with (fail)
      go_cut [56] (fun v56 wc => ∃ (kq : Nat) (x56_10 : Bool), v56 = .bool x56_10 ∧ As_ (r3_Name.j2 kq a0 x3_2 x56_10 = some r) ∧ As_ (kq ≤ k2) ∧ Dr_ w wc)
      case first =>
       have H := HC11.out
       clear HC11
       by_cases c12 : 0 ≤ x3_2
       ·rw [if_pos c12] at H
        have c12b0 := dE_ c12
        clear c12
        (first | rw [c12b0] | (simp only [i64_w, i32_w]; rw [c12b0]) | skip)
        by_cases c14 : (bt a0 x3_2) ≥ 97
        ·rw [if_pos c14] at H
         have c14b0 := dE_ c14
         clear c14
         by_cases c16 : (bt a0 x3_2) ≤ 122
         ·rw [if_pos c16] at H
          have c16b0 := dE_ c16
          clear c16
          replace H := aM_ H
          have p13 : 0 ≤ (x3_2 : Int) := oD_
          have q13 : x3_2 < (a0.size : Int) := oD_
          have hx13 := bt_at a0 x3_2
          replace p13 := eq_true p13
          replace q13 := eq_true q13
          have p15 : 0 ≤ (x3_2 : Int) := oD_
          have q15 : x3_2 < (a0.size : Int) := oD_
          have hx15 := bt_at a0 x3_2
          replace p15 := eq_true p15
          replace q15 := eq_true q15
          go_wp2
          go_meet
          case rel => exact ⟨_, (!true), eQ_, H, ⟨by have := HJ1.out; have := HK2.out; first | omega | exact Nat.le_refl _⟩, dR_⟩
         rw [if_neg c16] at H
         have c16b0 := dF_ c16
         clear c16
         by_cases c18 : (bt a0 x3_2) = 95
         ·rw [if_pos c18] at H
          have c18b0 := bH_ c18
          have c18b1 := bF_ c18
          clear c18
          replace H := aM_ H
          have p13 : 0 ≤ (x3_2 : Int) := oD_
          have q13 : x3_2 < (a0.size : Int) := oD_
          have hx13 := bt_at a0 x3_2
          replace p13 := eq_true p13
          replace q13 := eq_true q13
          have p15 : 0 ≤ (x3_2 : Int) := oD_
          have q15 : x3_2 < (a0.size : Int) := oD_
          have hx15 := bt_at a0 x3_2
          replace p15 := eq_true p15
          replace q15 := eq_true q15
          have p17 : 0 ≤ (x3_2 : Int) := oD_
          have q17 : x3_2 < (a0.size : Int) := oD_
          have hx17 := bt_at a0 x3_2
          replace p17 := eq_true p17
          replace q17 := eq_true q17
          go_wp2
          go_meet
          case rel => exact ⟨_, (!true), eQ_, H, ⟨by have := HJ1.out; have := HK2.out; first | omega | exact Nat.le_refl _⟩, dR_⟩
         rw [if_neg c18] at H
         have c18b0 := bE_ c18
         have c18b1 := bG_ c18
         by_cases c20 : (bt a0 x3_2) ≥ 48
         ·rw [if_pos c20] at H
          have c20b0 := dE_ c20
          clear c20
          replace H := aM_ H
          have p13 : 0 ≤ (x3_2 : Int) := oD_
          have q13 : x3_2 < (a0.size : Int) := oD_
          have hx13 := bt_at a0 x3_2
          replace p13 := eq_true p13
          replace q13 := eq_true q13
          have p15 : 0 ≤ (x3_2 : Int) := oD_
          have q15 : x3_2 < (a0.size : Int) := oD_
          have hx15 := bt_at a0 x3_2
          replace p15 := eq_true p15
          replace q15 := eq_true q15
          have p17 : 0 ≤ (x3_2 : Int) := oD_
          have q17 : x3_2 < (a0.size : Int) := oD_
          have hx17 := bt_at a0 x3_2
          replace p17 := eq_true p17
          replace q17 := eq_true q17
          have p19 : 0 ≤ (x3_2 : Int) := oD_
          have q19 : x3_2 < (a0.size : Int) := oD_
          have hx19 := bt_at a0 x3_2
          replace p19 := eq_true p19
          replace q19 := eq_true q19
          have p21 : 0 ≤ (x3_2 : Int) := oD_
          have q21 : x3_2 < (a0.size : Int) := oD_
          have hx21 := bt_at a0 x3_2
          replace p21 := eq_true p21
          replace q21 := eq_true q21
          go_wp2
          go_meet
          case rel => exact ⟨_, (!(decide ((bt a0 x3_2) ≤ 57))), eQ_, H, ⟨by have := HJ1.out; have := HK2.out; first | omega | exact Nat.le_refl _⟩, dR_⟩
         rw [if_neg c20] at H
         have c20b0 := dF_ c20
         clear c20
         replace H := aM_ H
         have p13 : 0 ≤ (x3_2 : Int) := oD_
         have q13 : x3_2 < (a0.size : Int) := oD_
         have hx13 := bt_at a0 x3_2
         replace p13 := eq_true p13
         replace q13 := eq_true q13
         have p15 : 0 ≤ (x3_2 : Int) := oD_
         have q15 : x3_2 < (a0.size : Int) := oD_
         have hx15 := bt_at a0 x3_2
         replace p15 := eq_true p15
         replace q15 := eq_true q15
         have p17 : 0 ≤ (x3_2 : Int) := oD_
         have q17 : x3_2 < (a0.size : Int) := oD_
         have hx17 := bt_at a0 x3_2
         replace p17 := eq_true p17
         replace q17 := eq_true q17
         have p19 : 0 ≤ (x3_2 : Int) := oD_
         have q19 : x3_2 < (a0.size : Int) := oD_
         have hx19 := bt_at a0 x3_2
         replace p19 := eq_true p19
         replace q19 := eq_true q19
         go_wp2
         go_meet
         case rel => exact ⟨_, (!false), eQ_, H, ⟨by have := HJ1.out; have := HK2.out; first | omega | exact Nat.le_refl _⟩, dR_⟩
        rw [if_neg c14] at H
        have c14b0 := dF_ c14
        clear c14
        by_cases c23 : (bt a0 x3_2) = 95
        ·rw [if_pos c23] at H
         have c23b0 := bH_ c23
         have c23b1 := bF_ c23
         clear c23
         replace H := aM_ H
         have p13 : 0 ≤ (x3_2 : Int) := oD_
         have q13 : x3_2 < (a0.size : Int) := oD_
         have hx13 := bt_at a0 x3_2
         replace p13 := eq_true p13
         replace q13 := eq_true q13
         have p22 : 0 ≤ (x3_2 : Int) := oD_
         have q22 : x3_2 < (a0.size : Int) := oD_
         have hx22 := bt_at a0 x3_2
         replace p22 := eq_true p22
         replace q22 := eq_true q22
         go_wp2
         go_meet
         case rel => exact ⟨_, (!true), eQ_, H, ⟨by have := HJ1.out; have := HK2.out; first | omega | exact Nat.le_refl _⟩, dR_⟩
        rw [if_neg c23] at H
        have c23b0 := bE_ c23
        have c23b1 := bG_ c23
        by_cases c25 : (bt a0 x3_2) ≥ 48
        ·rw [if_pos c25] at H
         have c25b0 := dE_ c25
         clear c25
         replace H := aM_ H
         have p13 : 0 ≤ (x3_2 : Int) := oD_
         have q13 : x3_2 < (a0.size : Int) := oD_
         have hx13 := bt_at a0 x3_2
         replace p13 := eq_true p13
         replace q13 := eq_true q13
         have p22 : 0 ≤ (x3_2 : Int) := oD_
         have q22 : x3_2 < (a0.size : Int) := oD_
         have hx22 := bt_at a0 x3_2
         replace p22 := eq_true p22
         replace q22 := eq_true q22
         have p24 : 0 ≤ (x3_2 : Int) := oD_
         have q24 : x3_2 < (a0.size : Int) := oD_
         have hx24 := bt_at a0 x3_2
         replace p24 := eq_true p24
         replace q24 := eq_true q24
         have p26 : 0 ≤ (x3_2 : Int) := oD_
         have q26 : x3_2 < (a0.size : Int) := oD_
         have hx26 := bt_at a0 x3_2
         replace p26 := eq_true p26
         replace q26 := eq_true q26
         go_wp2
         go_meet
         case rel => exact ⟨_, (!(decide ((bt a0 x3_2) ≤ 57))), eQ_, H, ⟨by have := HJ1.out; have := HK2.out; first | omega | exact Nat.le_refl _⟩, dR_⟩
        rw [if_neg c25] at H
        have c25b0 := dF_ c25
        clear c25
        replace H := aM_ H
        have p13 : 0 ≤ (x3_2 : Int) := oD_
        have q13 : x3_2 < (a0.size : Int) := oD_
        have hx13 := bt_at a0 x3_2
        replace p13 := eq_true p13
        replace q13 := eq_true q13
        have p22 : 0 ≤ (x3_2 : Int) := oD_
        have q22 : x3_2 < (a0.size : Int) := oD_
        have hx22 := bt_at a0 x3_2
        replace p22 := eq_true p22
        replace q22 := eq_true q22
        have p24 : 0 ≤ (x3_2 : Int) := oD_
        have q24 : x3_2 < (a0.size : Int) := oD_
        have hx24 := bt_at a0 x3_2
        replace p24 := eq_true p24
        replace q24 := eq_true q24
        go_wp2
        go_meet
        case rel => exact ⟨_, (!false), eQ_, H, ⟨by have := HJ1.out; have := HK2.out; first | omega | exact Nat.le_refl _⟩, dR_⟩
       rw [if_neg c12] at H
       exact absurd H (by simp)
      case rest =>
       clear HC11
       obtain ⟨kq, x56_10, rfl, HA, HJ10, ⟨mc10, rfl⟩⟩ := hcut
       cases kq with
       | zero => exact absurd HA.out (by simp [r3_Name.j2])
       | succ kj10 =>
        have H := HA.out
        clear HA
        simp only [r3_Name.j2] at H
        by_cases c27 : x56_10 = true
        ·subst c27
         rw [if_pos rfl] at H
         obtain rfl := oI_ H
         go_wp2
         go_ret
         exact ⟨eQ_, dR_⟩
        replace c27 := eF_ c27
        subst c27
        rw [if_neg Bool.false_ne_true] at H
        replace H := aM_ H
        go_wp2
        go_roundg kj10
        case measure => have := HJ1.out; have := HK2.out; have := HJ10.out; omega
        case rel => exact ⟨(wrap64 (x3_2 + 1)), eQ_, H, ⟨by have := HJ1.out; have := HK2.out; have := HJ10.out; omega⟩, dR_⟩
     rw [if_neg c10] at H
     have c10b0 := dF_ c10
     clear c10
     obtain rfl := oI_ H
     go_wp2
     go_ret
     exact ⟨eQ_, dR_⟩
def r1_Fits.f (a0 : Int) (a1 : Int) : Option (Bool) := if 0 ≤ (wrap64 (a1 - 1)) then (if a0 ≥ (wrap64 (-(shl .i64 1 (wrap64 (a1 - 1))))) then (some (decide (a0 < (shl .i64 1 (wrap64 (a1 - 1)))))) else (some false)) else (none)
theorem r1_Fits.calls (a0 : Int) (a1 : Int) (r : Bool) (w : World) (h : r1_Fits.f a0 a1 = some r) :
    Calls Try.prog 69 #[.int .i64 a0, .int .i64 a1] w fun e w' => e = .returned (.bool r) ∧ Dr_ w w' := by
 have H : (if 0 ≤ (wrap64 (a1 - 1)) then (if a0 ≥ (wrap64 (-(shl .i64 1 (wrap64 (a1 - 1))))) then (some (decide (a0 < (shl .i64 1 (wrap64 (a1 - 1)))))) else (some false)) else (none)) = some r := h
 clear h
 obtain ⟨ji3, hji3⟩ : ∃ j_ : Int, (wrap64 (a1 - 1)) = j_ := ⟨_, rfl⟩
 replace H : (if 0 ≤ (ji3) then (if a0 ≥ (wrap64 (-(shl .i64 1 (ji3)))) then (some (decide (a0 < (shl .i64 1 (ji3))))) else (some false)) else (none)) = some r := by first | (rw [hji3] at H; exact H) | (simp only [hji3] at H ⊢; exact H)
 have hji3w : (IntKind.i64.wrap (a1 - 1)) = ji3 := (i64_w _).trans hji3
 by_cases c4 : 0 ≤ (ji3)
 ·rw [if_pos c4] at H
  have c4b0 := eq_true c4
  have c4b1 := dE_ c4
  clear c4
  obtain ⟨ji5, hji5⟩ : ∃ j_ : Int, (shl .i64 1 (ji3)) = j_ := ⟨_, rfl⟩
  replace H : (if a0 ≥ (wrap64 (-(ji5))) then (some (decide (a0 < (ji5)))) else (some false)) = some r := by first | (rw [hji5] at H; exact H) | (simp only [hji5] at H ⊢; exact H)
  have hji5_ : (IntKind.i64.wrap (1 * 2 ^ min (ji3).toNat 64)) = ji5 := hji5
  have hji5z : (ji3) ≤ 64 → (IntKind.i64.wrap (1 * 2 ^ (ji3).toNat)) = ji5 := shl_small hji5
  have hji5u : (IntKind.i64.wrap (2 ^ min (ji3).toNat 64)) = ji5 := by have h_ := hji5_; rw [Int.one_mul] at h_; exact h_
  have hji5v : (ji3) ≤ 64 → (IntKind.i64.wrap (2 ^ (ji3).toNat)) = ji5 := fun hle_ => by have h_ := hji5z hle_; rw [Int.one_mul] at h_; exact h_
  have hji5y : (wrap64 (1 * 2 ^ min (ji3).toNat 64)) = ji5 := (i64_w _).symm.trans hji5_
  have hji5x : (ji3) ≤ 64 → (wrap64 (1 * 2 ^ (ji3).toNat)) = ji5 := fun h_ => (i64_w _).symm.trans (hji5z h_)
  by_cases c6 : a0 ≥ (wrap64 (-(ji5)))
  ·rw [if_pos c6] at H
   have c6b0 := dE_ c6
   clear c6
   obtain rfl := oI_ H
   go_enter Try.func69, Try.ntmps69
   go_wp2
   go_ret
   exact ⟨by first | rfl | (simp; done) | (simp only [← hji3, ← hji5] <;> (first | rfl | simp)) | (simp [*]; done) | (congr 1; rw [Bool.eq_iff_iff]; simp; done), dR_⟩
  rw [if_neg c6] at H
  have c6b0 := dF_ c6
  clear c6
  obtain rfl := oI_ H
  go_enter Try.func69, Try.ntmps69
  go_wp2
  go_ret
  exact ⟨by first | rfl | (simp; done) | (simp only [← hji3, ← hji5] <;> (first | rfl | simp)) | (simp [*]; done) | (congr 1; rw [Bool.eq_iff_iff]; simp; done), dR_⟩
 rw [if_neg c4] at H
 exact absurd H (by simp)
mutual
def r3_Bits.j0 : Nat → Int → Bool → Option (Int)
  | 0, _, _ => none
  | k + 1, x3, x4 => if x4 = true then (some 14) else (if x3 = 4 then (r3_Bits.j1 k (x3 == 4)) else (r3_Bits.j1 k (x3 == 8)))
def r3_Bits.j1 : Nat → Bool → Option (Int)
  | 0, _ => none
  | k + 1, x8 => if x8 = true then (some 18) else (some 0)
end
def r3_Bits.f (k : Nat) (a0 : Int) : Option (Int) := if a0 = 3 then (r3_Bits.j0 k a0 (a0 == 3)) else (if a0 = 5 then (r3_Bits.j0 k a0 (a0 == 5)) else (r3_Bits.j0 k a0 (a0 == 9)))
theorem r3_Bits.mono_l : ∀ k, (∀ y0 y1, LeO (r3_Bits.j0 k y0 y1) (r3_Bits.j0 (k + 1) y0 y1)) ∧ (∀ y0, LeO (r3_Bits.j1 k y0) (r3_Bits.j1 (k + 1) y0))
  | 0 => ⟨fun _ _ r h => by simp [r3_Bits.j0] at h, fun _ r h => by simp [r3_Bits.j1] at h⟩
  | k + 1 => by
    obtain ⟨ih0, ih1⟩ := r3_Bits.mono_l k
    refine ⟨?_, ?_⟩
    · intro y0 y1
      unfold r3_Bits.j0
      repeat' first
      | (with_reducible exact ih0 _ _)
      | (with_reducible exact ih1 _)
      | (with_reducible exact LeO.refl _)
      | (with_reducible exact LeO.none _)
      | (with_reducible refine LeO.ite ?_ ?_)
      | (with_reducible refine LeO.bind ?_ (fun _ => ?_))
      | exact LeO.none _
      | refine LeO.ite ?_ ?_
      | refine LeO.bind ?_ (fun _ => ?_)
    · intro y0
      unfold r3_Bits.j1
      repeat' first
      | (with_reducible exact ih0 _ _)
      | (with_reducible exact ih1 _)
      | (with_reducible exact LeO.refl _)
      | (with_reducible exact LeO.none _)
      | (with_reducible refine LeO.ite ?_ ?_)
      | (with_reducible refine LeO.bind ?_ (fun _ => ?_))
      | exact LeO.none _
      | refine LeO.ite ?_ ?_
      | refine LeO.bind ?_ (fun _ => ?_)
theorem r3_Bits.mono : ∀ a0 k, LeO (r3_Bits.f k a0) (r3_Bits.f (k + 1) a0) := by
 intro a0 k
 obtain ⟨ih0, ih1⟩ := r3_Bits.mono_l k
 unfold r3_Bits.f
 repeat' first
  | (with_reducible exact ih0 _ _)
  | (with_reducible exact ih1 _)
  | (with_reducible exact LeO.refl _)
  | (with_reducible exact LeO.none _)
  | (with_reducible refine LeO.ite ?_ ?_)
  | (with_reducible refine LeO.bind ?_ (fun _ => ?_))
  | exact LeO.none _
  | refine LeO.ite ?_ ?_
  | refine LeO.bind ?_ (fun _ => ?_)
theorem r3_Bits.calls (k : Nat) (a0 : Int) (r : Int) (w : World) (h : r3_Bits.f k a0 = some r) :
    Calls Try.prog 70 #[.int .i64 a0] w fun e w' => e = .returned (.int .i64 r) ∧ Dr_ w w' := by
 have H : (if a0 = 3 then (r3_Bits.j0 k a0 (a0 == 3)) else (if a0 = 5 then (r3_Bits.j0 k a0 (a0 == 5)) else (r3_Bits.j0 k a0 (a0 == 9)))) = some r := h
 clear h
 have HC2 := aM_ H
 clear H
 go_enter Try.func70, Try.ntmps70
 go_upto_if 4 with (fail)
 go_cut [4] (fun v4 wc => ∃ (kq : Nat) (x4_1 : Bool), v4 = .bool x4_1 ∧ As_ (r3_Bits.j0 kq a0 x4_1 = some r) ∧ As_ (kq ≤ k) ∧ Dr_ w wc)
 case first =>
  have H := HC2.out
  clear HC2
  by_cases c3 : a0 = 3
  ·rw [if_pos c3] at H
   have c3b0 := bH_ c3
   have c3b1 := bF_ c3
   clear c3
   (first | rw [c3b0] | (simp only [i64_w, i32_w]; rw [c3b0]) | skip)
   replace H := aM_ H
   go_wp2
   go_meet
   case rel => exact ⟨_, ((a0 == 3)), eQ_, H, ⟨by first | omega | exact Nat.le_refl _⟩, dR_⟩
  rw [if_neg c3] at H
  have c3b0 := bE_ c3
  have c3b1 := bG_ c3
  (first | rw [c3b0] | (simp only [i64_w, i32_w]; rw [c3b0]) | skip)
  by_cases c4 : a0 = 5
  ·rw [if_pos c4] at H
   have c4b0 := bH_ c4
   have c4b1 := bF_ c4
   clear c4
   replace H := aM_ H
   go_wp2
   go_meet
   case rel => exact ⟨_, ((a0 == 5)), eQ_, H, ⟨by first | omega | exact Nat.le_refl _⟩, dR_⟩
  rw [if_neg c4] at H
  have c4b0 := bE_ c4
  have c4b1 := bG_ c4
  replace H := aM_ H
  go_wp2
  go_meet
  case rel => exact ⟨_, ((a0 == 9)), eQ_, H, ⟨by first | omega | exact Nat.le_refl _⟩, dR_⟩
 case rest =>
  clear HC2
  obtain ⟨kq, x4_1, rfl, HA, HJ1, ⟨mc1, rfl⟩⟩ := hcut
  cases kq with
  | zero => exact absurd HA.out (by simp [r3_Bits.j0])
  | succ kj1 =>
   have H := HA.out
   clear HA
   simp only [r3_Bits.j0] at H
   by_cases c5 : x4_1 = true
   ·subst c5
    rw [if_pos rfl] at H
    obtain rfl := oI_ H
    go_wp2
    go_ret
    exact ⟨eQ_, dR_⟩
   replace c5 := eF_ c5
   subst c5
   rw [if_neg Bool.false_ne_true] at H
   have HC6 := aM_ H
   clear H
   go_upto_if 8 with (fail)
   go_cut [8] (fun v8 wc => ∃ (kq : Nat) (x8_5 : Bool), v8 = .bool x8_5 ∧ As_ (r3_Bits.j1 kq x8_5 = some r) ∧ As_ (kq ≤ kj1) ∧ Dr_ w wc)
   case first =>
    have H := HC6.out
    clear HC6
    by_cases c7 : a0 = 4
    ·rw [if_pos c7] at H
     have c7b0 := bH_ c7
     have c7b1 := bF_ c7
     clear c7
     (first | rw [c7b0] | (simp only [i64_w, i32_w]; rw [c7b0]) | skip)
     replace H := aM_ H
     go_wp2
     go_meet
     case rel => exact ⟨_, ((a0 == 4)), eQ_, H, ⟨by have := HJ1.out; first | omega | exact Nat.le_refl _⟩, dR_⟩
    rw [if_neg c7] at H
    have c7b0 := bE_ c7
    have c7b1 := bG_ c7
    (first | rw [c7b0] | (simp only [i64_w, i32_w]; rw [c7b0]) | skip)
    replace H := aM_ H
    go_wp2
    go_meet
    case rel => exact ⟨_, ((a0 == 8)), eQ_, H, ⟨by have := HJ1.out; first | omega | exact Nat.le_refl _⟩, dR_⟩
   case rest =>
    clear HC6
    obtain ⟨kq, x8_5, rfl, HA, HJ5, ⟨mc5, rfl⟩⟩ := hcut
    cases kq with
    | zero => exact absurd HA.out (by simp [r3_Bits.j1])
    | succ kj5 =>
     have H := HA.out
     clear HA
     simp only [r3_Bits.j1] at H
     by_cases c8 : x8_5 = true
     ·subst c8
      rw [if_pos rfl] at H
      obtain rfl := oI_ H
      go_wp2
      go_ret
      exact ⟨eQ_, dR_⟩
     replace c8 := eF_ c8
     subst c8
     rw [if_neg Bool.false_ne_true] at H
     obtain rfl := oI_ H
     go_wp2
     go_ret
     exact ⟨eQ_, dR_⟩
end
end Go.Proofs.Ytibfkkjkahpobaa.PDag

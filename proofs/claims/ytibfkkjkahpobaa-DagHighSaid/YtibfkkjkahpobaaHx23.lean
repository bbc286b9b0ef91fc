import Derived.Test.YtibfkkjkahpobaaHx15
import Derived.Test.YtibfkkjkahpobaaHx22
import Derived.Test.YtibfkkjkahpobaaHx19
import Derived.Laws.BitsAllLaws
import Derived.Lib.Strings
import Derived.Test.YtibfkkjkahpobaaHx21
set_option linter.unusedVariables false
set_option linter.unusedSimpArgs false
set_option maxHeartbeats 8000000
set_option maxRecDepth 100000
open Go.RowKit Go.Proofs.YtibfkkjkahpobaaW.PrintWords Go.Proofs.YtibfkkjkahpobaaW.PrintLast Go.Proofs.YtibfkkjkahpobaaW.PrintMore
namespace Go.Proofs.Ytibfkkjkahpobaa.PDag
section
attribute [local go_sem] max2_int min2_int max_two min_two max_three min_three max_four min_four
def r3_Ins.j0 : Nat → Int → Bool → Int → Int → Int → Int → Int → ByteArray → Option (Bool)
  | 0, _, _, _, _, _, _, _, _ => none
  | k + 1, x3, x32, x275a, x275b, x275c, x275d, x275e, x275f => if x32 = true then (some false) else (if x275f.toList = ([] : List UInt8) then ((r3_Target.f x3).bind fun t287 => (if t287 = true then ((r0_Num.f x275e 1023).bind fun t288 => (some t288)) else ((r3_Bits.f k x3).bind fun t289 => (if t289 > 0 then ((r3_Bits.f k x3).bind fun t290 => ((r1_Fits.f x275e t289).bind fun t291 => (some t291))) else (some (x275e == 0)))))) else ((r3_Name.f k x275f).bind fun t283 => (if t283 = true then (if x275a = 23 then ((r1_Fits.f x275e 18).bind fun t284 => (if t284 = true then (some true) else ((r3_Target.f x3).bind fun t285 => (if t285 = true then (some (x275e == 0)) else (some false))))) else ((r3_Target.f x3).bind fun t286 => (if t286 = true then (some (x275e == 0)) else (some false)))) else (some false))))
def r3_Ins.f (k : Nat) (a0_0 : Int) (a0_1 : Int) (a0_2 : Int) (a0_3 : Int) (a0_4 : Int) (a0_5 : ByteArray) : Option (Bool) := (r3_Valid.f a0_0).bind fun t275 => (if t275 = true then ((r3_Form.f a0_0).bind fun t276 => ((r3_HasD.f t276).bind fun t277 => ((r3_reg.f a0_1 t277).bind fun t278 => (if t278 = true then ((r3_HasA.f t276).bind fun t279 => ((r3_reg.f a0_2 t279).bind fun t280 => (if t280 = true then ((r3_HasB.f t276).bind fun t281 => ((r3_reg.f a0_3 t281).bind fun t282 => (r3_Ins.j0 k t276 (!t282) a0_0 a0_1 a0_2 a0_3 a0_4 a0_5))) else (r3_Ins.j0 k t276 true a0_0 a0_1 a0_2 a0_3 a0_4 a0_5)))) else (r3_Ins.j0 k t276 true a0_0 a0_1 a0_2 a0_3 a0_4 a0_5))))) else (some false))
theorem r3_Ins.calls (k : Nat) (a0_0 : Int) (a0_1 : Int) (a0_2 : Int) (a0_3 : Int) (a0_4 : Int) (a0_5 : ByteArray) (r : Bool) (w : World) (h : r3_Ins.f k a0_0 a0_1 a0_2 a0_3 a0_4 a0_5 = some r) :
    Calls Try.prog 39 #[.agg #[.int .i64 a0_0, .int .i64 a0_1, .int .i64 a0_2, .int .i64 a0_3, .int .i64 a0_4, .string a0_5]] w fun e w' => e = .returned (.bool r) ∧ Below w.heap.size w w' := by
 have hu24 := Try.underlying24
 have HB := aM_ (Below.refl w.heap.size w)
 have H : ((r3_Valid.f a0_0).bind fun t275 => (if t275 = true then ((r3_Form.f a0_0).bind fun t276 => ((r3_HasD.f t276).bind fun t277 => ((r3_reg.f a0_1 t277).bind fun t278 => (if t278 = true then ((r3_HasA.f t276).bind fun t279 => ((r3_reg.f a0_2 t279).bind fun t280 => (if t280 = true then ((r3_HasB.f t276).bind fun t281 => ((r3_reg.f a0_3 t281).bind fun t282 => (r3_Ins.j0 k t276 (!t282) a0_0 a0_1 a0_2 a0_3 a0_4 a0_5))) else (r3_Ins.j0 k t276 true a0_0 a0_1 a0_2 a0_3 a0_4 a0_5)))) else (r3_Ins.j0 k t276 true a0_0 a0_1 a0_2 a0_3 a0_4 a0_5))))) else (some false))) = some r := h
 clear h
 replace H := oB_ H
 obtain ⟨t275, A2, H⟩ := H
 by_cases c3 : t275 = true
 ·subst c3
  rw [if_pos rfl] at H
  replace H := oB_ H
  obtain ⟨t276, A4, H⟩ := H
  have HC5 := aM_ H
  clear H
  go_enter Try.func39, Try.ntmps39
  go_upto_region 4 with (first | ((with_reducible refine gate_dst (N := 1) rfl ?_); refine bX_ (N := 1) (cs := #[.int .i64 a0_0, .int .i64 a0_1, .int .i64 a0_2, .int .i64 a0_3, .int .i64 a0_4, .string a0_5]) (t := 24) ?_; intro gb274 hg w6 hbox hb; replace BK274 := aM_ (hbox); replace GW274 := aM_ (gE_ hg (bl_ HB)); replace GE274 := aM_ (gE_ hg (bl_ HB)); replace HB := aM_ (bT_ (bl_ HB) hb); clear hb hbox hg; obtain ⟨hcz7_0, hcz7_1, hcz7_2, hcz7_3, hcz7_4, hcz7_5⟩ := cl6_ BK274.out; obtain ⟨hfz7_0, hfz7_1, hfz7_2, hfz7_3, hfz7_4, hfz7_5⟩ := fz6_ BK274.out) | (go_at_call 66; (with_reducible refine (r3_Valid.calls a0_0 true _ A2.out).mono ?_); rintro e w' ⟨rfl, ⟨nd, rfl⟩⟩; (try first | exact ⟨rfl, _, dN_⟩ | exact ⟨rfl, _, dT_⟩)) | (go_at_call 15; (with_reducible refine (r3_Form.calls a0_0 t276 _ A4.out).mono ?_); rintro e w8 ⟨rfl, hb⟩; replace BK274 := aM_ (kB_ (rB_ BK274) hb); replace HB := aM_ (bT_ (bs_ HB GE274) hb)))
  repeat (go_quiet (first | ((with_reducible refine gate_dst (N := 1) rfl ?_); refine bX_ (N := 1) (cs := #[.int .i64 a0_0, .int .i64 a0_1, .int .i64 a0_2, .int .i64 a0_3, .int .i64 a0_4, .string a0_5]) (t := 24) ?_; intro gb274 hg w6 hbox hb; replace BK274 := aM_ (hbox); replace GW274 := aM_ (gE_ hg (bl_ HB)); replace GE274 := aM_ (gE_ hg (bl_ HB)); replace HB := aM_ (bT_ (bl_ HB) hb); clear hb hbox hg; obtain ⟨hcz7_0, hcz7_1, hcz7_2, hcz7_3, hcz7_4, hcz7_5⟩ := cl6_ BK274.out; obtain ⟨hfz7_0, hfz7_1, hfz7_2, hfz7_3, hfz7_4, hfz7_5⟩ := fz6_ BK274.out) | (go_at_call 66; (with_reducible refine (r3_Valid.calls a0_0 true _ A2.out).mono ?_); rintro e w' ⟨rfl, ⟨nd, rfl⟩⟩; (try first | exact ⟨rfl, _, dN_⟩ | exact ⟨rfl, _, dT_⟩)) | (go_at_call 15; (with_reducible refine (r3_Form.calls a0_0 t276 _ A4.out).mono ?_); rintro e w8 ⟨rfl, hb⟩; replace BK274 := aM_ (kB_ (rB_ BK274) hb); replace HB := aM_ (bT_ (bs_ HB GE274) hb))); go_upto_region 4 with (first | ((with_reducible refine gate_dst (N := 1) rfl ?_); refine bX_ (N := 1) (cs := #[.int .i64 a0_0, .int .i64 a0_1, .int .i64 a0_2, .int .i64 a0_3, .int .i64 a0_4, .string a0_5]) (t := 24) ?_; intro gb274 hg w6 hbox hb; replace BK274 := aM_ (hbox); replace GW274 := aM_ (gE_ hg (bl_ HB)); replace GE274 := aM_ (gE_ hg (bl_ HB)); replace HB := aM_ (bT_ (bl_ HB) hb); clear hb hbox hg; obtain ⟨hcz7_0, hcz7_1, hcz7_2, hcz7_3, hcz7_4, hcz7_5⟩ := cl6_ BK274.out; obtain ⟨hfz7_0, hfz7_1, hfz7_2, hfz7_3, hfz7_4, hfz7_5⟩ := fz6_ BK274.out) | (go_at_call 66; (with_reducible refine (r3_Valid.calls a0_0 true _ A2.out).mono ?_); rintro e w' ⟨rfl, ⟨nd, rfl⟩⟩; (try first | exact ⟨rfl, _, dN_⟩ | exact ⟨rfl, _, dT_⟩)) | (go_at_call 15; (with_reducible refine (r3_Form.calls a0_0 t276 _ A4.out).mono ?_); rintro e w8 ⟨rfl, hb⟩; replace BK274 := aM_ (kB_ (rB_ BK274) hb); replace HB := aM_ (bT_ (bs_ HB GE274) hb))))
  (try simp only [Act.put, List.setIfInBounds_toArray, List.set_cons_zero, List.set_cons_succ])
  go_cut [32] (fun v32 wc => ∃ (kq : Nat) (x32_4 : Bool), v32 = .bool x32_4 ∧ As_ (r3_Ins.j0 kq t276 x32_4 a0_0 a0_1 a0_2 a0_3 a0_4 a0_5 = some r) ∧ As_ (kq ≤ k) ∧ As_ (wc.heap[gb274]? = some (.cells #[.int .i64 a0_0, .int .i64 a0_1, .int .i64 a0_2, .int .i64 a0_3, .int .i64 a0_4, .string a0_5] 24 (0, 0))) ∧ As_ (Below w.heap.size w wc))
  case first =>
   have H := HC5.out
   clear HC5
   replace H := oB_ H
   obtain ⟨t277, A9, H⟩ := H
   replace H := oB_ H
   obtain ⟨t278, A10, H⟩ := H
   by_cases c11 : t278 = true
   ·subst c11
    rw [if_pos rfl] at H
    replace H := oB_ H
    obtain ⟨t279, A12, H⟩ := H
    replace H := oB_ H
    obtain ⟨t280, A13, H⟩ := H
    by_cases c14 : t280 = true
    ·subst c14
     rw [if_pos rfl] at H
     replace H := oB_ H
     obtain ⟨t281, A15, H⟩ := H
     replace H := oB_ H
     obtain ⟨t282, A16, H⟩ := H
     replace H := aM_ H
     obtain ⟨hcz17_0, hcz17_1, hcz17_2, hcz17_3, hcz17_4, hcz17_5⟩ := cl6_ BK274.out
     obtain ⟨hfz17_0, hfz17_1, hfz17_2, hfz17_3, hfz17_4, hfz17_5⟩ := fz6_ BK274.out
     go_wp2_with (first | (go_at_call 16; (with_reducible refine (r3_HasD.calls t276 t277 _ A9.out).mono ?_); rintro e w' ⟨rfl, ⟨nd, rfl⟩⟩; (try first | exact ⟨rfl, _, dN_⟩ | exact ⟨rfl, _, dT_⟩)) | (go_at_call 67; (with_reducible refine (r3_reg.calls a0_1 t277 true _ A10.out).mono ?_); rintro e w' ⟨rfl, ⟨nd, rfl⟩⟩; (try first | exact ⟨rfl, _, dN_⟩ | exact ⟨rfl, _, dT_⟩)) | (go_at_call 17; (with_reducible refine (r3_HasA.calls t276 t279 _ A12.out).mono ?_); rintro e w' ⟨rfl, ⟨nd, rfl⟩⟩; (try first | exact ⟨rfl, _, dN_⟩ | exact ⟨rfl, _, dT_⟩)) | (go_at_call 67; (with_reducible refine (r3_reg.calls a0_2 t279 true _ A13.out).mono ?_); rintro e w' ⟨rfl, ⟨nd, rfl⟩⟩; (try first | exact ⟨rfl, _, dN_⟩ | exact ⟨rfl, _, dT_⟩)) | (go_at_call 18; (with_reducible refine (r3_HasB.calls t276 t281 _ A15.out).mono ?_); rintro e w' ⟨rfl, ⟨nd, rfl⟩⟩; (try first | exact ⟨rfl, _, dN_⟩ | exact ⟨rfl, _, dT_⟩)) | (go_at_call 67; (with_reducible refine (r3_reg.calls a0_3 t281 t282 _ A16.out).mono ?_); rintro e w' ⟨rfl, ⟨nd, rfl⟩⟩; (try first | exact ⟨rfl, _, dN_⟩ | exact ⟨rfl, _, dT_⟩)))
     repeat (go_quiet (first | (go_at_call 16; (with_reducible refine (r3_HasD.calls t276 t277 _ A9.out).mono ?_); rintro e w' ⟨rfl, ⟨nd, rfl⟩⟩; (try first | exact ⟨rfl, _, dN_⟩ | exact ⟨rfl, _, dT_⟩)) | (go_at_call 67; (with_reducible refine (r3_reg.calls a0_1 t277 true _ A10.out).mono ?_); rintro e w' ⟨rfl, ⟨nd, rfl⟩⟩; (try first | exact ⟨rfl, _, dN_⟩ | exact ⟨rfl, _, dT_⟩)) | (go_at_call 17; (with_reducible refine (r3_HasA.calls t276 t279 _ A12.out).mono ?_); rintro e w' ⟨rfl, ⟨nd, rfl⟩⟩; (try first | exact ⟨rfl, _, dN_⟩ | exact ⟨rfl, _, dT_⟩)) | (go_at_call 67; (with_reducible refine (r3_reg.calls a0_2 t279 true _ A13.out).mono ?_); rintro e w' ⟨rfl, ⟨nd, rfl⟩⟩; (try first | exact ⟨rfl, _, dN_⟩ | exact ⟨rfl, _, dT_⟩)) | (go_at_call 18; (with_reducible refine (r3_HasB.calls t276 t281 _ A15.out).mono ?_); rintro e w' ⟨rfl, ⟨nd, rfl⟩⟩; (try first | exact ⟨rfl, _, dN_⟩ | exact ⟨rfl, _, dT_⟩)) | (go_at_call 67; (with_reducible refine (r3_reg.calls a0_3 t281 t282 _ A16.out).mono ?_); rintro e w' ⟨rfl, ⟨nd, rfl⟩⟩; (try first | exact ⟨rfl, _, dN_⟩ | exact ⟨rfl, _, dT_⟩))); try go_wp2_with (first | (go_at_call 16; (with_reducible refine (r3_HasD.calls t276 t277 _ A9.out).mono ?_); rintro e w' ⟨rfl, ⟨nd, rfl⟩⟩; (try first | exact ⟨rfl, _, dN_⟩ | exact ⟨rfl, _, dT_⟩)) | (go_at_call 67; (with_reducible refine (r3_reg.calls a0_1 t277 true _ A10.out).mono ?_); rintro e w' ⟨rfl, ⟨nd, rfl⟩⟩; (try first | exact ⟨rfl, _, dN_⟩ | exact ⟨rfl, _, dT_⟩)) | (go_at_call 17; (with_reducible refine (r3_HasA.calls t276 t279 _ A12.out).mono ?_); rintro e w' ⟨rfl, ⟨nd, rfl⟩⟩; (try first | exact ⟨rfl, _, dN_⟩ | exact ⟨rfl, _, dT_⟩)) | (go_at_call 67; (with_reducible refine (r3_reg.calls a0_2 t279 true _ A13.out).mono ?_); rintro e w' ⟨rfl, ⟨nd, rfl⟩⟩; (try first | exact ⟨rfl, _, dN_⟩ | exact ⟨rfl, _, dT_⟩)) | (go_at_call 18; (with_reducible refine (r3_HasB.calls t276 t281 _ A15.out).mono ?_); rintro e w' ⟨rfl, ⟨nd, rfl⟩⟩; (try first | exact ⟨rfl, _, dN_⟩ | exact ⟨rfl, _, dT_⟩)) | (go_at_call 67; (with_reducible refine (r3_reg.calls a0_3 t281 t282 _ A16.out).mono ?_); rintro e w' ⟨rfl, ⟨nd, rfl⟩⟩; (try first | exact ⟨rfl, _, dN_⟩ | exact ⟨rfl, _, dT_⟩))))
     go_meet
     case rel => exact ⟨_, (!t282), eQ_, H, ⟨by first | omega | exact Nat.le_refl _⟩, ⟨rB_ BK274⟩, ⟨bs_ HB GE274⟩⟩
    replace c14 := eF_ c14
    subst c14
    rw [if_neg Bool.false_ne_true] at H
    replace H := aM_ H
    obtain ⟨hcz18_0, hcz18_1, hcz18_2, hcz18_3, hcz18_4, hcz18_5⟩ := cl6_ BK274.out
    obtain ⟨hfz18_0, hfz18_1, hfz18_2, hfz18_3, hfz18_4, hfz18_5⟩ := fz6_ BK274.out
    go_wp2_with (first | (go_at_call 16; (with_reducible refine (r3_HasD.calls t276 t277 _ A9.out).mono ?_); rintro e w' ⟨rfl, ⟨nd, rfl⟩⟩; (try first | exact ⟨rfl, _, dN_⟩ | exact ⟨rfl, _, dT_⟩)) | (go_at_call 67; (with_reducible refine (r3_reg.calls a0_1 t277 true _ A10.out).mono ?_); rintro e w' ⟨rfl, ⟨nd, rfl⟩⟩; (try first | exact ⟨rfl, _, dN_⟩ | exact ⟨rfl, _, dT_⟩)) | (go_at_call 17; (with_reducible refine (r3_HasA.calls t276 t279 _ A12.out).mono ?_); rintro e w' ⟨rfl, ⟨nd, rfl⟩⟩; (try first | exact ⟨rfl, _, dN_⟩ | exact ⟨rfl, _, dT_⟩)) | (go_at_call 67; (with_reducible refine (r3_reg.calls a0_2 t279 false _ A13.out).mono ?_); rintro e w' ⟨rfl, ⟨nd, rfl⟩⟩; (try first | exact ⟨rfl, _, dN_⟩ | exact ⟨rfl, _, dT_⟩)))
    repeat (go_quiet (first | (go_at_call 16; (with_reducible refine (r3_HasD.calls t276 t277 _ A9.out).mono ?_); rintro e w' ⟨rfl, ⟨nd, rfl⟩⟩; (try first | exact ⟨rfl, _, dN_⟩ | exact ⟨rfl, _, dT_⟩)) | (go_at_call 67; (with_reducible refine (r3_reg.calls a0_1 t277 true _ A10.out).mono ?_); rintro e w' ⟨rfl, ⟨nd, rfl⟩⟩; (try first | exact ⟨rfl, _, dN_⟩ | exact ⟨rfl, _, dT_⟩)) | (go_at_call 17; (with_reducible refine (r3_HasA.calls t276 t279 _ A12.out).mono ?_); rintro e w' ⟨rfl, ⟨nd, rfl⟩⟩; (try first | exact ⟨rfl, _, dN_⟩ | exact ⟨rfl, _, dT_⟩)) | (go_at_call 67; (with_reducible refine (r3_reg.calls a0_2 t279 false _ A13.out).mono ?_); rintro e w' ⟨rfl, ⟨nd, rfl⟩⟩; (try first | exact ⟨rfl, _, dN_⟩ | exact ⟨rfl, _, dT_⟩))); try go_wp2_with (first | (go_at_call 16; (with_reducible refine (r3_HasD.calls t276 t277 _ A9.out).mono ?_); rintro e w' ⟨rfl, ⟨nd, rfl⟩⟩; (try first | exact ⟨rfl, _, dN_⟩ | exact ⟨rfl, _, dT_⟩)) | (go_at_call 67; (with_reducible refine (r3_reg.calls a0_1 t277 true _ A10.out).mono ?_); rintro e w' ⟨rfl, ⟨nd, rfl⟩⟩; (try first | exact ⟨rfl, _, dN_⟩ | exact ⟨rfl, _, dT_⟩)) | (go_at_call 17; (with_reducible refine (r3_HasA.calls t276 t279 _ A12.out).mono ?_); rintro e w' ⟨rfl, ⟨nd, rfl⟩⟩; (try first | exact ⟨rfl, _, dN_⟩ | exact ⟨rfl, _, dT_⟩)) | (go_at_call 67; (with_reducible refine (r3_reg.calls a0_2 t279 false _ A13.out).mono ?_); rintro e w' ⟨rfl, ⟨nd, rfl⟩⟩; (try first | exact ⟨rfl, _, dN_⟩ | exact ⟨rfl, _, dT_⟩))))
    go_meet
    case rel => exact ⟨_, (true), eQ_, H, ⟨by first | omega | exact Nat.le_refl _⟩, ⟨rB_ BK274⟩, ⟨bs_ HB GE274⟩⟩
   replace c11 := eF_ c11
   subst c11
   rw [if_neg Bool.false_ne_true] at H
   replace H := aM_ H
   obtain ⟨hcz19_0, hcz19_1, hcz19_2, hcz19_3, hcz19_4, hcz19_5⟩ := cl6_ BK274.out
   obtain ⟨hfz19_0, hfz19_1, hfz19_2, hfz19_3, hfz19_4, hfz19_5⟩ := fz6_ BK274.out
   go_wp2_with (first | (go_at_call 16; (with_reducible refine (r3_HasD.calls t276 t277 _ A9.out).mono ?_); rintro e w' ⟨rfl, ⟨nd, rfl⟩⟩; (try first | exact ⟨rfl, _, dN_⟩ | exact ⟨rfl, _, dT_⟩)) | (go_at_call 67; (with_reducible refine (r3_reg.calls a0_1 t277 false _ A10.out).mono ?_); rintro e w' ⟨rfl, ⟨nd, rfl⟩⟩; (try first | exact ⟨rfl, _, dN_⟩ | exact ⟨rfl, _, dT_⟩)))
   repeat (go_quiet (first | (go_at_call 16; (with_reducible refine (r3_HasD.calls t276 t277 _ A9.out).mono ?_); rintro e w' ⟨rfl, ⟨nd, rfl⟩⟩; (try first | exact ⟨rfl, _, dN_⟩ | exact ⟨rfl, _, dT_⟩)) | (go_at_call 67; (with_reducible refine (r3_reg.calls a0_1 t277 false _ A10.out).mono ?_); rintro e w' ⟨rfl, ⟨nd, rfl⟩⟩; (try first | exact ⟨rfl, _, dN_⟩ | exact ⟨rfl, _, dT_⟩))); try go_wp2_with (first | (go_at_call 16; (with_reducible refine (r3_HasD.calls t276 t277 _ A9.out).mono ?_); rintro e w' ⟨rfl, ⟨nd, rfl⟩⟩; (try first | exact ⟨rfl, _, dN_⟩ | exact ⟨rfl, _, dT_⟩)) | (go_at_call 67; (with_reducible refine (r3_reg.calls a0_1 t277 false _ A10.out).mono ?_); rintro e w' ⟨rfl, ⟨nd, rfl⟩⟩; (try first | exact ⟨rfl, _, dN_⟩ | exact ⟨rfl, _, dT_⟩))))
   go_meet
   case rel => exact ⟨_, (true), eQ_, H, ⟨by first | omega | exact Nat.le_refl _⟩, ⟨rB_ BK274⟩, ⟨bs_ HB GE274⟩⟩
  case rest =>
   clear HC5
   obtain ⟨kq, x32_4, rfl, HA, HJ4, BK274, HB⟩ := hcut
   cases kq with
   | zero => exact absurd HA.out (by simp [r3_Ins.j0])
   | succ kj4 =>
    have H := HA.out
    clear HA
    simp only [r3_Ins.j0] at H
    by_cases c20 : x32_4 = true
    ·subst c20
     rw [if_pos rfl] at H
     obtain rfl := oI_ H
     go_wp2
     repeat (go_quiet (fail); try go_wp2)
     go_ret
     exact ⟨eR_, bs_ HB GE274⟩
    replace c20 := eF_ c20
    subst c20
    rw [if_neg Bool.false_ne_true] at H
    by_cases c21 : a0_5.toList = ([] : List UInt8)
    ·rw [if_pos c21] at H
     have c21b0 := bH_ c21
     have c21b1 := bF_ c21
     clear c21
     replace H := oB_ H
     obtain ⟨t287, A22, H⟩ := H
     by_cases c23 : t287 = true
     ·subst c23
      rw [if_pos rfl] at H
      replace H := oB_ H
      obtain ⟨t288, A24, H⟩ := H
      obtain rfl := oI_ H
      obtain ⟨hcz25_0, hcz25_1, hcz25_2, hcz25_3, hcz25_4, hcz25_5⟩ := cl6_ BK274.out
      obtain ⟨hfz25_0, hfz25_1, hfz25_2, hfz25_3, hfz25_4, hfz25_5⟩ := fz6_ BK274.out
      go_wp2_with (first | (go_at_call 43; (with_reducible refine (r3_Target.calls t276 true _ A22.out).mono ?_); rintro e w' ⟨rfl, ⟨nd, rfl⟩⟩; (try first | exact ⟨rfl, _, dN_⟩ | exact ⟨rfl, _, dT_⟩)) | (go_at_call 35; (with_reducible refine (r0_Num.calls a0_4 1023 t288 _ A24.out).mono ?_); rintro e w' ⟨rfl, ⟨nd, rfl⟩⟩; (try first | exact ⟨rfl, _, dN_⟩ | exact ⟨rfl, _, dT_⟩)))
      repeat (go_quiet (first | (go_at_call 43; (with_reducible refine (r3_Target.calls t276 true _ A22.out).mono ?_); rintro e w' ⟨rfl, ⟨nd, rfl⟩⟩; (try first | exact ⟨rfl, _, dN_⟩ | exact ⟨rfl, _, dT_⟩)) | (go_at_call 35; (with_reducible refine (r0_Num.calls a0_4 1023 t288 _ A24.out).mono ?_); rintro e w' ⟨rfl, ⟨nd, rfl⟩⟩; (try first | exact ⟨rfl, _, dN_⟩ | exact ⟨rfl, _, dT_⟩))); try go_wp2_with (first | (go_at_call 43; (with_reducible refine (r3_Target.calls t276 true _ A22.out).mono ?_); rintro e w' ⟨rfl, ⟨nd, rfl⟩⟩; (try first | exact ⟨rfl, _, dN_⟩ | exact ⟨rfl, _, dT_⟩)) | (go_at_call 35; (with_reducible refine (r0_Num.calls a0_4 1023 t288 _ A24.out).mono ?_); rintro e w' ⟨rfl, ⟨nd, rfl⟩⟩; (try first | exact ⟨rfl, _, dN_⟩ | exact ⟨rfl, _, dT_⟩))))
      go_ret
      exact ⟨eR_, bs_ HB GE274⟩
     replace c23 := eF_ c23
     subst c23
     rw [if_neg Bool.false_ne_true] at H
     replace H := oB_ H
     obtain ⟨t289, A26, H⟩ := H
     by_cases c27 : t289 > 0
     ·rw [if_pos c27] at H
      have c27b0 := dE_ c27
      clear c27
      replace H := oB_ H
      obtain ⟨t290, A28, H⟩ := H
      obtain rfl : t289 = t290 := Option.some.inj (A26.out.symm.trans A28.out)
      replace H := oB_ H
      obtain ⟨t291, A29, H⟩ := H
      obtain rfl := oI_ H
      obtain ⟨hcz30_0, hcz30_1, hcz30_2, hcz30_3, hcz30_4, hcz30_5⟩ := cl6_ BK274.out
      obtain ⟨hfz30_0, hfz30_1, hfz30_2, hfz30_3, hfz30_4, hfz30_5⟩ := fz6_ BK274.out
      go_wp2_with (first | (go_at_call 43; (with_reducible refine (r3_Target.calls t276 false _ A22.out).mono ?_); rintro e w' ⟨rfl, ⟨nd, rfl⟩⟩; (try first | exact ⟨rfl, _, dN_⟩ | exact ⟨rfl, _, dT_⟩)) | (go_at_call 70; (with_reducible refine (r3_Bits.calls kj4 t276 t289 _ A26.out).mono ?_); rintro e w' ⟨rfl, ⟨nd, rfl⟩⟩; (try first | exact ⟨rfl, _, dN_⟩ | exact ⟨rfl, _, dT_⟩)) | (go_at_call 70; (with_reducible refine (r3_Bits.calls kj4 t276 t289 _ A28.out).mono ?_); rintro e w' ⟨rfl, ⟨nd, rfl⟩⟩; (try first | exact ⟨rfl, _, dN_⟩ | exact ⟨rfl, _, dT_⟩)) | (go_at_call 69; (with_reducible refine (r1_Fits.calls a0_4 t289 t291 _ A29.out).mono ?_); rintro e w' ⟨rfl, ⟨nd, rfl⟩⟩; (try first | exact ⟨rfl, _, dN_⟩ | exact ⟨rfl, _, dT_⟩)))
      repeat (go_quiet (first | (go_at_call 43; (with_reducible refine (r3_Target.calls t276 false _ A22.out).mono ?_); rintro e w' ⟨rfl, ⟨nd, rfl⟩⟩; (try first | exact ⟨rfl, _, dN_⟩ | exact ⟨rfl, _, dT_⟩)) | (go_at_call 70; (with_reducible refine (r3_Bits.calls kj4 t276 t289 _ A26.out).mono ?_); rintro e w' ⟨rfl, ⟨nd, rfl⟩⟩; (try first | exact ⟨rfl, _, dN_⟩ | exact ⟨rfl, _, dT_⟩)) | (go_at_call 70; (with_reducible refine (r3_Bits.calls kj4 t276 t289 _ A28.out).mono ?_); rintro e w' ⟨rfl, ⟨nd, rfl⟩⟩; (try first | exact ⟨rfl, _, dN_⟩ | exact ⟨rfl, _, dT_⟩)) | (go_at_call 69; (with_reducible refine (r1_Fits.calls a0_4 t289 t291 _ A29.out).mono ?_); rintro e w' ⟨rfl, ⟨nd, rfl⟩⟩; (try first | exact ⟨rfl, _, dN_⟩ | exact ⟨rfl, _, dT_⟩))); try go_wp2_with (first | (go_at_call 43; (with_reducible refine (r3_Target.calls t276 false _ A22.out).mono ?_); rintro e w' ⟨rfl, ⟨nd, rfl⟩⟩; (try first | exact ⟨rfl, _, dN_⟩ | exact ⟨rfl, _, dT_⟩)) | (go_at_call 70; (with_reducible refine (r3_Bits.calls kj4 t276 t289 _ A26.out).mono ?_); rintro e w' ⟨rfl, ⟨nd, rfl⟩⟩; (try first | exact ⟨rfl, _, dN_⟩ | exact ⟨rfl, _, dT_⟩)) | (go_at_call 70; (with_reducible refine (r3_Bits.calls kj4 t276 t289 _ A28.out).mono ?_); rintro e w' ⟨rfl, ⟨nd, rfl⟩⟩; (try first | exact ⟨rfl, _, dN_⟩ | exact ⟨rfl, _, dT_⟩)) | (go_at_call 69; (with_reducible refine (r1_Fits.calls a0_4 t289 t291 _ A29.out).mono ?_); rintro e w' ⟨rfl, ⟨nd, rfl⟩⟩; (try first | exact ⟨rfl, _, dN_⟩ | exact ⟨rfl, _, dT_⟩))))
      go_ret
      exact ⟨eR_, bs_ HB GE274⟩
     rw [if_neg c27] at H
     have c27b0 := dF_ c27
     clear c27
     obtain rfl := oI_ H
     obtain ⟨hcz31_0, hcz31_1, hcz31_2, hcz31_3, hcz31_4, hcz31_5⟩ := cl6_ BK274.out
     obtain ⟨hfz31_0, hfz31_1, hfz31_2, hfz31_3, hfz31_4, hfz31_5⟩ := fz6_ BK274.out
     go_wp2_with (first | (go_at_call 43; (with_reducible refine (r3_Target.calls t276 false _ A22.out).mono ?_); rintro e w' ⟨rfl, ⟨nd, rfl⟩⟩; (try first | exact ⟨rfl, _, dN_⟩ | exact ⟨rfl, _, dT_⟩)) | (go_at_call 70; (with_reducible refine (r3_Bits.calls kj4 t276 t289 _ A26.out).mono ?_); rintro e w' ⟨rfl, ⟨nd, rfl⟩⟩; (try first | exact ⟨rfl, _, dN_⟩ | exact ⟨rfl, _, dT_⟩)))
     repeat (go_quiet (first | (go_at_call 43; (with_reducible refine (r3_Target.calls t276 false _ A22.out).mono ?_); rintro e w' ⟨rfl, ⟨nd, rfl⟩⟩; (try first | exact ⟨rfl, _, dN_⟩ | exact ⟨rfl, _, dT_⟩)) | (go_at_call 70; (with_reducible refine (r3_Bits.calls kj4 t276 t289 _ A26.out).mono ?_); rintro e w' ⟨rfl, ⟨nd, rfl⟩⟩; (try first | exact ⟨rfl, _, dN_⟩ | exact ⟨rfl, _, dT_⟩))); try go_wp2_with (first | (go_at_call 43; (with_reducible refine (r3_Target.calls t276 false _ A22.out).mono ?_); rintro e w' ⟨rfl, ⟨nd, rfl⟩⟩; (try first | exact ⟨rfl, _, dN_⟩ | exact ⟨rfl, _, dT_⟩)) | (go_at_call 70; (with_reducible refine (r3_Bits.calls kj4 t276 t289 _ A26.out).mono ?_); rintro e w' ⟨rfl, ⟨nd, rfl⟩⟩; (try first | exact ⟨rfl, _, dN_⟩ | exact ⟨rfl, _, dT_⟩))))
     go_ret
     exact ⟨eR_, bs_ HB GE274⟩
    rw [if_neg c21] at H
    have c21b0 := bE_ c21
    have c21b1 := bG_ c21
    replace H := oB_ H
    obtain ⟨t283, A32, H⟩ := H
    by_cases c33 : t283 = true
    ·subst c33
     rw [if_pos rfl] at H
     by_cases c34 : a0_0 = 23
     ·rw [if_pos c34] at H
      have c34b0 := bH_ c34
      have c34b1 := bF_ c34
      clear c34
      replace H := oB_ H
      obtain ⟨t284, A35, H⟩ := H
      by_cases c36 : t284 = true
      ·subst c36
       rw [if_pos rfl] at H
       obtain rfl := oI_ H
       obtain ⟨hcz37_0, hcz37_1, hcz37_2, hcz37_3, hcz37_4, hcz37_5⟩ := cl6_ BK274.out
       obtain ⟨hfz37_0, hfz37_1, hfz37_2, hfz37_3, hfz37_4, hfz37_5⟩ := fz6_ BK274.out
       go_wp2_with (first | (go_at_call 68; (with_reducible refine (r3_Name.calls kj4 a0_5 true _ A32.out).mono ?_); rintro e w' ⟨rfl, ⟨nd, rfl⟩⟩; (try first | exact ⟨rfl, _, dN_⟩ | exact ⟨rfl, _, dT_⟩)) | (go_at_call 69; (with_reducible refine (r1_Fits.calls a0_4 18 true _ A35.out).mono ?_); rintro e w' ⟨rfl, ⟨nd, rfl⟩⟩; (try first | exact ⟨rfl, _, dN_⟩ | exact ⟨rfl, _, dT_⟩)))
       repeat (go_quiet (first | (go_at_call 68; (with_reducible refine (r3_Name.calls kj4 a0_5 true _ A32.out).mono ?_); rintro e w' ⟨rfl, ⟨nd, rfl⟩⟩; (try first | exact ⟨rfl, _, dN_⟩ | exact ⟨rfl, _, dT_⟩)) | (go_at_call 69; (with_reducible refine (r1_Fits.calls a0_4 18 true _ A35.out).mono ?_); rintro e w' ⟨rfl, ⟨nd, rfl⟩⟩; (try first | exact ⟨rfl, _, dN_⟩ | exact ⟨rfl, _, dT_⟩))); try go_wp2_with (first | (go_at_call 68; (with_reducible refine (r3_Name.calls kj4 a0_5 true _ A32.out).mono ?_); rintro e w' ⟨rfl, ⟨nd, rfl⟩⟩; (try first | exact ⟨rfl, _, dN_⟩ | exact ⟨rfl, _, dT_⟩)) | (go_at_call 69; (with_reducible refine (r1_Fits.calls a0_4 18 true _ A35.out).mono ?_); rintro e w' ⟨rfl, ⟨nd, rfl⟩⟩; (try first | exact ⟨rfl, _, dN_⟩ | exact ⟨rfl, _, dT_⟩))))
       go_ret
       exact ⟨eR_, bs_ HB GE274⟩
      replace c36 := eF_ c36
      subst c36
      rw [if_neg Bool.false_ne_true] at H
      replace H := oB_ H
      obtain ⟨t285, A38, H⟩ := H
      by_cases c39 : t285 = true
      ·subst c39
       rw [if_pos rfl] at H
       obtain rfl := oI_ H
       obtain ⟨hcz40_0, hcz40_1, hcz40_2, hcz40_3, hcz40_4, hcz40_5⟩ := cl6_ BK274.out
       obtain ⟨hfz40_0, hfz40_1, hfz40_2, hfz40_3, hfz40_4, hfz40_5⟩ := fz6_ BK274.out
       go_wp2_with (first | (go_at_call 68; (with_reducible refine (r3_Name.calls kj4 a0_5 true _ A32.out).mono ?_); rintro e w' ⟨rfl, ⟨nd, rfl⟩⟩; (try first | exact ⟨rfl, _, dN_⟩ | exact ⟨rfl, _, dT_⟩)) | (go_at_call 69; (with_reducible refine (r1_Fits.calls a0_4 18 false _ A35.out).mono ?_); rintro e w' ⟨rfl, ⟨nd, rfl⟩⟩; (try first | exact ⟨rfl, _, dN_⟩ | exact ⟨rfl, _, dT_⟩)) | (go_at_call 43; (with_reducible refine (r3_Target.calls t276 true _ A38.out).mono ?_); rintro e w' ⟨rfl, ⟨nd, rfl⟩⟩; (try first | exact ⟨rfl, _, dN_⟩ | exact ⟨rfl, _, dT_⟩)))
       repeat (go_quiet (first | (go_at_call 68; (with_reducible refine (r3_Name.calls kj4 a0_5 true _ A32.out).mono ?_); rintro e w' ⟨rfl, ⟨nd, rfl⟩⟩; (try first | exact ⟨rfl, _, dN_⟩ | exact ⟨rfl, _, dT_⟩)) | (go_at_call 69; (with_reducible refine (r1_Fits.calls a0_4 18 false _ A35.out).mono ?_); rintro e w' ⟨rfl, ⟨nd, rfl⟩⟩; (try first | exact ⟨rfl, _, dN_⟩ | exact ⟨rfl, _, dT_⟩)) | (go_at_call 43; (with_reducible refine (r3_Target.calls t276 true _ A38.out).mono ?_); rintro e w' ⟨rfl, ⟨nd, rfl⟩⟩; (try first | exact ⟨rfl, _, dN_⟩ | exact ⟨rfl, _, dT_⟩))); try go_wp2_with (first | (go_at_call 68; (with_reducible refine (r3_Name.calls kj4 a0_5 true _ A32.out).mono ?_); rintro e w' ⟨rfl, ⟨nd, rfl⟩⟩; (try first | exact ⟨rfl, _, dN_⟩ | exact ⟨rfl, _, dT_⟩)) | (go_at_call 69; (with_reducible refine (r1_Fits.calls a0_4 18 false _ A35.out).mono ?_); rintro e w' ⟨rfl, ⟨nd, rfl⟩⟩; (try first | exact ⟨rfl, _, dN_⟩ | exact ⟨rfl, _, dT_⟩)) | (go_at_call 43; (with_reducible refine (r3_Target.calls t276 true _ A38.out).mono ?_); rintro e w' ⟨rfl, ⟨nd, rfl⟩⟩; (try first | exact ⟨rfl, _, dN_⟩ | exact ⟨rfl, _, dT_⟩))))
       go_ret
       exact ⟨eR_, bs_ HB GE274⟩
      replace c39 := eF_ c39
      subst c39
      rw [if_neg Bool.false_ne_true] at H
      obtain rfl := oI_ H
      obtain ⟨hcz41_0, hcz41_1, hcz41_2, hcz41_3, hcz41_4, hcz41_5⟩ := cl6_ BK274.out
      obtain ⟨hfz41_0, hfz41_1, hfz41_2, hfz41_3, hfz41_4, hfz41_5⟩ := fz6_ BK274.out
      go_wp2_with (first | (go_at_call 68; (with_reducible refine (r3_Name.calls kj4 a0_5 true _ A32.out).mono ?_); rintro e w' ⟨rfl, ⟨nd, rfl⟩⟩; (try first | exact ⟨rfl, _, dN_⟩ | exact ⟨rfl, _, dT_⟩)) | (go_at_call 69; (with_reducible refine (r1_Fits.calls a0_4 18 false _ A35.out).mono ?_); rintro e w' ⟨rfl, ⟨nd, rfl⟩⟩; (try first | exact ⟨rfl, _, dN_⟩ | exact ⟨rfl, _, dT_⟩)) | (go_at_call 43; (with_reducible refine (r3_Target.calls t276 false _ A38.out).mono ?_); rintro e w' ⟨rfl, ⟨nd, rfl⟩⟩; (try first | exact ⟨rfl, _, dN_⟩ | exact ⟨rfl, _, dT_⟩)))
      repeat (go_quiet (first | (go_at_call 68; (with_reducible refine (r3_Name.calls kj4 a0_5 true _ A32.out).mono ?_); rintro e w' ⟨rfl, ⟨nd, rfl⟩⟩; (try first | exact ⟨rfl, _, dN_⟩ | exact ⟨rfl, _, dT_⟩)) | (go_at_call 69; (with_reducible refine (r1_Fits.calls a0_4 18 false _ A35.out).mono ?_); rintro e w' ⟨rfl, ⟨nd, rfl⟩⟩; (try first | exact ⟨rfl, _, dN_⟩ | exact ⟨rfl, _, dT_⟩)) | (go_at_call 43; (with_reducible refine (r3_Target.calls t276 false _ A38.out).mono ?_); rintro e w' ⟨rfl, ⟨nd, rfl⟩⟩; (try first | exact ⟨rfl, _, dN_⟩ | exact ⟨rfl, _, dT_⟩))); try go_wp2_with (first | (go_at_call 68; (with_reducible refine (r3_Name.calls kj4 a0_5 true _ A32.out).mono ?_); rintro e w' ⟨rfl, ⟨nd, rfl⟩⟩; (try first | exact ⟨rfl, _, dN_⟩ | exact ⟨rfl, _, dT_⟩)) | (go_at_call 69; (with_reducible refine (r1_Fits.calls a0_4 18 false _ A35.out).mono ?_); rintro e w' ⟨rfl, ⟨nd, rfl⟩⟩; (try first | exact ⟨rfl, _, dN_⟩ | exact ⟨rfl, _, dT_⟩)) | (go_at_call 43; (with_reducible refine (r3_Target.calls t276 false _ A38.out).mono ?_); rintro e w' ⟨rfl, ⟨nd, rfl⟩⟩; (try first | exact ⟨rfl, _, dN_⟩ | exact ⟨rfl, _, dT_⟩))))
      go_ret
      exact ⟨eR_, bs_ HB GE274⟩
     rw [if_neg c34] at H
     have c34b0 := bE_ c34
     have c34b1 := bG_ c34
     replace H := oB_ H
     obtain ⟨t286, A42, H⟩ := H
     by_cases c43 : t286 = true
     ·subst c43
      rw [if_pos rfl] at H
      obtain rfl := oI_ H
      obtain ⟨hcz44_0, hcz44_1, hcz44_2, hcz44_3, hcz44_4, hcz44_5⟩ := cl6_ BK274.out
      obtain ⟨hfz44_0, hfz44_1, hfz44_2, hfz44_3, hfz44_4, hfz44_5⟩ := fz6_ BK274.out
      go_wp2_with (first | (go_at_call 68; (with_reducible refine (r3_Name.calls kj4 a0_5 true _ A32.out).mono ?_); rintro e w' ⟨rfl, ⟨nd, rfl⟩⟩; (try first | exact ⟨rfl, _, dN_⟩ | exact ⟨rfl, _, dT_⟩)) | (go_at_call 43; (with_reducible refine (r3_Target.calls t276 true _ A42.out).mono ?_); rintro e w' ⟨rfl, ⟨nd, rfl⟩⟩; (try first | exact ⟨rfl, _, dN_⟩ | exact ⟨rfl, _, dT_⟩)))
      repeat (go_quiet (first | (go_at_call 68; (with_reducible refine (r3_Name.calls kj4 a0_5 true _ A32.out).mono ?_); rintro e w' ⟨rfl, ⟨nd, rfl⟩⟩; (try first | exact ⟨rfl, _, dN_⟩ | exact ⟨rfl, _, dT_⟩)) | (go_at_call 43; (with_reducible refine (r3_Target.calls t276 true _ A42.out).mono ?_); rintro e w' ⟨rfl, ⟨nd, rfl⟩⟩; (try first | exact ⟨rfl, _, dN_⟩ | exact ⟨rfl, _, dT_⟩))); try go_wp2_with (first | (go_at_call 68; (with_reducible refine (r3_Name.calls kj4 a0_5 true _ A32.out).mono ?_); rintro e w' ⟨rfl, ⟨nd, rfl⟩⟩; (try first | exact ⟨rfl, _, dN_⟩ | exact ⟨rfl, _, dT_⟩)) | (go_at_call 43; (with_reducible refine (r3_Target.calls t276 true _ A42.out).mono ?_); rintro e w' ⟨rfl, ⟨nd, rfl⟩⟩; (try first | exact ⟨rfl, _, dN_⟩ | exact ⟨rfl, _, dT_⟩))))
      go_ret
      exact ⟨eR_, bs_ HB GE274⟩
     replace c43 := eF_ c43
     subst c43
     rw [if_neg Bool.false_ne_true] at H
     obtain rfl := oI_ H
     obtain ⟨hcz45_0, hcz45_1, hcz45_2, hcz45_3, hcz45_4, hcz45_5⟩ := cl6_ BK274.out
     obtain ⟨hfz45_0, hfz45_1, hfz45_2, hfz45_3, hfz45_4, hfz45_5⟩ := fz6_ BK274.out
     go_wp2_with (first | (go_at_call 68; (with_reducible refine (r3_Name.calls kj4 a0_5 true _ A32.out).mono ?_); rintro e w' ⟨rfl, ⟨nd, rfl⟩⟩; (try first | exact ⟨rfl, _, dN_⟩ | exact ⟨rfl, _, dT_⟩)) | (go_at_call 43; (with_reducible refine (r3_Target.calls t276 false _ A42.out).mono ?_); rintro e w' ⟨rfl, ⟨nd, rfl⟩⟩; (try first | exact ⟨rfl, _, dN_⟩ | exact ⟨rfl, _, dT_⟩)))
     repeat (go_quiet (first | (go_at_call 68; (with_reducible refine (r3_Name.calls kj4 a0_5 true _ A32.out).mono ?_); rintro e w' ⟨rfl, ⟨nd, rfl⟩⟩; (try first | exact ⟨rfl, _, dN_⟩ | exact ⟨rfl, _, dT_⟩)) | (go_at_call 43; (with_reducible refine (r3_Target.calls t276 false _ A42.out).mono ?_); rintro e w' ⟨rfl, ⟨nd, rfl⟩⟩; (try first | exact ⟨rfl, _, dN_⟩ | exact ⟨rfl, _, dT_⟩))); try go_wp2_with (first | (go_at_call 68; (with_reducible refine (r3_Name.calls kj4 a0_5 true _ A32.out).mono ?_); rintro e w' ⟨rfl, ⟨nd, rfl⟩⟩; (try first | exact ⟨rfl, _, dN_⟩ | exact ⟨rfl, _, dT_⟩)) | (go_at_call 43; (with_reducible refine (r3_Target.calls t276 false _ A42.out).mono ?_); rintro e w' ⟨rfl, ⟨nd, rfl⟩⟩; (try first | exact ⟨rfl, _, dN_⟩ | exact ⟨rfl, _, dT_⟩))))
     go_ret
     exact ⟨eR_, bs_ HB GE274⟩
    replace c33 := eF_ c33
    subst c33
    rw [if_neg Bool.false_ne_true] at H
    obtain rfl := oI_ H
    obtain ⟨hcz46_0, hcz46_1, hcz46_2, hcz46_3, hcz46_4, hcz46_5⟩ := cl6_ BK274.out
    obtain ⟨hfz46_0, hfz46_1, hfz46_2, hfz46_3, hfz46_4, hfz46_5⟩ := fz6_ BK274.out
    go_wp2_with (first | (go_at_call 68; (with_reducible refine (r3_Name.calls kj4 a0_5 false _ A32.out).mono ?_); rintro e w' ⟨rfl, ⟨nd, rfl⟩⟩; (try first | exact ⟨rfl, _, dN_⟩ | exact ⟨rfl, _, dT_⟩)))
    repeat (go_quiet (first | (go_at_call 68; (with_reducible refine (r3_Name.calls kj4 a0_5 false _ A32.out).mono ?_); rintro e w' ⟨rfl, ⟨nd, rfl⟩⟩; (try first | exact ⟨rfl, _, dN_⟩ | exact ⟨rfl, _, dT_⟩))); try go_wp2_with (first | (go_at_call 68; (with_reducible refine (r3_Name.calls kj4 a0_5 false _ A32.out).mono ?_); rintro e w' ⟨rfl, ⟨nd, rfl⟩⟩; (try first | exact ⟨rfl, _, dN_⟩ | exact ⟨rfl, _, dT_⟩))))
    go_ret
    exact ⟨eR_, bs_ HB GE274⟩
 replace c3 := eF_ c3
 subst c3
 rw [if_neg Bool.false_ne_true] at H
 obtain rfl := oI_ H
 go_enter Try.func39, Try.ntmps39
 go_wp2_with (first | ((with_reducible refine gate_dst (N := 1) rfl ?_); refine bX_ (N := 1) (cs := #[.int .i64 a0_0, .int .i64 a0_1, .int .i64 a0_2, .int .i64 a0_3, .int .i64 a0_4, .string a0_5]) (t := 24) ?_; intro gb274 hg w47 hbox hb; replace BK274 := aM_ (hbox); replace GW274 := aM_ (gE_ hg (bl_ HB)); replace GE274 := aM_ (gE_ hg (bl_ HB)); replace HB := aM_ (bT_ (bl_ HB) hb); clear hb hbox hg; obtain ⟨hcz48_0, hcz48_1, hcz48_2, hcz48_3, hcz48_4, hcz48_5⟩ := cl6_ BK274.out; obtain ⟨hfz48_0, hfz48_1, hfz48_2, hfz48_3, hfz48_4, hfz48_5⟩ := fz6_ BK274.out) | (go_at_call 66; (with_reducible refine (r3_Valid.calls a0_0 false _ A2.out).mono ?_); rintro e w' ⟨rfl, ⟨nd, rfl⟩⟩; (try first | exact ⟨rfl, _, dN_⟩ | exact ⟨rfl, _, dT_⟩)))
 repeat (go_quiet (first | ((with_reducible refine gate_dst (N := 1) rfl ?_); refine bX_ (N := 1) (cs := #[.int .i64 a0_0, .int .i64 a0_1, .int .i64 a0_2, .int .i64 a0_3, .int .i64 a0_4, .string a0_5]) (t := 24) ?_; intro gb274 hg w47 hbox hb; replace BK274 := aM_ (hbox); replace GW274 := aM_ (gE_ hg (bl_ HB)); replace GE274 := aM_ (gE_ hg (bl_ HB)); replace HB := aM_ (bT_ (bl_ HB) hb); clear hb hbox hg; obtain ⟨hcz48_0, hcz48_1, hcz48_2, hcz48_3, hcz48_4, hcz48_5⟩ := cl6_ BK274.out; obtain ⟨hfz48_0, hfz48_1, hfz48_2, hfz48_3, hfz48_4, hfz48_5⟩ := fz6_ BK274.out) | (go_at_call 66; (with_reducible refine (r3_Valid.calls a0_0 false _ A2.out).mono ?_); rintro e w' ⟨rfl, ⟨nd, rfl⟩⟩; (try first | exact ⟨rfl, _, dN_⟩ | exact ⟨rfl, _, dT_⟩))); try go_wp2_with (first | ((with_reducible refine gate_dst (N := 1) rfl ?_); refine bX_ (N := 1) (cs := #[.int .i64 a0_0, .int .i64 a0_1, .int .i64 a0_2, .int .i64 a0_3, .int .i64 a0_4, .string a0_5]) (t := 24) ?_; intro gb274 hg w47 hbox hb; replace BK274 := aM_ (hbox); replace GW274 := aM_ (gE_ hg (bl_ HB)); replace GE274 := aM_ (gE_ hg (bl_ HB)); replace HB := aM_ (bT_ (bl_ HB) hb); clear hb hbox hg; obtain ⟨hcz48_0, hcz48_1, hcz48_2, hcz48_3, hcz48_4, hcz48_5⟩ := cl6_ BK274.out; obtain ⟨hfz48_0, hfz48_1, hfz48_2, hfz48_3, hfz48_4, hfz48_5⟩ := fz6_ BK274.out) | (go_at_call 66; (with_reducible refine (r3_Valid.calls a0_0 false _ A2.out).mono ?_); rintro e w' ⟨rfl, ⟨nd, rfl⟩⟩; (try first | exact ⟨rfl, _, dN_⟩ | exact ⟨rfl, _, dT_⟩))))
 go_ret
 exact ⟨eR_, bs_ HB GE274⟩
def r3_Ends.f (a0 : Int) : Option (Bool) := (r0_Between.f a0 28 33).bind fun t292 => (some t292)
theorem r3_Ends.calls (a0 : Int) (r : Bool) (w : World) (h : r3_Ends.f a0 = some r) :
    Calls Try.prog 40 #[.int .i64 a0] w fun e w' => e = .returned (.bool r) ∧ Dr_ w w' := by
 have H : ((r0_Between.f a0 28 33).bind fun t292 => (some t292)) = some r := h
 clear h
 replace H := oB_ H
 obtain ⟨t292, A2, H⟩ := H
 obtain rfl := oI_ H
 go_enter Try.func40, Try.ntmps40
 go_wp2_with (first | ((with_reducible refine gC_ (f := 54) rfl ?_); refine gL_ (some 4) Try.func54 #[.int .i64 a0, .int .i64 28, .int .i64 33] rfl ?_; (with_reducible refine (r0_Between.calls a0 28 33 t292 _ A2.out).mono ?_); rintro e w' ⟨rfl, ⟨nd, rfl⟩⟩; refine ⟨_, rfl, ?_⟩))
 go_ret
 exact ⟨eQ_, dR_⟩
end
section
def formOf (op : Int) : Int := rd [0, 1, 1, 1, 1, 1, 1, 1, 1, 1, 1, 1, 1, 1, 1, 1, 1, 1, 1, 1, 1, 2, 3, 4, 3, 5, 6, 7, 8, 9, 9, 8, 0, 0] op
def hasD (f : Int) : Bool := f == 1 || f == 2 || f == 3 || f == 4 || f == 6
def hasA (f : Int) : Bool := f == 1 || f == 2 || f == 3 || f == 5 || f == 7 || f == 9
def hasB (f : Int) : Bool := f == 1 || f == 5
def target (f : Int) : Bool := f == 8 || f == 9
def bitsOf (f : Int) : Int := if f = 3 ∨ f = 5 ∨ f = 9 then 14 else if f = 4 ∨ f = 8 then 18 else 0
theorem upto34 {p : Int → Prop} (h : ∀ n : Fin 34, p (n.val : Int)) (op : Int) (h0 : 0 ≤ op) (h1 : op ≤ 33) : p op := by
  have := h ⟨op.toNat, by omega⟩
  rwa [show ((op.toNat : Nat) : Int) = op from by omega] at this
theorem upto10 {p : Int → Prop} (h : ∀ n : Fin 10, p (n.val : Int)) (f : Int) (h0 : 0 ≤ f) (h1 : f ≤ 9) : p f := by
  have := h ⟨f.toNat, by omega⟩
  rwa [show ((f.toNat : Nat) : Int) = f from by omega] at this
theorem formOf_range (op : Int) : 0 ≤ op → op ≤ 33 → 0 ≤ formOf op ∧ formOf op ≤ 9 := upto34 (p := fun op => 0 ≤ formOf op ∧ formOf op ≤ 9) (by decide) op
theorem formOf_li (op : Int) : 0 ≤ op → op ≤ 33 → (formOf op = 4 ↔ op = 23) := upto34 (p := fun op => formOf op = 4 ↔ op = 23) (by decide) op
theorem form_eq (op : Int) (h0 : 0 ≤ op) (h1 : op ≤ 33) : r3_Form.f op = some (formOf op) := upto34 (p := fun op => r3_Form.f op = some (formOf op)) (by decide) op h0 h1
theorem shape_eq {k : Nat} (hk : 10 ≤ k) (op : Int) (h0 : 0 ≤ op) (h1 : op ≤ 33) : isa_Shape.f k op = some (formOf op) :=
  at_rounds (isa_Shape.mono op) hk (upto34 (p := fun op => isa_Shape.f 10 op = some (formOf op)) (by decide) op h0 h1)
theorem isa_hasD (f : Int) (h0 : 0 ≤ f) (h1 : f ≤ 9) : isa_HasD.f f = some (hasD f) := upto10 (p := fun f => isa_HasD.f f = some (hasD f)) (by decide) f h0 h1
theorem isa_hasA {k : Nat} (hk : 10 ≤ k) (f : Int) (h0 : 0 ≤ f) (h1 : f ≤ 9) : isa_HasA.f k f = some (hasA f) :=
  at_rounds (isa_HasA.mono f) hk (upto10 (p := fun f => isa_HasA.f 10 f = some (hasA f)) (by decide) f h0 h1)
theorem isa_hasB (f : Int) (h0 : 0 ≤ f) (h1 : f ≤ 9) : isa_HasB.f f = some (hasB f) := upto10 (p := fun f => isa_HasB.f f = some (hasB f)) (by decide) f h0 h1
theorem isa_target (f : Int) (h0 : 0 ≤ f) (h1 : f ≤ 9) : isa_Target.f f = some (target f) := upto10 (p := fun f => isa_Target.f f = some (target f)) (by decide) f h0 h1
theorem isa_bits {k : Nat} (hk : 10 ≤ k) (f : Int) (h0 : 0 ≤ f) (h1 : f ≤ 9) : isa_Bits.f k f = some (bitsOf f) :=
  at_rounds (isa_Bits.mono f) hk (upto10 (p := fun f => isa_Bits.f 10 f = some (bitsOf f)) (by decide) f h0 h1)
theorem ref_hasD (f : Int) (h0 : 0 ≤ f) (h1 : f ≤ 9) : r3_HasD.f f = some (hasD f) := upto10 (p := fun f => r3_HasD.f f = some (hasD f)) (by decide) f h0 h1
theorem ref_hasA (f : Int) (h0 : 0 ≤ f) (h1 : f ≤ 9) : r3_HasA.f f = some (hasA f) := upto10 (p := fun f => r3_HasA.f f = some (hasA f)) (by decide) f h0 h1
theorem ref_hasB (f : Int) (h0 : 0 ≤ f) (h1 : f ≤ 9) : r3_HasB.f f = some (hasB f) := upto10 (p := fun f => r3_HasB.f f = some (hasB f)) (by decide) f h0 h1
theorem ref_target (f : Int) (h0 : 0 ≤ f) (h1 : f ≤ 9) : r3_Target.f f = some (target f) := upto10 (p := fun f => r3_Target.f f = some (target f)) (by decide) f h0 h1
theorem ref_bits {k : Nat} (hk : 10 ≤ k) (f : Int) (h0 : 0 ≤ f) (h1 : f ≤ 9) : r3_Bits.f k f = some (bitsOf f) :=
  at_rounds (r3_Bits.mono f) hk (upto10 (p := fun f => r3_Bits.f 10 f = some (bitsOf f)) (by decide) f h0 h1)
def regOk (has : Bool) (n : Int) : Bool := if has = true then decide (0 ≤ n ∧ n ≤ 15) else n == 0
def fit14 (n : Int) : Bool := decide (-8192 ≤ n ∧ n < 8192)
def fit18 (n : Int) : Bool := decide (-131072 ≤ n ∧ n < 131072)
theorem isa_reg_eq (has : Bool) (n : Int) : isa_reg.f has n = some (regOk has n) := by
  unfold isa_reg.f regOk
  cases has with
  | true =>
    by_cases h : n = 0
    · subst h; rfl
    · rw [if_neg h]
      by_cases h2 : n > 0
      · simp only [if_pos h2, if_true, Option.some.injEq]
        by_cases h3 : n < 16 <;> simp [h3] <;> omega
      · simp only [if_neg h2, if_true, Option.some.injEq]
        symm; rw [decide_eq_false_iff_not]; omega
  | false =>
    by_cases h : n = 0
    · subst h; rfl
    · simp [h]
theorem ref_reg_eq (has : Bool) (n : Int) : r3_reg.f n has = some (regOk has n) := by
  unfold r3_reg.f regOk r0_Num.f
  cases has with
  | true =>
    by_cases h : n ≥ 0
    · simp only [if_pos h, if_true, Option.bind_some, Option.some.injEq]
      by_cases h3 : n ≤ 15 <;> simp [h3] <;> omega
    · simp only [if_neg h, if_true, Option.bind_some, Option.some.injEq]
      symm; rw [decide_eq_false_iff_not]; omega
  | false => simp
theorem within14 (n : Int) : word_Within.f n 14 = some (fit14 n) := by
  unfold word_Within.f fit14
  rw [if_pos (by decide +kernel), show shl .i64 (-1) (wrap64 (14 - 1)) = -8192 from by decide +kernel, show shl .i64 1 (wrap64 (14 - 1)) = 8192 from by decide +kernel]
  by_cases h : n ≥ -8192
  · rw [if_pos h]; by_cases h2 : n < 8192 <;> simp [h2]; omega
  · rw [if_neg h]; congr 1; symm; rw [decide_eq_false_iff_not]; omega
theorem within18 (n : Int) : word_Within.f n 18 = some (fit18 n) := by
  unfold word_Within.f fit18
  rw [if_pos (by decide +kernel), show shl .i64 (-1) (wrap64 (18 - 1)) = -131072 from by decide +kernel, show shl .i64 1 (wrap64 (18 - 1)) = 131072 from by decide +kernel]
  by_cases h : n ≥ -131072
  · rw [if_pos h]; by_cases h2 : n < 131072 <;> simp [h2]; omega
  · rw [if_neg h]; congr 1; symm; rw [decide_eq_false_iff_not]; omega
theorem fits14 (n : Int) : r1_Fits.f n 14 = some (fit14 n) := by
  unfold r1_Fits.f fit14
  rw [if_pos (by decide +kernel), show wrap64 (-(shl .i64 1 (wrap64 (14 - 1)))) = -8192 from by decide +kernel, show shl .i64 1 (wrap64 (14 - 1)) = 8192 from by decide +kernel]
  by_cases h : n ≥ -8192
  · rw [if_pos h]; by_cases h2 : n < 8192 <;> simp [h2]; omega
  · rw [if_neg h]; congr 1; symm; rw [decide_eq_false_iff_not]; omega
theorem fits18 (n : Int) : r1_Fits.f n 18 = some (fit18 n) := by
  unfold r1_Fits.f fit18
  rw [if_pos (by decide +kernel), show wrap64 (-(shl .i64 1 (wrap64 (18 - 1)))) = -131072 from by decide +kernel, show shl .i64 1 (wrap64 (18 - 1)) = 131072 from by decide +kernel]
  by_cases h : n ≥ -131072
  · rw [if_pos h]; by_cases h2 : n < 131072 <;> simp [h2]; omega
  · rw [if_neg h]; congr 1; symm; rw [decide_eq_false_iff_not]; omega
def letter (c : Int) : Bool := c == 95 || (decide (97 ≤ c) && decide (c ≤ 122))
def digit (c : Int) : Bool := decide (48 ≤ c) && decide (c ≤ 57)
def nameFrom (s : ByteArray) (i : Int) : Nat → Bool
  | 0 => true
  | d + 1 => (letter (bt s i) || digit (bt s i)) && nameFrom s (i + 1) d
def nameOk (s : ByteArray) : Bool := decide (0 < s.size) && (decide (s.size ≤ 12) && (letter (bt s 0) && nameFrom s 0 s.size))
theorem letter_eq (c : Int) : isa_letter.f c = some (letter c) := by
  unfold isa_letter.f letter
  by_cases h : c = 95
  · simp [h]
  · by_cases h2 : c ≥ 97 <;> simp [h, h2]
theorem wrapI {i : Int} (h0 : 0 ≤ i) (h : i ≤ 4611686018427387904) : wrap64 (i + 1) = i + 1 := by
  unfold wrap64; omega
theorem isa_name_loop (s : ByteArray) (hs : s.size ≤ 12) : ∀ (d : Nat) (k : Nat) (i : Int), 0 ≤ i → i + d = s.size → 2 * d + 1 ≤ k → isa_Name2.l0 k s s.size i = some (nameFrom s i d)
  | 0, k, i, h0, h1, hk => by
    obtain ⟨m, rfl⟩ : ∃ m, k = m + 1 := ⟨k - 1, by omega⟩
    simp only [isa_Name2.l0, nameFrom]; rw [if_neg (by omega)]
  | d + 1, k, i, h0, h1, hk => by
    obtain ⟨m, rfl⟩ : ∃ m, k = m + 2 := ⟨k - 2, by omega⟩
    simp only [isa_Name2.l0, nameFrom]; rw [if_pos (by omega), if_pos h0, if_pos (by omega), letter_eq]
    simp only [Option.bind_some]
    have hw : wrap64 (i + 1) = i + 1 := wrapI h0 (by omega)
    have ih := isa_name_loop s hs d m (i + 1) (by omega) (by omega) (by omega)
    cases hl : letter (bt s i) with
    | true => simp only [if_true, isa_Name2.j2, Bool.false_eq_true, if_false, hw, ih, Bool.true_or, Bool.true_and]
    | false =>
      simp only [Bool.false_eq_true, if_false, Bool.false_or]
      by_cases h3 : bt s i < 48
      · rw [if_pos h3]; simp only [isa_Name2.j2, if_true]; congr 1; simp [digit]; omega
      · rw [if_neg h3]
        by_cases h4 : bt s i > 57
        · simp only [isa_Name2.j2, decide_eq_true h4, if_true]; congr 1; simp [digit]; omega
        · simp only [isa_Name2.j2, decide_eq_false h4, Bool.false_eq_true, if_false, hw, ih]
          have : digit (bt s i) = true := by simp [digit]; omega
          rw [this, Bool.true_and]
theorem toList_nil (s : ByteArray) : s.toList = [] ↔ s.size = 0 := by
  rw [ByteArray.toList_eq, Lib.size_eq]
  exact List.length_eq_zero_iff.symm
theorem isa_name {k : Nat} (hk : 40 ≤ k) (s : ByteArray) : isa_Name2.f k s = some (nameOk s) := by
  obtain ⟨m, rfl⟩ : ∃ m, k = m + 1 := ⟨k - 1, by omega⟩
  unfold isa_Name2.f nameOk
  by_cases h : s.toList = []
  · rw [if_pos h]
    have h0 : s.size = 0 := (toList_nil s).1 h
    simp [isa_Name2.j0, h0]
  · rw [if_neg h]
    have h0 : 0 < s.size := by
      have : s.size ≠ 0 := fun h1 => h ((toList_nil s).2 h1)
      omega
    by_cases h12 : (s.size : Int) > 12
    · rw [if_pos h12]
      have : ¬ s.size ≤ 12 := by omega
      simp [isa_Name2.j0, this]
    · rw [if_neg h12, if_pos (by omega), letter_eq]
      simp only [Option.bind_some]
      have h12' : s.size ≤ 12 := by omega
      cases hl : letter (bt s 0) with
      | false => simp [isa_Name2.j0]
      | true =>
        simp only [isa_Name2.j0, Bool.not_true, Bool.false_eq_true, if_false]
        rw [isa_name_loop s h12' s.size m 0 (by omega) (by omega) (by omega)]
        simp [h0, h12']
theorem ref_name_loop (s : ByteArray) (hs : s.size ≤ 12) : ∀ (d : Nat) (k : Nat) (i : Int), 0 ≤ i → i + d = s.size → 2 * d + 1 ≤ k → r3_Name.l0 k s i = some (nameFrom s i d)
  | 0, k, i, h0, h1, hk => by
    obtain ⟨m, rfl⟩ : ∃ m, k = m + 1 := ⟨k - 1, by omega⟩
    simp only [r3_Name.l0, nameFrom]; rw [if_neg (by omega)]
  | d + 1, k, i, h0, h1, hk => by
    obtain ⟨m, rfl⟩ : ∃ m, k = m + 2 := ⟨k - 2, by omega⟩
    simp only [r3_Name.l0, nameFrom]; rw [if_pos (by omega), if_pos h0]
    have hw : wrap64 (i + 1) = i + 1 := wrapI h0 (by omega)
    have ih := ref_name_loop s hs d m (i + 1) (by omega) (by omega) (by omega)
    generalize bt s i = c
    by_cases h1 : c ≥ 97 <;> by_cases h2 : c ≤ 122 <;> by_cases h3 : c = 95 <;> by_cases h4 : c ≥ 48 <;> by_cases h5 : c ≤ 57 <;>
      first
      | omega
      | (simp [r3_Name.j2, h1, h2, h3, h4, h5, hw, ih, letter, digit]; done)
theorem ref_name {k : Nat} (hk : 40 ≤ k) (s : ByteArray) : r3_Name.f k s = some (nameOk s) := by
  obtain ⟨m, rfl⟩ : ∃ m, k = m + 1 := ⟨k - 1, by omega⟩
  unfold r3_Name.f nameOk
  by_cases h : (s.size : Int) = 0
  · rw [if_pos h]
    have h0 : s.size = 0 := by omega
    simp [r3_Name.j0, h0]
  · rw [if_neg h]
    have h0 : 0 < s.size := by omega
    by_cases h12 : (s.size : Int) > 12
    · rw [if_pos h12]
      have : ¬ s.size ≤ 12 := by omega
      simp [r3_Name.j0, this]
    · rw [if_neg h12, if_pos (by omega)]
      have h12' : s.size ≤ 12 := by omega
      have hl := ref_name_loop s h12' s.size m 0 (by omega) (by omega) (by omega)
      have hd : digit (bt s 0) = true → letter (bt s 0) = false := by simp [digit, letter]; omega
      have hn : letter (bt s 0) = false → digit (bt s 0) = false → nameFrom s 0 s.size = false := by
        intro h1 h2
        obtain ⟨d, hd'⟩ : ∃ d, s.size = d + 1 := ⟨s.size - 1, by omega⟩
        rw [hd', nameFrom, h1, h2]; rfl
      by_cases h1 : bt s 0 ≥ 48
      · rw [if_pos h1]
        by_cases h2 : bt s 0 ≤ 57
        · have hdd : digit (bt s 0) = true := by simp [digit]; omega
          simp [r3_Name.j0, h2, hd hdd]
        · have hdd : digit (bt s 0) = false := by simp [digit]; omega
          simp only [r3_Name.j0, decide_eq_false h2, Bool.false_eq_true, if_false, hl, h0, h12', decide_true, Bool.true_and]
          cases hll : letter (bt s 0) with
          | true => rfl
          | false => rw [hn hll hdd]; rfl
      · rw [if_neg h1]
        have hdd : digit (bt s 0) = false := by simp [digit]; omega
        simp only [r3_Name.j0, Bool.false_eq_true, if_false, hl, h0, h12', decide_true, Bool.true_and]
        cases hll : letter (bt s 0) with
        | true => rfl
        | false => rw [hn hll hdd]; rfl
def immOk (f imm : Int) (s : ByteArray) : Bool :=
  if target f = true then (if s.toList = [] then decide (0 ≤ imm ∧ imm ≤ 1023) else (imm == 0 && nameOk s))
  else if s.toList = [] then (if f = 3 ∨ f = 5 then fit14 imm else if f = 4 then fit18 imm else imm == 0)
  else (if f = 4 then (nameOk s && fit18 imm) else false)
def insOk (op d a b imm : Int) (s : ByteArray) : Bool :=
  decide (0 ≤ op ∧ op ≤ 33) && (regOk (hasD (formOf op)) d && (regOk (hasA (formOf op)) a && (regOk (hasB (formOf op)) b && immOk (formOf op) imm s)))
theorem isa_is (op : Int) : isa_Is.f op = some (decide (0 ≤ op ∧ op ≤ 33)) := by
  unfold isa_Is.f
  by_cases h : op ≥ 0
  · rw [if_pos h]; congr 1; by_cases h2 : op ≤ 33 <;> simp [h2] <;> omega
  · rw [if_neg h]; congr 1; symm; rw [decide_eq_false_iff_not]; omega
theorem ref_valid (op : Int) : r3_Valid.f op = some (decide (0 ≤ op ∧ op ≤ 33)) := by
  unfold r3_Valid.f r0_Between.f
  by_cases h : op ≥ 0
  · rw [if_pos h]; simp only [Option.bind_some]; congr 1; by_cases h2 : op ≤ 33 <;> simp [h2] <;> omega
  · rw [if_neg h]; simp only [Option.bind_some]; congr 1; symm; rw [decide_eq_false_iff_not]; omega
theorem form_cases (f : Int) (h0 : 0 ≤ f) (h1 : f ≤ 9) : f = 0 ∨ f = 1 ∨ f = 2 ∨ f = 3 ∨ f = 4 ∨ f = 5 ∨ f = 6 ∨ f = 7 ∨ f = 8 ∨ f = 9 := by omega
theorem isa_imm_eq {k : Nat} (hk : 50 ≤ k) (op d a b imm : Int) (s : ByteArray) (f : Int) (h0 : 0 ≤ f) (h1 : f ≤ 9) : isa_imm.f k op d a b imm s f = some (immOk f imm s) := by
  obtain ⟨m, rfl⟩ : ∃ m, k = m + 3 := ⟨k - 3, by omega⟩
  have hn := isa_name (k := m + 2) (by omega) s
  have hb := isa_bits (k := m) (by omega) f h0 h1
  unfold isa_imm.f immOk
  rw [isa_target f h0 h1]
  simp only [Option.bind_some]
  by_cases hs : s.toList = []
  · rcases form_cases f h0 h1 with rfl | rfl | rfl | rfl | rfl | rfl | rfl | rfl | rfl | rfl <;>
      simp [isa_imm.j0, isa_imm.j1, isa_imm.j2, target, hs, isa_Target.f, hb, bitsOf, within14, within18]
    all_goals
      by_cases h : 0 ≤ imm <;> simp [h] <;> omega
  · have hne : (s.toList != []) = true := by simpa using hs
    rcases form_cases f h0 h1 with rfl | rfl | rfl | rfl | rfl | rfl | rfl | rfl | rfl | rfl <;>
      simp [isa_imm.j0, isa_imm.j1, isa_imm.j2, target, hs, hn, isa_Target.f, hb, bitsOf, within14, within18]
    · cases nameOk s <;> simp
    · by_cases h : imm = 0 <;> simp [h]
    · by_cases h : imm = 0 <;> simp [h]
theorem isa_ins_eq {k : Nat} (hk : 50 ≤ k) (op d a b imm : Int) (s : ByteArray) : isa_IsIns.f k op d a b imm s = some (insOk op d a b imm s) := by
  unfold isa_IsIns.f insOk
  rw [isa_is]
  simp only [Option.bind_some]
  by_cases h : 0 ≤ op ∧ op ≤ 33
  · obtain ⟨f0, f1⟩ := formOf_range op h.1 h.2
    rw [if_pos (by simp [h]), shape_eq (by omega) op h.1 h.2]
    simp only [Option.bind_some, isa_hasD _ f0 f1, isa_hasA (show 10 ≤ k by omega) _ f0 f1, isa_hasB _ f0 f1, isa_reg_eq, isa_imm_eq hk op d a b imm s _ f0 f1]
    cases regOk (hasD (formOf op)) d <;> cases regOk (hasA (formOf op)) a <;> cases regOk (hasB (formOf op)) b <;> simp [h]
  · simp [h]
theorem ref_ins_eq {k : Nat} (hk : 50 ≤ k) (op d a b imm : Int) (s : ByteArray) : r3_Ins.f k op d a b imm s = some (insOk op d a b imm s) := by
  obtain ⟨m, rfl⟩ : ∃ m, k = m + 1 := ⟨k - 1, by omega⟩
  have hn := ref_name (k := m) (by omega) s
  unfold r3_Ins.f insOk
  rw [ref_valid]
  simp only [Option.bind_some]
  by_cases h : 0 ≤ op ∧ op ≤ 33
  · obtain ⟨f0, f1⟩ := formOf_range op h.1 h.2
    have hli := formOf_li op h.1 h.2
    have hb := ref_bits (k := m) (by omega) (formOf op) f0 f1
    rw [if_pos (by simp [h]), form_eq op h.1 h.2]
    simp only [Option.bind_some, ref_hasD _ f0 f1, ref_hasA _ f0 f1, ref_hasB _ f0 f1, ref_reg_eq]
    have hj : r3_Ins.j0 (m + 1) (formOf op) false op d a b imm s = some (immOk (formOf op) imm s) := by
      simp only [r3_Ins.j0, immOk, ref_target _ f0 f1, hb, Option.bind_some, Bool.false_eq_true, if_false]
      generalize formOf op = f at *
      by_cases hs : s.toList = []
      · rcases form_cases f f0 f1 with rfl | rfl | rfl | rfl | rfl | rfl | rfl | rfl | rfl | rfl <;>
          simp [target, hs, bitsOf, fits14, fits18, r0_Num.f]
        all_goals
          by_cases h : 0 ≤ imm <;> simp [h] <;> omega
      · rw [hn]
        by_cases h23 : op = 23
        · obtain rfl : f = 4 := hli.2 h23
          cases hnn : nameOk s <;> simp [target, hs, h23, fits18, hnn]
          cases fit18 imm <;> rfl
        · have h4 : f ≠ 4 := fun e => h23 (hli.1 e)
          rcases form_cases f f0 f1 with rfl | rfl | rfl | rfl | rfl | rfl | rfl | rfl | rfl | rfl <;>
            cases hnn : nameOk s <;> simp_all [target, hs]
    have hjt : r3_Ins.j0 (m + 1) (formOf op) true op d a b imm s = some false := by simp [r3_Ins.j0]
    cases regOk (hasD (formOf op)) d <;> cases regOk (hasA (formOf op)) a <;> cases regOk (hasB (formOf op)) b <;> simp [h, hj, hjt]
  · simp [h]
end
section
attribute [local go_sem] max2_int min2_int max_two min_two max_three min_three max_four min_four
end
section
attribute [local go_sem] max2_int min2_int max_two min_two max_three min_three max_four min_four
end
end Go.Proofs.Ytibfkkjkahpobaa.PDag

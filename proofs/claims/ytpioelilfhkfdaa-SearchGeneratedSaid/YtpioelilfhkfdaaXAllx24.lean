-- This session's own text, written by wip/tools/xall.py after the form of the kit's print.
import Derived.Test.YtpioelilfhkfdaaXAllx0
import Derived.Test.YtpioelilfhkfdaaXAllx1
import Derived.Test.YtpioelilfhkfdaaXAllx2
import Derived.Test.YtpioelilfhkfdaaXAllx11
import Derived.Test.YtpioelilfhkfdaaXAllx22
import Derived.Test.YtpioelilfhkfdaaXAllx23
namespace Go.Proofs.Ytpioelilfhkfdaa.XAll
open Go.RowKit Go.Proofs.YtpioelilfhkfdaaW.PrintWords Go.Proofs.YtpioelilfhkfdaaW.PrintLast Go.Proofs.YtpioelilfhkfdaaW.PrintMore
attribute [local go_sem] max2_int min2_int max_two min_two max_three min_three max_four min_four   -- for this text's walks alone
set_option linter.unusedVariables false
set_option linter.unusedSimpArgs false

/-! ### railplanlaw17_SearchGenerated: function 6 -/
def railplanlaw17_SearchGenerated.f (k : Nat) (l0 : List Int) (a1 : Int) : Option (Bool) := (railplanlaw17_awake.f k).bind fun t261 => (if t261 = true then ((railplankeep_Network.f k l0).bind fun bt262 => ((railplanlaw17_agrees.f k bt262.1 bt262.2.1 bt262.2.2 20000).bind fun t269 => (if t269 = true then ((railplankeep_Slack.f k l0).bind fun bt270 => ((railplanlaw17_agrees.f k bt270.1 bt270.2.1 bt270.2.2 20000).bind fun t277 => (if t277 = true then ((railplankeep_Slack.f k l0).bind fun bt278 => ((railplankeep_Pick.f a1 400).bind fun t285 => ((railplanlaw17_agrees.f k bt278.1 bt278.2.1 bt278.2.2 (wrap64 (1 + t285))).bind fun t286 => (some t286)))) else (some false)))) else (some false)))) else (some false))
theorem railplanlaw17_SearchGenerated.mono : ∀ a0 a1 k, LeO (railplanlaw17_SearchGenerated.f k a0 a1) (railplanlaw17_SearchGenerated.f (k + 1) a0 a1) := by
 intro a0 a1 k
 unfold railplanlaw17_SearchGenerated.f
 repeat' first
   | (with_reducible exact railplankeep_Network.mono _ _)
   | (with_reducible exact railplankeep_Slack.mono _ _)
   | (with_reducible exact railplanlaw17_agrees.mono _ _ _ _ _)
   | (with_reducible exact railplanlaw17_awake.mono _)
   | (with_reducible exact LeO.refl _)
   | (with_reducible exact LeO.none _)
   | (with_reducible refine LeO.ite ?_ ?_)
   | (with_reducible refine LeO.bind ?_ (fun _ => ?_))
   | exact railplankeep_Network.mono _ _
   | exact railplankeep_Slack.mono _ _
   | exact railplanlaw17_agrees.mono _ _ _ _ _
   | exact railplanlaw17_awake.mono _
   | exact LeO.none _
   | refine LeO.ite ?_ ?_
   | refine LeO.bind ?_ (fun _ => ?_)
set_option maxHeartbeats 8000000 in
set_option maxRecDepth 100000 in
theorem railplanlaw17_SearchGenerated.calls (k : Nat) (A0 : Option Addr) (c0 : Nat) (l0 : List Int) (a1 : Int) (r : Bool) (w : World) (hr0 : Kd.C (Kd.int .i64) w A0 l0.length l0) (hc0 : l0.length ≤ c0) (h : railplanlaw17_SearchGenerated.f k l0 a1 = some r) (hT : Aside0 (r = true)) :
  Calls Try.prog 6 #[.slice A0 l0.length c0, .int .i64 a1] w fun e w' => e = .returned (.bool r) ∧ Below w.heap.size w w' := by
 have HR0 := qo hr0
 have HC0 := qo hc0
 clear hr0 hc0
 have HB := qo (qaj w.heap.size w)
 have H : ((railplanlaw17_awake.f k).bind fun t261 => (if t261 = true then ((railplankeep_Network.f k l0).bind fun bt262 => ((railplanlaw17_agrees.f k bt262.1 bt262.2.1 bt262.2.2 20000).bind fun t269 => (if t269 = true then ((railplankeep_Slack.f k l0).bind fun bt270 => ((railplanlaw17_agrees.f k bt270.1 bt270.2.1 bt270.2.2 20000).bind fun t277 => (if t277 = true then ((railplankeep_Slack.f k l0).bind fun bt278 => ((railplankeep_Pick.f a1 400).bind fun t285 => ((railplanlaw17_agrees.f k bt278.1 bt278.2.1 bt278.2.2 (wrap64 (1 + t285))).bind fun t286 => (some t286)))) else (some false)))) else (some false)))) else (some false))) = some r := h
 clear h
 replace H := Option.bind_eq_some_iff.mp H
 obtain ⟨t261, A30, H⟩ := H
 replace H : (if t261 = true then ((railplankeep_Network.f k l0).bind fun bt262 => ((railplanlaw17_agrees.f k bt262.1 bt262.2.1 bt262.2.2 20000).bind fun t269 => (if t269 = true then ((railplankeep_Slack.f k l0).bind fun bt270 => ((railplanlaw17_agrees.f k bt270.1 bt270.2.1 bt270.2.2 20000).bind fun t277 => (if t277 = true then ((railplankeep_Slack.f k l0).bind fun bt278 => ((railplankeep_Pick.f a1 400).bind fun t285 => ((railplanlaw17_agrees.f k bt278.1 bt278.2.1 bt278.2.2 (wrap64 (1 + t285))).bind fun t286 => (some t286)))) else (some false)))) else (some false)))) else (some false)) = some r := H
 have A3 := qo A30
 clear A30
 by_cases c4 : t261 = true
 ·subst c4
  have H1 : ((railplankeep_Network.f k l0).bind fun bt262 => ((railplanlaw17_agrees.f k bt262.1 bt262.2.1 bt262.2.2 20000).bind fun t269 => (if t269 = true then ((railplankeep_Slack.f k l0).bind fun bt270 => ((railplanlaw17_agrees.f k bt270.1 bt270.2.1 bt270.2.2 20000).bind fun t277 => (if t277 = true then ((railplankeep_Slack.f k l0).bind fun bt278 => ((railplankeep_Pick.f a1 400).bind fun t285 => ((railplanlaw17_agrees.f k bt278.1 bt278.2.1 bt278.2.2 (wrap64 (1 + t285))).bind fun t286 => (some t286)))) else (some false)))) else (some false)))) = some r := by rw [if_pos rfl] at H; exact H
  clear H
  have H := H1
  clear H1
  replace H := Option.bind_eq_some_iff.mp H
  obtain ⟨⟨t262, t263, t266⟩, A50, H⟩ := H
  replace H : ((railplanlaw17_agrees.f k t262 t263 t266 20000).bind fun t269 => (if t269 = true then ((railplankeep_Slack.f k l0).bind fun bt270 => ((railplanlaw17_agrees.f k bt270.1 bt270.2.1 bt270.2.2 20000).bind fun t277 => (if t277 = true then ((railplankeep_Slack.f k l0).bind fun bt278 => ((railplankeep_Pick.f a1 400).bind fun t285 => ((railplanlaw17_agrees.f k bt278.1 bt278.2.1 bt278.2.2 (wrap64 (1 + t285))).bind fun t286 => (some t286)))) else (some false)))) else (some false))) = some r := H
  have A5 := qo A50
  clear A50
  replace H := Option.bind_eq_some_iff.mp H
  obtain ⟨t269, A60, H⟩ := H
  replace H : (if t269 = true then ((railplankeep_Slack.f k l0).bind fun bt270 => ((railplanlaw17_agrees.f k bt270.1 bt270.2.1 bt270.2.2 20000).bind fun t277 => (if t277 = true then ((railplankeep_Slack.f k l0).bind fun bt278 => ((railplankeep_Pick.f a1 400).bind fun t285 => ((railplanlaw17_agrees.f k bt278.1 bt278.2.1 bt278.2.2 (wrap64 (1 + t285))).bind fun t286 => (some t286)))) else (some false)))) else (some false)) = some r := H
  have A6 := qo A60
  clear A60
  by_cases c7 : t269 = true
  ·subst c7
   have H1 : ((railplankeep_Slack.f k l0).bind fun bt270 => ((railplanlaw17_agrees.f k bt270.1 bt270.2.1 bt270.2.2 20000).bind fun t277 => (if t277 = true then ((railplankeep_Slack.f k l0).bind fun bt278 => ((railplankeep_Pick.f a1 400).bind fun t285 => ((railplanlaw17_agrees.f k bt278.1 bt278.2.1 bt278.2.2 (wrap64 (1 + t285))).bind fun t286 => (some t286)))) else (some false)))) = some r := by rw [if_pos rfl] at H; exact H
   clear H
   have H := H1
   clear H1
   replace H := Option.bind_eq_some_iff.mp H
   obtain ⟨⟨t270, t271, t274⟩, A80, H⟩ := H
   replace H : ((railplanlaw17_agrees.f k t270 t271 t274 20000).bind fun t277 => (if t277 = true then ((railplankeep_Slack.f k l0).bind fun bt278 => ((railplankeep_Pick.f a1 400).bind fun t285 => ((railplanlaw17_agrees.f k bt278.1 bt278.2.1 bt278.2.2 (wrap64 (1 + t285))).bind fun t286 => (some t286)))) else (some false))) = some r := H
   have A8 := qo A80
   clear A80
   replace H := Option.bind_eq_some_iff.mp H
   obtain ⟨t277, A90, H⟩ := H
   replace H : (if t277 = true then ((railplankeep_Slack.f k l0).bind fun bt278 => ((railplankeep_Pick.f a1 400).bind fun t285 => ((railplanlaw17_agrees.f k bt278.1 bt278.2.1 bt278.2.2 (wrap64 (1 + t285))).bind fun t286 => (some t286)))) else (some false)) = some r := H
   have A9 := qo A90
   clear A90
   by_cases c10 : t277 = true
   ·subst c10
    have H1 : ((railplankeep_Slack.f k l0).bind fun bt278 => ((railplankeep_Pick.f a1 400).bind fun t285 => ((railplanlaw17_agrees.f k bt278.1 bt278.2.1 bt278.2.2 (wrap64 (1 + t285))).bind fun t286 => (some t286)))) = some r := by rw [if_pos rfl] at H; exact H
    clear H
    have H := H1
    clear H1
    replace H := Option.bind_eq_some_iff.mp H
    obtain ⟨⟨t278, t279, t282⟩, A110, H⟩ := H
    replace H : ((railplankeep_Pick.f a1 400).bind fun t285 => ((railplanlaw17_agrees.f k t278 t279 t282 (wrap64 (1 + t285))).bind fun t286 => (some t286))) = some r := H
    have A11 := qo A110
    clear A110
    replace H := Option.bind_eq_some_iff.mp H
    obtain ⟨t285, A120, H⟩ := H
    replace H : ((railplanlaw17_agrees.f k t278 t279 t282 (wrap64 (1 + t285))).bind fun t286 => (some t286)) = some r := H
    have A12 := qo A120
    clear A120
    replace H := Option.bind_eq_some_iff.mp H
    obtain ⟨t286, A130, H⟩ := H
    replace H : (some t286) = some r := H
    have A13 := qo A130
    clear A130
    obtain rfl := Option.some.inj H
    go_enter Try.func6, Try.ntmps6
    go_wp2_with (first | ((with_reducible refine gate_callee (f := 15) rfl ?_); refine goesL_ (some 5) rfl rfl Try.func15 (by kernel_rfl) rfl #[] rfl (by (try simp only [List.map_toArray, List.map_cons, List.map_nil]); first | done | rfl | (simp only [List.length_drop, List.length_take]; rfl)) ?_; (with_reducible refine (railplanlaw17_awake.calls k  true _ A3.out ⟨by first | rfl | assumption | exact hT.out⟩).mono ?_); rintro e w14 ⟨rfl, hb⟩; refine ⟨_, rfl, ?_⟩; have n0_ := qo (qt (by repeat (first | (with_reducible first | exact HB.out | apply qc | apply qb | apply qd) | exact HB.out)) hb); clear HB; have HB := n0_; clear n0_; (try clear hb); (try clear hb2); (try clear hk); (try clear hi)) | (go_at_call 12; (with_reducible refine (railplankeep_Network.calls k _ _ l0 t262 t263 t266 _ ?side1 ?side2 A5.out).mono ?_); (case side1 => repeat (first | exact (qs HR0.out HB.out) | (with_reducible refine qv ?_ _) | (with_reducible refine qw ?_ _) | (with_reducible refine qx ?_))); (case side2 => exact HC0.out); rintro e w15 ⟨v264, v267, rfl, ho0, ho1, hb⟩; have n0_ := qo (qag ho0 (qu (by repeat (first | (with_reducible first | exact HB.out | apply qc | apply qb | apply qd) | exact HB.out)))); have n1_ := qo (qag ho1 (qu (by repeat (first | (with_reducible first | exact HB.out | apply qc | apply qb | apply qd) | exact HB.out)))); have n2_ := qo (qt (by repeat (first | (with_reducible first | exact HB.out | apply qc | apply qb | apply qd) | exact HB.out)) hb); clear HB; have HO265 := n0_; have HO268 := n1_; have HB := n2_; clear n0_ n1_ n2_; (try clear hb); (try clear hb2); (try clear hk); (try clear hi); (try clear ho0); (try clear ho1); obtain ⟨Ao16, co16, eo16⟩ := qak HO265.out; subst eo16; obtain ⟨Ao17, co17, eo17⟩ := qak HO268.out; subst eo17) | (go_at_call 22; (with_reducible refine (railplanlaw17_agrees.calls k t262 _ _ t263 _ _ t266 20000 true _ ?side1 ?side2 ?side3 ?side4 A6.out ⟨by first | rfl | assumption | exact hT.out⟩).mono ?_); (case side1 => repeat (first | exact (qr HO265.out).2.2 | (with_reducible refine qv ?_ _) | (with_reducible refine qw ?_ _) | (with_reducible refine qx ?_))); (case side2 => exact (qr HO265.out).2.1); (case side3 => repeat (first | exact (qr HO268.out).2.2 | (with_reducible refine qv ?_ _) | (with_reducible refine qw ?_ _) | (with_reducible refine qx ?_))); (case side4 => exact (qr HO268.out).2.1); rintro e w18 ⟨rfl, hb⟩; have n0_ := qo (qae (by (with_reducible repeat (first | apply qh | apply qg | apply qi)); exact HO265.out) hb); have n1_ := qo (qae (by (with_reducible repeat (first | apply qh | apply qg | apply qi)); exact HO268.out) hb); have n2_ := qo (qt (by repeat (first | (with_reducible first | exact HB.out | apply qc | apply qb | apply qd) | exact HB.out)) hb); clear HO265; clear HO268; clear HB; have HO265 := n0_; have HO268 := n1_; have HB := n2_; clear n0_ n1_ n2_; (try clear hb); (try clear hb2); (try clear hk); (try clear hi)) | ((fail_if_success have hq_ := HO273); go_at_call 23; (with_reducible refine (railplankeep_Slack.calls k _ _ l0 t270 t271 t274 _ ?side1 ?side2 A8.out).mono ?_); (case side1 => repeat (first | exact (qs HR0.out HB.out) | (with_reducible refine qv ?_ _) | (with_reducible refine qw ?_ _) | (with_reducible refine qx ?_))); (case side2 => exact HC0.out); rintro e w19 ⟨v272, v275, rfl, ho0, ho1, hb⟩; have n0_ := qo (Kd.R_elder' (by (with_reducible repeat (first | apply qh | apply qg | apply qi)); exact HO265.out) (by first | exact Kd.N_base ho0 | exact Kd.S_base ho0 | exact Kd.R_base ho0 | exact Kd.Q_base ho0) hb); have n1_ := qo (Kd.R_elder' (by (with_reducible repeat (first | apply qh | apply qg | apply qi)); exact HO268.out) (by first | exact Kd.N_base ho1 | exact Kd.S_base ho1 | exact Kd.R_base ho1 | exact Kd.Q_base ho1) hb); have n2_ := qo (qag (Kd.R_new' ho0 (Kd.R_lt (by (with_reducible repeat (first | apply qh | apply qg | apply qi)); exact HO265.out))) (qu (by repeat (first | (with_reducible first | exact HB.out | apply qc | apply qb | apply qd) | exact HB.out)))); have n3_ := qo (qag (Kd.R_new' ho1 (Kd.R_lt (by (with_reducible repeat (first | apply qh | apply qg | apply qi)); exact HO268.out))) (qu (by repeat (first | (with_reducible first | exact HB.out | apply qc | apply qb | apply qd) | exact HB.out)))); have n4_ := qo (qt (by repeat (first | (with_reducible first | exact HB.out | apply qc | apply qb | apply qd) | exact HB.out)) hb); clear HO265; clear HO268; clear HB; have HO265 := n0_; have HO268 := n1_; have HO273 := n2_; have HO276 := n3_; have HB := n4_; clear n0_ n1_ n2_ n3_ n4_; (try clear hb); (try clear hb2); (try clear hk); (try clear hi); (try clear ho0); (try clear ho1); obtain ⟨Ao20, co20, eo20⟩ := qak HO273.out; subst eo20; obtain ⟨Ao21, co21, eo21⟩ := qak HO276.out; subst eo21) | (go_at_call 22; (with_reducible refine (railplanlaw17_agrees.calls k t270 _ _ t271 _ _ t274 20000 true _ ?side1 ?side2 ?side3 ?side4 A9.out ⟨by first | rfl | assumption | exact hT.out⟩).mono ?_); (case side1 => repeat (first | exact (qr HO273.out).2.2 | (with_reducible refine qv ?_ _) | (with_reducible refine qw ?_ _) | (with_reducible refine qx ?_))); (case side2 => exact (qr HO273.out).2.1); (case side3 => repeat (first | exact (qr HO276.out).2.2 | (with_reducible refine qv ?_ _) | (with_reducible refine qw ?_ _) | (with_reducible refine qx ?_))); (case side4 => exact (qr HO276.out).2.1); rintro e w22 ⟨rfl, hb⟩; have n0_ := qo (qae (by (with_reducible repeat (first | apply qh | apply qg | apply qi)); exact HO265.out) hb); have n1_ := qo (qae (by (with_reducible repeat (first | apply qh | apply qg | apply qi)); exact HO268.out) hb); have n2_ := qo (qae (by (with_reducible repeat (first | apply qh | apply qg | apply qi)); exact HO273.out) hb); have n3_ := qo (qae (by (with_reducible repeat (first | apply qh | apply qg | apply qi)); exact HO276.out) hb); have n4_ := qo (qt (by repeat (first | (with_reducible first | exact HB.out | apply qc | apply qb | apply qd) | exact HB.out)) hb); clear HO265; clear HO268; clear HO273; clear HO276; clear HB; have HO265 := n0_; have HO268 := n1_; have HO273 := n2_; have HO276 := n3_; have HB := n4_; clear n0_ n1_ n2_ n3_ n4_; (try clear hb); (try clear hb2); (try clear hk); (try clear hi)) | (go_at_call 23; (with_reducible refine (railplankeep_Slack.calls k _ _ l0 t278 t279 t282 _ ?side1 ?side2 A11.out).mono ?_); (case side1 => repeat (first | exact (qs HR0.out HB.out) | (with_reducible refine qv ?_ _) | (with_reducible refine qw ?_ _) | (with_reducible refine qx ?_))); (case side2 => exact HC0.out); rintro e w23 ⟨v280, v283, rfl, ho0, ho1, hb⟩; have n0_ := qo (Kd.R_elder' (by (with_reducible repeat (first | apply qh | apply qg | apply qi)); exact HO265.out) (by first | exact Kd.N_base ho0 | exact Kd.S_base ho0 | exact Kd.R_base ho0 | exact Kd.Q_base ho0) hb); have n1_ := qo (Kd.R_elder' (by (with_reducible repeat (first | apply qh | apply qg | apply qi)); exact HO268.out) (by first | exact Kd.N_base ho1 | exact Kd.S_base ho1 | exact Kd.R_base ho1 | exact Kd.Q_base ho1) hb); have n2_ := qo (Kd.R_elder' (by (with_reducible repeat (first | apply qh | apply qg | apply qi)); exact HO273.out) (by first | exact Kd.N_base ho0 | exact Kd.S_base ho0 | exact Kd.R_base ho0 | exact Kd.Q_base ho0) hb); have n3_ := qo (Kd.R_elder' (by (with_reducible repeat (first | apply qh | apply qg | apply qi)); exact HO276.out) (by first | exact Kd.N_base ho1 | exact Kd.S_base ho1 | exact Kd.R_base ho1 | exact Kd.Q_base ho1) hb); have n4_ := qo (qag (Kd.R_new' (Kd.R_new' ho0 (Kd.R_lt (by (with_reducible repeat (first | apply qh | apply qg | apply qi)); exact HO265.out))) (Kd.R_lt (by (with_reducible repeat (first | apply qh | apply qg | apply qi)); exact HO273.out))) (qu (by repeat (first | (with_reducible first | exact HB.out | apply qc | apply qb | apply qd) | exact HB.out)))); have n5_ := qo (qag (Kd.R_new' (Kd.R_new' ho1 (Kd.R_lt (by (with_reducible repeat (first | apply qh | apply qg | apply qi)); exact HO268.out))) (Kd.R_lt (by (with_reducible repeat (first | apply qh | apply qg | apply qi)); exact HO276.out))) (qu (by repeat (first | (with_reducible first | exact HB.out | apply qc | apply qb | apply qd) | exact HB.out)))); have n6_ := qo (qt (by repeat (first | (with_reducible first | exact HB.out | apply qc | apply qb | apply qd) | exact HB.out)) hb); clear HO265; clear HO268; clear HO273; clear HO276; clear HB; have HO265 := n0_; have HO268 := n1_; have HO273 := n2_; have HO276 := n3_; have HO281 := n4_; have HO284 := n5_; have HB := n6_; clear n0_ n1_ n2_ n3_ n4_ n5_ n6_; (try clear hb); (try clear hb2); (try clear hk); (try clear hi); (try clear ho0); (try clear ho1)) | (go_at_call 21; (with_reducible refine (railplankeep_Pick.calls a1 400 t285 _ A12.out).mono ?_); rintro e w' ⟨rfl, ⟨nd, rfl⟩⟩; obtain ⟨Ao24, co24, eo24⟩ := qak HO281.out; subst eo24; obtain ⟨Ao25, co25, eo25⟩ := qak HO284.out; subst eo25) | (go_at_call 22; (with_reducible refine (railplanlaw17_agrees.calls k t278 _ _ t279 _ _ t282 (wrap64 (1 + t285)) t286 _ ?side1 ?side2 ?side3 ?side4 A13.out ⟨by first | rfl | assumption | exact hT.out⟩).mono ?_); (case side1 => repeat (first | exact (qr HO281.out).2.2 | (with_reducible refine qv ?_ _) | (with_reducible refine qw ?_ _) | (with_reducible refine qx ?_))); (case side2 => exact (qr HO281.out).2.1); (case side3 => repeat (first | exact (qr HO284.out).2.2 | (with_reducible refine qv ?_ _) | (with_reducible refine qw ?_ _) | (with_reducible refine qx ?_))); (case side4 => exact (qr HO284.out).2.1); rintro e w26 ⟨rfl, hb⟩; have n0_ := qo (qae (by (with_reducible repeat (first | apply qh | apply qg | apply qi)); exact HO265.out) hb); have n1_ := qo (qae (by (with_reducible repeat (first | apply qh | apply qg | apply qi)); exact HO268.out) hb); have n2_ := qo (qae (by (with_reducible repeat (first | apply qh | apply qg | apply qi)); exact HO273.out) hb); have n3_ := qo (qae (by (with_reducible repeat (first | apply qh | apply qg | apply qi)); exact HO276.out) hb); have n4_ := qo (qae (by (with_reducible repeat (first | apply qh | apply qg | apply qi)); exact HO281.out) hb); have n5_ := qo (qae (by (with_reducible repeat (first | apply qh | apply qg | apply qi)); exact HO284.out) hb); have n6_ := qo (qt (by repeat (first | (with_reducible first | exact HB.out | apply qc | apply qb | apply qd) | exact HB.out)) hb); clear HO265; clear HO268; clear HO273; clear HO276; clear HO281; clear HO284; clear HB; have HO265 := n0_; have HO268 := n1_; have HO273 := n2_; have HO276 := n3_; have HO281 := n4_; have HO284 := n5_; have HB := n6_; clear n0_ n1_ n2_ n3_ n4_ n5_ n6_; (try clear hb); (try clear hb2); (try clear hk); (try clear hi)))
    go_ret
    exact ⟨by first | rfl | (simp [errW_none, errW_some] <;> rfl) | (simp [*, errW_none, errW_some] <;> rfl), by repeat (first | (with_reducible first | exact HB.out | apply qc | apply qb | apply qd) | exact HB.out)⟩
   ·replace c10 := Bool.eq_false_iff.mpr c10
    subst c10
    have H1 : (some false) = some r := by rw [if_neg (show ¬ (false = true) by decide)] at H; exact H
    clear H
    have H := H1
    clear H1
    exact absurd (Option.some.inj H) (by rw [hT.out]; decide)
  ·replace c7 := Bool.eq_false_iff.mpr c7
   subst c7
   have H1 : (some false) = some r := by rw [if_neg (show ¬ (false = true) by decide)] at H; exact H
   clear H
   have H := H1
   clear H1
   exact absurd (Option.some.inj H) (by rw [hT.out]; decide)
 ·replace c4 := Bool.eq_false_iff.mpr c4
  subst c4
  have H1 : (some false) = some r := by rw [if_neg (show ¬ (false = true) by decide)] at H; exact H
  clear H
  have H := H1
  clear H1
  exact absurd (Option.some.inj H) (by rw [hT.out]; decide)

/-- THE ONE PURE STATEMENT of railplanlaw17_SearchGenerated: yours. -/
def railplanlaw17_SearchGenerated.Pure : Prop := ∀ (l0 : List Int) (a1 : Int), l0.length ≤ maxLen → l0.length * 8 ≤ 140737488351232 → (∀ x ∈ l0, (Lit.int .i64 x).wf = true) → (Lit.int .i64 a1).wf = true → ∃ k, railplanlaw17_SearchGenerated.f k l0 a1 = some true
theorem railplanlaw17_SearchGenerated.walk (P : railplanlaw17_SearchGenerated.Pure) (a0 : Option Addr) (len0 cap0 : Nat) (z0 : List Int) (a1 : Int) (w : World) (w0 : (a0 = none ∧ len0 = 0 ∧ cap0 = 0 ∧ z0 = []) ∨ ∃ x, a0 = some x ∧ len0 ≤ cap0 ∧ cap0 ≤ maxLen ∧ z0.length = cap0 ∧ (∀ i, i < z0.length → w.cell? (x.add i) = some (.int .i64 (z0.getD i 0))) ∧ ∀ n ∈ z0, (Lit.int .i64 n).wf = true) (y0 : len0 * 8 ≤ 140737488351232) (w1 : (Lit.int .i64 a1).wf = true) :
  Calls Try.prog 6 #[.slice a0 len0 cap0, .int .i64 a1] w fun e w' => e = .returned (.bool true) ∧ Below w.heap.size w w' := by
 obtain ⟨l0, rfl, hr0, hm0, hw0, hc0⟩ := ReadsInt.ofRowC w0
 obtain ⟨k, h⟩ := P l0 a1 hm0 y0 hw0 w1
 refine (railplanlaw17_SearchGenerated.calls k _ _ l0 a1 true w (Kd.C_of_reads (d := (0 : Int)) (h1 := fun _ => rfl) hr0) hc0 h ⟨rfl⟩).mono ?_
 rintro e w' ⟨rfl, hd⟩
 exact ⟨rfl, hd⟩

end Go.Proofs.Ytpioelilfhkfdaa.XAll

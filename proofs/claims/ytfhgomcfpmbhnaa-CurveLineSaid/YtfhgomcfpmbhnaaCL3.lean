-- Part 3 of the texts of the claim CL (wrote by programs: words of the kit's print.sh, printed functions; and my own texts; joined by wip/tools/pack.py).
import Derived.Test.YtfhgomcfpmbhnaaCL2

section
namespace Go.Proofs.Ytfhgomcfpmbhnaa.PS
open Go.RowKit Go.Proofs.YtfhgomcfpmbhnaaW.PrintWords Go.Proofs.YtfhgomcfpmbhnaaW.PrintLast Go.Proofs.YtfhgomcfpmbhnaaW.PrintMore
attribute [local go_sem] frun_add frun_sub frun_mul frun_quo frun_neg frun_of frun_same frun_store frun_bits frun_from
attribute [local go_sem] max2_int min2_int max_two min_two max_three min_three max_four min_four
set_option linter.unusedVariables false
set_option linter.unusedSimpArgs false
def levyref17_Ordered.l0 : Nat → List (S38) → Int → Option (Bool)
 | 0, _, _ => none
 | k + 1, x0, x3 => if x3 < (x0.length : Int) then (if 0 ≤ x3 then ((levyref17_Finite.f ((rd_T38 x0 x3).f1)).bind fun t107 => (if t107 = true then (if ((rd_T38 x0 x3).f0) < (-9999999999999) then (some false) else (if ((rd_T38 x0 x3).f0) > 9999999999999 then (some false) else (if x3 > 0 then (if 0 ≤ (wrap64 (x3 - 1)) then (if (wrap64 (x3 - 1)) < (x0.length : Int) then (if ((rd_T38 x0 x3).f0) ≤ ((rd_T38 x0 (wrap64 (x3 - 1))).f0) then (some false) else (levyref17_Ordered.l0 k x0 (wrap64 (x3 + 1)))) else (none)) else (none)) else (levyref17_Ordered.l0 k x0 (wrap64 (x3 + 1)))))) else (some false))) else (none)) else (some true)
def levyref17_Ordered.f (k : Nat) (l0 : List (S38)) : Option (Bool) := levyref17_Ordered.l0 k l0 0
theorem levyref17_Ordered.mono_l : ∀ k, (∀ y0 y1, LeO (levyref17_Ordered.l0 k y0 y1) (levyref17_Ordered.l0 (k + 1) y0 y1))
 | 0 => fun _ _ r h => by simp [levyref17_Ordered.l0] at h
 | k + 1 => by
  have ih0 := levyref17_Ordered.mono_l k
  ·intro y0 y1
   unfold levyref17_Ordered.l0
   repeat' first
   | (with_reducible exact ih0 _ _)
   | (with_reducible exact LeO.refl _)
   | (with_reducible exact LeO.none _)
   | (with_reducible refine LeO.ite ?_ ?_)
   | (with_reducible refine LeO.bind ?_ (fun _ => ?_))
   | exact ih0 _ _
   | exact LeO.none _
   | refine LeO.ite ?_ ?_
   | refine LeO.bind ?_ (fun _ => ?_)
theorem levyref17_Ordered.mono : ∀ a0 k, LeO (levyref17_Ordered.f k a0) (levyref17_Ordered.f (k + 1) a0) := by
 intro a0 k
 have ih0 := levyref17_Ordered.mono_l k
 unfold levyref17_Ordered.f
 repeat' first
   | (with_reducible exact ih0 _ _)
   | (with_reducible exact LeO.refl _)
   | (with_reducible exact LeO.none _)
   | (with_reducible refine LeO.ite ?_ ?_)
   | (with_reducible refine LeO.bind ?_ (fun _ => ?_))
   | exact ih0 _ _
   | exact LeO.none _
   | refine LeO.ite ?_ ?_
   | refine LeO.bind ?_ (fun _ => ?_)
set_option maxHeartbeats 8000000 in
set_option maxRecDepth 100000 in
theorem levyref17_Ordered.calls (k : Nat) (A0 : Option Addr) (c0 : Nat) (l0 : List (S38)) (r : Bool) (w : World) (hr0 : Kd.C k38 w A0 l0.length l0) (hc0 : l0.length ≤ c0) (h : levyref17_Ordered.f k l0 = some r) :
  Calls Try.prog 55 #[.slice A0 l0.length c0] w fun e w' => e = .returned (.bool r) ∧ Drawn0 w w' := by
 have HR0 := Aside0.mk hr0
 have HC0 := Aside0.mk hc0
 clear hr0 hc0
 have H : (levyref17_Ordered.l0 k l0 0) = some r := h
 clear h
 have H' := Aside0.mk H
 clear H
 go_enter Try.func55, Try.ntmps55
 go_wp2
 repeat (go_quiet (fail); try go_wp2)
 go_loopg [3] k (fun kq v3 w' => ∃ (x3_1 : Int), v3 = .int .i64 x3_1 ∧ Aside0 (levyref17_Ordered.l0 kq l0 x3_1 = some r) ∧ Aside0 (kq ≤ k) ∧ Drawn0 w w')
 case atStart => exact ⟨(0), (by first | rfl | (simp; done) | (simp [*]; done)), H', ⟨Nat.le_refl _⟩, by repeat (first | exact Drawn0.refl _ | apply Drawn0.step)⟩
 case round =>
  clear H'
  obtain ⟨x3_1, rfl, HA, HK1, ⟨m1, rfl⟩⟩ := hrel
  cases gk with
  | zero => exact absurd HA.out (by simp [levyref17_Ordered.l0])
  | succ k1 =>
   have H := HA.out
   clear HA
   simp only [levyref17_Ordered.l0] at H
   by_cases c2 : x3_1 < (l0.length : Int)
   ·rw [if_pos c2] at H
    have c2b0 : decide (x3_1 < (l0.length : Int)) = true := decide_eq_true c2
    clear c2
    by_cases c3 : 0 ≤ x3_1
    ·rw [if_pos c3] at H
     have c3b0 : decide (0 ≤ x3_1) = true := decide_eq_true c3
     clear c3
     replace H := Option.bind_eq_some_iff.mp H
     obtain ⟨t107, A40, H⟩ := H
     replace H : (if t107 = true then (if ((rd_T38 l0 x3_1).f0) < (-9999999999999) then (some false) else (if ((rd_T38 l0 x3_1).f0) > 9999999999999 then (some false) else (if x3_1 > 0 then (if 0 ≤ (wrap64 (x3_1 - 1)) then (if (wrap64 (x3_1 - 1)) < (l0.length : Int) then (if ((rd_T38 l0 x3_1).f0) ≤ ((rd_T38 l0 (wrap64 (x3_1 - 1))).f0) then (some false) else (levyref17_Ordered.l0 k1 l0 (wrap64 (x3_1 + 1)))) else (none)) else (none)) else (levyref17_Ordered.l0 k1 l0 (wrap64 (x3_1 + 1)))))) else (some false)) = some r := H
     have A4 := Aside0.mk A40
     clear A40
     by_cases c5 : t107 = true
     ·subst c5
      have H1 : (if ((rd_T38 l0 x3_1).f0) < (-9999999999999) then (some false) else (if ((rd_T38 l0 x3_1).f0) > 9999999999999 then (some false) else (if x3_1 > 0 then (if 0 ≤ (wrap64 (x3_1 - 1)) then (if (wrap64 (x3_1 - 1)) < (l0.length : Int) then (if ((rd_T38 l0 x3_1).f0) ≤ ((rd_T38 l0 (wrap64 (x3_1 - 1))).f0) then (some false) else (levyref17_Ordered.l0 k1 l0 (wrap64 (x3_1 + 1)))) else (none)) else (none)) else (levyref17_Ordered.l0 k1 l0 (wrap64 (x3_1 + 1)))))) = some r := by rw [if_pos rfl] at H; exact H
      clear H
      have H := H1
      clear H1
      by_cases c6 : ((rd_T38 l0 x3_1).f0) < (-9999999999999)
      ·rw [if_pos c6] at H
       have c6b0 : decide (((rd_T38 l0 x3_1).f0) < (-9999999999999)) = true := decide_eq_true c6
       clear c6
       obtain rfl := Option.some.inj H
       have p106 : 0 ≤ (x3_1 : Int) := odx
       have q106 : x3_1 < (l0.length : Int) := odx
       obtain ⟨ad106, e106, hx106_0, hx106_1⟩ := at_T38 HR0.out x3_1 p106 q106
       cases e106
       replace p106 := eq_true p106
       replace q106 := eq_true q106
       go_wp2_with (first | (go_at_call 58; (with_reducible refine (levyref17_Finite.calls ((rd_T38 l0 x3_1).f1) true _ A4.out).mono ?_); rintro e w' ⟨rfl, ⟨nd, rfl⟩⟩; (try first | exact ⟨rfl, _, World.drewN_drewN _ _ _⟩ | exact ⟨rfl, _, Eq.trans (World.drewN_drewN _ _ _) (congrArg (World.drewN _) (Nat.add_assoc _ _ _))⟩); have p108 : 0 ≤ (x3_1 : Int) := odx; have q108 : x3_1 < (l0.length : Int) := odx; obtain ⟨ad108, e108, hx108_0, hx108_1⟩ := at_T38 HR0.out x3_1 p108 q108; obtain rfl : ad106 = ad108 := (by injection e108); replace p108 := eq_true p108; replace q108 := eq_true q108))
       repeat (go_quiet (first | (go_at_call 58; (with_reducible refine (levyref17_Finite.calls ((rd_T38 l0 x3_1).f1) true _ A4.out).mono ?_); rintro e w' ⟨rfl, ⟨nd, rfl⟩⟩; (try first | exact ⟨rfl, _, World.drewN_drewN _ _ _⟩ | exact ⟨rfl, _, Eq.trans (World.drewN_drewN _ _ _) (congrArg (World.drewN _) (Nat.add_assoc _ _ _))⟩); have p108 : 0 ≤ (x3_1 : Int) := odx; have q108 : x3_1 < (l0.length : Int) := odx; obtain ⟨ad108, e108, hx108_0, hx108_1⟩ := at_T38 HR0.out x3_1 p108 q108; obtain rfl : ad106 = ad108 := (by injection e108); replace p108 := eq_true p108; replace q108 := eq_true q108)); try go_wp2_with (first | (go_at_call 58; (with_reducible refine (levyref17_Finite.calls ((rd_T38 l0 x3_1).f1) true _ A4.out).mono ?_); rintro e w' ⟨rfl, ⟨nd, rfl⟩⟩; (try first | exact ⟨rfl, _, World.drewN_drewN _ _ _⟩ | exact ⟨rfl, _, Eq.trans (World.drewN_drewN _ _ _) (congrArg (World.drewN _) (Nat.add_assoc _ _ _))⟩); have p108 : 0 ≤ (x3_1 : Int) := odx; have q108 : x3_1 < (l0.length : Int) := odx; obtain ⟨ad108, e108, hx108_0, hx108_1⟩ := at_T38 HR0.out x3_1 p108 q108; obtain rfl : ad106 = ad108 := (by injection e108); replace p108 := eq_true p108; replace q108 := eq_true q108)))
       go_ret
       exact ⟨by first | rfl | (simp; done) | (simp [*]; done), by repeat (first | exact Drawn0.refl _ | apply Drawn0.step)⟩
      ·rw [if_neg c6] at H
       have c6b0 : decide (((rd_T38 l0 x3_1).f0) < (-9999999999999)) = false := decide_eq_false c6
       clear c6
       by_cases c7 : ((rd_T38 l0 x3_1).f0) > 9999999999999
       ·rw [if_pos c7] at H
        have c7b0 : decide (9999999999999 < ((rd_T38 l0 x3_1).f0)) = true := decide_eq_true c7
        clear c7
        obtain rfl := Option.some.inj H
        have p106 : 0 ≤ (x3_1 : Int) := odx
        have q106 : x3_1 < (l0.length : Int) := odx
        obtain ⟨ad106, e106, hx106_0, hx106_1⟩ := at_T38 HR0.out x3_1 p106 q106
        cases e106
        replace p106 := eq_true p106
        replace q106 := eq_true q106
        go_wp2_with (first | (go_at_call 58; (with_reducible refine (levyref17_Finite.calls ((rd_T38 l0 x3_1).f1) true _ A4.out).mono ?_); rintro e w' ⟨rfl, ⟨nd, rfl⟩⟩; (try first | exact ⟨rfl, _, World.drewN_drewN _ _ _⟩ | exact ⟨rfl, _, Eq.trans (World.drewN_drewN _ _ _) (congrArg (World.drewN _) (Nat.add_assoc _ _ _))⟩); have p108 : 0 ≤ (x3_1 : Int) := odx; have q108 : x3_1 < (l0.length : Int) := odx; obtain ⟨ad108, e108, hx108_0, hx108_1⟩ := at_T38 HR0.out x3_1 p108 q108; obtain rfl : ad106 = ad108 := (by injection e108); replace p108 := eq_true p108; replace q108 := eq_true q108; have p109 : 0 ≤ (x3_1 : Int) := odx; have q109 : x3_1 < (l0.length : Int) := odx; obtain ⟨ad109, e109, hx109_0, hx109_1⟩ := at_T38 HR0.out x3_1 p109 q109; obtain rfl : ad106 = ad109 := (by injection e109); replace p109 := eq_true p109; replace q109 := eq_true q109))
        repeat (go_quiet (first | (go_at_call 58; (with_reducible refine (levyref17_Finite.calls ((rd_T38 l0 x3_1).f1) true _ A4.out).mono ?_); rintro e w' ⟨rfl, ⟨nd, rfl⟩⟩; (try first | exact ⟨rfl, _, World.drewN_drewN _ _ _⟩ | exact ⟨rfl, _, Eq.trans (World.drewN_drewN _ _ _) (congrArg (World.drewN _) (Nat.add_assoc _ _ _))⟩); have p108 : 0 ≤ (x3_1 : Int) := odx; have q108 : x3_1 < (l0.length : Int) := odx; obtain ⟨ad108, e108, hx108_0, hx108_1⟩ := at_T38 HR0.out x3_1 p108 q108; obtain rfl : ad106 = ad108 := (by injection e108); replace p108 := eq_true p108; replace q108 := eq_true q108; have p109 : 0 ≤ (x3_1 : Int) := odx; have q109 : x3_1 < (l0.length : Int) := odx; obtain ⟨ad109, e109, hx109_0, hx109_1⟩ := at_T38 HR0.out x3_1 p109 q109; obtain rfl : ad106 = ad109 := (by injection e109); replace p109 := eq_true p109; replace q109 := eq_true q109)); try go_wp2_with (first | (go_at_call 58; (with_reducible refine (levyref17_Finite.calls ((rd_T38 l0 x3_1).f1) true _ A4.out).mono ?_); rintro e w' ⟨rfl, ⟨nd, rfl⟩⟩; (try first | exact ⟨rfl, _, World.drewN_drewN _ _ _⟩ | exact ⟨rfl, _, Eq.trans (World.drewN_drewN _ _ _) (congrArg (World.drewN _) (Nat.add_assoc _ _ _))⟩); have p108 : 0 ≤ (x3_1 : Int) := odx; have q108 : x3_1 < (l0.length : Int) := odx; obtain ⟨ad108, e108, hx108_0, hx108_1⟩ := at_T38 HR0.out x3_1 p108 q108; obtain rfl : ad106 = ad108 := (by injection e108); replace p108 := eq_true p108; replace q108 := eq_true q108; have p109 : 0 ≤ (x3_1 : Int) := odx; have q109 : x3_1 < (l0.length : Int) := odx; obtain ⟨ad109, e109, hx109_0, hx109_1⟩ := at_T38 HR0.out x3_1 p109 q109; obtain rfl : ad106 = ad109 := (by injection e109); replace p109 := eq_true p109; replace q109 := eq_true q109)))
        go_ret
        exact ⟨by first | rfl | (simp; done) | (simp [*]; done), by repeat (first | exact Drawn0.refl _ | apply Drawn0.step)⟩
       ·rw [if_neg c7] at H
        have c7b0 : decide (9999999999999 < ((rd_T38 l0 x3_1).f0)) = false := decide_eq_false c7
        clear c7
        by_cases c8 : x3_1 > 0
        ·rw [if_pos c8] at H
         have c8b0 : decide (0 < x3_1) = true := decide_eq_true c8
         clear c8
         obtain ⟨ji9, hji9⟩ : ∃ j_ : Int, (wrap64 (x3_1 - 1)) = j_ := ⟨_, rfl⟩
         replace H : (if 0 ≤ (ji9) then (if (ji9) < (l0.length : Int) then (if ((rd_T38 l0 x3_1).f0) ≤ ((rd_T38 l0 (ji9)).f0) then (some false) else (levyref17_Ordered.l0 k1 l0 (wrap64 (x3_1 + 1)))) else (none)) else (none)) = some r := by first | (rw [hji9] at H; exact H) | (simp only [hji9] at H ⊢; exact H)
         (try rw [hji9] at A4)
         have hji9w : (IntKind.i64.wrap (x3_1 - 1)) = ji9 := (i64_w _).trans hji9
         by_cases c10 : 0 ≤ (ji9)
         ·rw [if_pos c10] at H
          have c10b0 : decide (0 ≤ (ji9)) = true := decide_eq_true c10
          clear c10
          by_cases c11 : (ji9) < (l0.length : Int)
          ·rw [if_pos c11] at H
           have c11b0 : decide ((ji9) < (l0.length : Int)) = true := decide_eq_true c11
           clear c11
           by_cases c12 : ((rd_T38 l0 x3_1).f0) ≤ ((rd_T38 l0 (ji9)).f0)
           ·rw [if_pos c12] at H
            have c12b0 : decide (((rd_T38 l0 x3_1).f0) ≤ ((rd_T38 l0 (ji9)).f0)) = true := decide_eq_true c12
            clear c12
            obtain rfl := Option.some.inj H
            have p106 : 0 ≤ (x3_1 : Int) := odx
            have q106 : x3_1 < (l0.length : Int) := odx
            obtain ⟨ad106, e106, hx106_0, hx106_1⟩ := at_T38 HR0.out x3_1 p106 q106
            cases e106
            replace p106 := eq_true p106
            replace q106 := eq_true q106
            go_wp2_with (first | (go_at_call 58; (with_reducible refine (levyref17_Finite.calls ((rd_T38 l0 x3_1).f1) true _ A4.out).mono ?_); rintro e w' ⟨rfl, ⟨nd, rfl⟩⟩; (try first | exact ⟨rfl, _, World.drewN_drewN _ _ _⟩ | exact ⟨rfl, _, Eq.trans (World.drewN_drewN _ _ _) (congrArg (World.drewN _) (Nat.add_assoc _ _ _))⟩); have p108 : 0 ≤ (x3_1 : Int) := odx; have q108 : x3_1 < (l0.length : Int) := odx; obtain ⟨ad108, e108, hx108_0, hx108_1⟩ := at_T38 HR0.out x3_1 p108 q108; obtain rfl : ad106 = ad108 := (by injection e108); replace p108 := eq_true p108; replace q108 := eq_true q108; have p109 : 0 ≤ (x3_1 : Int) := odx; have q109 : x3_1 < (l0.length : Int) := odx; obtain ⟨ad109, e109, hx109_0, hx109_1⟩ := at_T38 HR0.out x3_1 p109 q109; obtain rfl : ad106 = ad109 := (by injection e109); replace p109 := eq_true p109; replace q109 := eq_true q109; have p110 : 0 ≤ (x3_1 : Int) := odx; have q110 : x3_1 < (l0.length : Int) := odx; obtain ⟨ad110, e110, hx110_0, hx110_1⟩ := at_T38 HR0.out x3_1 p110 q110; obtain rfl : ad106 = ad110 := (by injection e110); replace p110 := eq_true p110; replace q110 := eq_true q110; have p111 : 0 ≤ ((ji9) : Int) := odx; have q111 : (ji9) < (l0.length : Int) := odx; obtain ⟨ad111, e111, hx111_0, hx111_1⟩ := at_T38 HR0.out (ji9) p111 q111; obtain rfl : ad106 = ad111 := (by injection e111); replace p111 := eq_true p111; replace q111 := eq_true q111))
            repeat (go_quiet (first | (go_at_call 58; (with_reducible refine (levyref17_Finite.calls ((rd_T38 l0 x3_1).f1) true _ A4.out).mono ?_); rintro e w' ⟨rfl, ⟨nd, rfl⟩⟩; (try first | exact ⟨rfl, _, World.drewN_drewN _ _ _⟩ | exact ⟨rfl, _, Eq.trans (World.drewN_drewN _ _ _) (congrArg (World.drewN _) (Nat.add_assoc _ _ _))⟩); have p108 : 0 ≤ (x3_1 : Int) := odx; have q108 : x3_1 < (l0.length : Int) := odx; obtain ⟨ad108, e108, hx108_0, hx108_1⟩ := at_T38 HR0.out x3_1 p108 q108; obtain rfl : ad106 = ad108 := (by injection e108); replace p108 := eq_true p108; replace q108 := eq_true q108; have p109 : 0 ≤ (x3_1 : Int) := odx; have q109 : x3_1 < (l0.length : Int) := odx; obtain ⟨ad109, e109, hx109_0, hx109_1⟩ := at_T38 HR0.out x3_1 p109 q109; obtain rfl : ad106 = ad109 := (by injection e109); replace p109 := eq_true p109; replace q109 := eq_true q109; have p110 : 0 ≤ (x3_1 : Int) := odx; have q110 : x3_1 < (l0.length : Int) := odx; obtain ⟨ad110, e110, hx110_0, hx110_1⟩ := at_T38 HR0.out x3_1 p110 q110; obtain rfl : ad106 = ad110 := (by injection e110); replace p110 := eq_true p110; replace q110 := eq_true q110; have p111 : 0 ≤ ((ji9) : Int) := odx; have q111 : (ji9) < (l0.length : Int) := odx; obtain ⟨ad111, e111, hx111_0, hx111_1⟩ := at_T38 HR0.out (ji9) p111 q111; obtain rfl : ad106 = ad111 := (by injection e111); replace p111 := eq_true p111; replace q111 := eq_true q111)); try go_wp2_with (first | (go_at_call 58; (with_reducible refine (levyref17_Finite.calls ((rd_T38 l0 x3_1).f1) true _ A4.out).mono ?_); rintro e w' ⟨rfl, ⟨nd, rfl⟩⟩; (try first | exact ⟨rfl, _, World.drewN_drewN _ _ _⟩ | exact ⟨rfl, _, Eq.trans (World.drewN_drewN _ _ _) (congrArg (World.drewN _) (Nat.add_assoc _ _ _))⟩); have p108 : 0 ≤ (x3_1 : Int) := odx; have q108 : x3_1 < (l0.length : Int) := odx; obtain ⟨ad108, e108, hx108_0, hx108_1⟩ := at_T38 HR0.out x3_1 p108 q108; obtain rfl : ad106 = ad108 := (by injection e108); replace p108 := eq_true p108; replace q108 := eq_true q108; have p109 : 0 ≤ (x3_1 : Int) := odx; have q109 : x3_1 < (l0.length : Int) := odx; obtain ⟨ad109, e109, hx109_0, hx109_1⟩ := at_T38 HR0.out x3_1 p109 q109; obtain rfl : ad106 = ad109 := (by injection e109); replace p109 := eq_true p109; replace q109 := eq_true q109; have p110 : 0 ≤ (x3_1 : Int) := odx; have q110 : x3_1 < (l0.length : Int) := odx; obtain ⟨ad110, e110, hx110_0, hx110_1⟩ := at_T38 HR0.out x3_1 p110 q110; obtain rfl : ad106 = ad110 := (by injection e110); replace p110 := eq_true p110; replace q110 := eq_true q110; have p111 : 0 ≤ ((ji9) : Int) := odx; have q111 : (ji9) < (l0.length : Int) := odx; obtain ⟨ad111, e111, hx111_0, hx111_1⟩ := at_T38 HR0.out (ji9) p111 q111; obtain rfl : ad106 = ad111 := (by injection e111); replace p111 := eq_true p111; replace q111 := eq_true q111)))
            go_ret
            exact ⟨by first | rfl | (simp; done) | (simp only [← hji9] <;> (first | rfl | simp)) | (simp [*]; done), by repeat (first | exact Drawn0.refl _ | apply Drawn0.step)⟩
           ·rw [if_neg c12] at H
            have c12b0 : decide (((rd_T38 l0 x3_1).f0) ≤ ((rd_T38 l0 (ji9)).f0)) = false := decide_eq_false c12
            clear c12
            have H' := Aside0.mk H
            clear H
            have p106 : 0 ≤ (x3_1 : Int) := odx
            have q106 : x3_1 < (l0.length : Int) := odx
            obtain ⟨ad106, e106, hx106_0, hx106_1⟩ := at_T38 HR0.out x3_1 p106 q106
            cases e106
            replace p106 := eq_true p106
            replace q106 := eq_true q106
            go_wp2_with (first | (go_at_call 58; (with_reducible refine (levyref17_Finite.calls ((rd_T38 l0 x3_1).f1) true _ A4.out).mono ?_); rintro e w' ⟨rfl, ⟨nd, rfl⟩⟩; (try first | exact ⟨rfl, _, World.drewN_drewN _ _ _⟩ | exact ⟨rfl, _, Eq.trans (World.drewN_drewN _ _ _) (congrArg (World.drewN _) (Nat.add_assoc _ _ _))⟩); have p108 : 0 ≤ (x3_1 : Int) := odx; have q108 : x3_1 < (l0.length : Int) := odx; obtain ⟨ad108, e108, hx108_0, hx108_1⟩ := at_T38 HR0.out x3_1 p108 q108; obtain rfl : ad106 = ad108 := (by injection e108); replace p108 := eq_true p108; replace q108 := eq_true q108; have p109 : 0 ≤ (x3_1 : Int) := odx; have q109 : x3_1 < (l0.length : Int) := odx; obtain ⟨ad109, e109, hx109_0, hx109_1⟩ := at_T38 HR0.out x3_1 p109 q109; obtain rfl : ad106 = ad109 := (by injection e109); replace p109 := eq_true p109; replace q109 := eq_true q109; have p110 : 0 ≤ (x3_1 : Int) := odx; have q110 : x3_1 < (l0.length : Int) := odx; obtain ⟨ad110, e110, hx110_0, hx110_1⟩ := at_T38 HR0.out x3_1 p110 q110; obtain rfl : ad106 = ad110 := (by injection e110); replace p110 := eq_true p110; replace q110 := eq_true q110; have p111 : 0 ≤ ((ji9) : Int) := odx; have q111 : (ji9) < (l0.length : Int) := odx; obtain ⟨ad111, e111, hx111_0, hx111_1⟩ := at_T38 HR0.out (ji9) p111 q111; obtain rfl : ad106 = ad111 := (by injection e111); replace p111 := eq_true p111; replace q111 := eq_true q111))
            repeat (go_quiet (first | (go_at_call 58; (with_reducible refine (levyref17_Finite.calls ((rd_T38 l0 x3_1).f1) true _ A4.out).mono ?_); rintro e w' ⟨rfl, ⟨nd, rfl⟩⟩; (try first | exact ⟨rfl, _, World.drewN_drewN _ _ _⟩ | exact ⟨rfl, _, Eq.trans (World.drewN_drewN _ _ _) (congrArg (World.drewN _) (Nat.add_assoc _ _ _))⟩); have p108 : 0 ≤ (x3_1 : Int) := odx; have q108 : x3_1 < (l0.length : Int) := odx; obtain ⟨ad108, e108, hx108_0, hx108_1⟩ := at_T38 HR0.out x3_1 p108 q108; obtain rfl : ad106 = ad108 := (by injection e108); replace p108 := eq_true p108; replace q108 := eq_true q108; have p109 : 0 ≤ (x3_1 : Int) := odx; have q109 : x3_1 < (l0.length : Int) := odx; obtain ⟨ad109, e109, hx109_0, hx109_1⟩ := at_T38 HR0.out x3_1 p109 q109; obtain rfl : ad106 = ad109 := (by injection e109); replace p109 := eq_true p109; replace q109 := eq_true q109; have p110 : 0 ≤ (x3_1 : Int) := odx; have q110 : x3_1 < (l0.length : Int) := odx; obtain ⟨ad110, e110, hx110_0, hx110_1⟩ := at_T38 HR0.out x3_1 p110 q110; obtain rfl : ad106 = ad110 := (by injection e110); replace p110 := eq_true p110; replace q110 := eq_true q110; have p111 : 0 ≤ ((ji9) : Int) := odx; have q111 : (ji9) < (l0.length : Int) := odx; obtain ⟨ad111, e111, hx111_0, hx111_1⟩ := at_T38 HR0.out (ji9) p111 q111; obtain rfl : ad106 = ad111 := (by injection e111); replace p111 := eq_true p111; replace q111 := eq_true q111)); try go_wp2_with (first | (go_at_call 58; (with_reducible refine (levyref17_Finite.calls ((rd_T38 l0 x3_1).f1) true _ A4.out).mono ?_); rintro e w' ⟨rfl, ⟨nd, rfl⟩⟩; (try first | exact ⟨rfl, _, World.drewN_drewN _ _ _⟩ | exact ⟨rfl, _, Eq.trans (World.drewN_drewN _ _ _) (congrArg (World.drewN _) (Nat.add_assoc _ _ _))⟩); have p108 : 0 ≤ (x3_1 : Int) := odx; have q108 : x3_1 < (l0.length : Int) := odx; obtain ⟨ad108, e108, hx108_0, hx108_1⟩ := at_T38 HR0.out x3_1 p108 q108; obtain rfl : ad106 = ad108 := (by injection e108); replace p108 := eq_true p108; replace q108 := eq_true q108; have p109 : 0 ≤ (x3_1 : Int) := odx; have q109 : x3_1 < (l0.length : Int) := odx; obtain ⟨ad109, e109, hx109_0, hx109_1⟩ := at_T38 HR0.out x3_1 p109 q109; obtain rfl : ad106 = ad109 := (by injection e109); replace p109 := eq_true p109; replace q109 := eq_true q109; have p110 : 0 ≤ (x3_1 : Int) := odx; have q110 : x3_1 < (l0.length : Int) := odx; obtain ⟨ad110, e110, hx110_0, hx110_1⟩ := at_T38 HR0.out x3_1 p110 q110; obtain rfl : ad106 = ad110 := (by injection e110); replace p110 := eq_true p110; replace q110 := eq_true q110; have p111 : 0 ≤ ((ji9) : Int) := odx; have q111 : (ji9) < (l0.length : Int) := odx; obtain ⟨ad111, e111, hx111_0, hx111_1⟩ := at_T38 HR0.out (ji9) p111 q111; obtain rfl : ad106 = ad111 := (by injection e111); replace p111 := eq_true p111; replace q111 := eq_true q111)))
            go_roundg k1
            case measure => have := HK1.out; omega
            case rel => exact ⟨(wrap64 (x3_1 + 1)), (by first | rfl | (simp; done) | (simp [*]; done)), H', ⟨by have := HK1.out; omega⟩, by repeat (first | exact Drawn0.refl _ | apply Drawn0.step)⟩
          ·rw [if_neg c11] at H
           exact absurd H (by simp)
         ·rw [if_neg c10] at H
          exact absurd H (by simp)
        ·rw [if_neg c8] at H
         have c8b0 : decide (0 < x3_1) = false := decide_eq_false c8
         clear c8
         have H' := Aside0.mk H
         clear H
         have p106 : 0 ≤ (x3_1 : Int) := odx
         have q106 : x3_1 < (l0.length : Int) := odx
         obtain ⟨ad106, e106, hx106_0, hx106_1⟩ := at_T38 HR0.out x3_1 p106 q106
         cases e106
         replace p106 := eq_true p106
         replace q106 := eq_true q106
         go_wp2_with (first | (go_at_call 58; (with_reducible refine (levyref17_Finite.calls ((rd_T38 l0 x3_1).f1) true _ A4.out).mono ?_); rintro e w' ⟨rfl, ⟨nd, rfl⟩⟩; (try first | exact ⟨rfl, _, World.drewN_drewN _ _ _⟩ | exact ⟨rfl, _, Eq.trans (World.drewN_drewN _ _ _) (congrArg (World.drewN _) (Nat.add_assoc _ _ _))⟩); have p108 : 0 ≤ (x3_1 : Int) := odx; have q108 : x3_1 < (l0.length : Int) := odx; obtain ⟨ad108, e108, hx108_0, hx108_1⟩ := at_T38 HR0.out x3_1 p108 q108; obtain rfl : ad106 = ad108 := (by injection e108); replace p108 := eq_true p108; replace q108 := eq_true q108; have p109 : 0 ≤ (x3_1 : Int) := odx; have q109 : x3_1 < (l0.length : Int) := odx; obtain ⟨ad109, e109, hx109_0, hx109_1⟩ := at_T38 HR0.out x3_1 p109 q109; obtain rfl : ad106 = ad109 := (by injection e109); replace p109 := eq_true p109; replace q109 := eq_true q109))
         repeat (go_quiet (first | (go_at_call 58; (with_reducible refine (levyref17_Finite.calls ((rd_T38 l0 x3_1).f1) true _ A4.out).mono ?_); rintro e w' ⟨rfl, ⟨nd, rfl⟩⟩; (try first | exact ⟨rfl, _, World.drewN_drewN _ _ _⟩ | exact ⟨rfl, _, Eq.trans (World.drewN_drewN _ _ _) (congrArg (World.drewN _) (Nat.add_assoc _ _ _))⟩); have p108 : 0 ≤ (x3_1 : Int) := odx; have q108 : x3_1 < (l0.length : Int) := odx; obtain ⟨ad108, e108, hx108_0, hx108_1⟩ := at_T38 HR0.out x3_1 p108 q108; obtain rfl : ad106 = ad108 := (by injection e108); replace p108 := eq_true p108; replace q108 := eq_true q108; have p109 : 0 ≤ (x3_1 : Int) := odx; have q109 : x3_1 < (l0.length : Int) := odx; obtain ⟨ad109, e109, hx109_0, hx109_1⟩ := at_T38 HR0.out x3_1 p109 q109; obtain rfl : ad106 = ad109 := (by injection e109); replace p109 := eq_true p109; replace q109 := eq_true q109)); try go_wp2_with (first | (go_at_call 58; (with_reducible refine (levyref17_Finite.calls ((rd_T38 l0 x3_1).f1) true _ A4.out).mono ?_); rintro e w' ⟨rfl, ⟨nd, rfl⟩⟩; (try first | exact ⟨rfl, _, World.drewN_drewN _ _ _⟩ | exact ⟨rfl, _, Eq.trans (World.drewN_drewN _ _ _) (congrArg (World.drewN _) (Nat.add_assoc _ _ _))⟩); have p108 : 0 ≤ (x3_1 : Int) := odx; have q108 : x3_1 < (l0.length : Int) := odx; obtain ⟨ad108, e108, hx108_0, hx108_1⟩ := at_T38 HR0.out x3_1 p108 q108; obtain rfl : ad106 = ad108 := (by injection e108); replace p108 := eq_true p108; replace q108 := eq_true q108; have p109 : 0 ≤ (x3_1 : Int) := odx; have q109 : x3_1 < (l0.length : Int) := odx; obtain ⟨ad109, e109, hx109_0, hx109_1⟩ := at_T38 HR0.out x3_1 p109 q109; obtain rfl : ad106 = ad109 := (by injection e109); replace p109 := eq_true p109; replace q109 := eq_true q109)))
         go_roundg k1
         case measure => have := HK1.out; omega
         case rel => exact ⟨(wrap64 (x3_1 + 1)), (by first | rfl | (simp; done) | (simp [*]; done)), H', ⟨by have := HK1.out; omega⟩, by repeat (first | exact Drawn0.refl _ | apply Drawn0.step)⟩
     ·replace c5 := Bool.eq_false_iff.mpr c5
      subst c5
      have H1 : (some false) = some r := by rw [if_neg (show ¬ (false = true) by decide)] at H; exact H
      clear H
      have H := H1
      clear H1
      obtain rfl := Option.some.inj H
      have p106 : 0 ≤ (x3_1 : Int) := odx
      have q106 : x3_1 < (l0.length : Int) := odx
      obtain ⟨ad106, e106, hx106_0, hx106_1⟩ := at_T38 HR0.out x3_1 p106 q106
      cases e106
      replace p106 := eq_true p106
      replace q106 := eq_true q106
      go_wp2_with (first | (go_at_call 58; (with_reducible refine (levyref17_Finite.calls ((rd_T38 l0 x3_1).f1) false _ A4.out).mono ?_); rintro e w' ⟨rfl, ⟨nd, rfl⟩⟩; (try first | exact ⟨rfl, _, World.drewN_drewN _ _ _⟩ | exact ⟨rfl, _, Eq.trans (World.drewN_drewN _ _ _) (congrArg (World.drewN _) (Nat.add_assoc _ _ _))⟩)))
      repeat (go_quiet (first | (go_at_call 58; (with_reducible refine (levyref17_Finite.calls ((rd_T38 l0 x3_1).f1) false _ A4.out).mono ?_); rintro e w' ⟨rfl, ⟨nd, rfl⟩⟩; (try first | exact ⟨rfl, _, World.drewN_drewN _ _ _⟩ | exact ⟨rfl, _, Eq.trans (World.drewN_drewN _ _ _) (congrArg (World.drewN _) (Nat.add_assoc _ _ _))⟩))); try go_wp2_with (first | (go_at_call 58; (with_reducible refine (levyref17_Finite.calls ((rd_T38 l0 x3_1).f1) false _ A4.out).mono ?_); rintro e w' ⟨rfl, ⟨nd, rfl⟩⟩; (try first | exact ⟨rfl, _, World.drewN_drewN _ _ _⟩ | exact ⟨rfl, _, Eq.trans (World.drewN_drewN _ _ _) (congrArg (World.drewN _) (Nat.add_assoc _ _ _))⟩))))
      go_ret
      exact ⟨by first | rfl | (simp; done) | (simp [*]; done), by repeat (first | exact Drawn0.refl _ | apply Drawn0.step)⟩
    ·rw [if_neg c3] at H
     exact absurd H (by simp)
   ·rw [if_neg c2] at H
    have c2b0 : decide (x3_1 < (l0.length : Int)) = false := decide_eq_false c2
    clear c2
    obtain rfl := Option.some.inj H
    go_wp2
    repeat (go_quiet (fail); try go_wp2)
    go_ret
    exact ⟨by first | rfl | (simp; done) | (simp [*]; done), by repeat (first | exact Drawn0.refl _ | apply Drawn0.step)⟩
end Go.Proofs.Ytfhgomcfpmbhnaa.PS
end

section
namespace Go.Proofs.Ytfhgomcfpmbhnaa.PS
open Go.RowKit Go.Proofs.YtfhgomcfpmbhnaaW.PrintWords Go.Proofs.YtfhgomcfpmbhnaaW.PrintLast Go.Proofs.YtfhgomcfpmbhnaaW.PrintMore
attribute [local go_sem] frun_add frun_sub frun_mul frun_quo frun_neg frun_of frun_same frun_store frun_bits frun_from
attribute [local go_sem] max2_int min2_int max_two min_two max_three min_three max_four min_four
set_option linter.unusedVariables false
set_option linter.unusedSimpArgs false
def levylaw17_bits.l0 : Nat → List (S73) → List (S38) → Int → Option ((List (S38)))
 | 0, _, _, _ => none
 | k + 1, x0, x3, x4 => if x4 < (x0.length : Int) then (if 0 ≤ x4 then (if x3.length < 8796093022208 then (levylaw17_bits.l0 k x0 (x3 ++ [(⟨(rd_T73 x0 x4).f0, (rd_T73 x0 x4).f1⟩ : S38)]) (wrap64 (x4 + 1))) else (none)) else (none)) else (some x3)
def levylaw17_bits.f (k : Nat) (l0 : List (S73)) : Option ((List (S38))) := levylaw17_bits.l0 k l0 ([] : List (S38)) 0
theorem levylaw17_bits.mono_l : ∀ k, (∀ y0 y1 y2, LeO (levylaw17_bits.l0 k y0 y1 y2) (levylaw17_bits.l0 (k + 1) y0 y1 y2))
 | 0 => fun _ _ _ r h => by simp [levylaw17_bits.l0] at h
 | k + 1 => by
  have ih0 := levylaw17_bits.mono_l k
  ·intro y0 y1 y2
   unfold levylaw17_bits.l0
   repeat' first
   | (with_reducible exact ih0 _ _ _)
   | (with_reducible exact LeO.refl _)
   | (with_reducible exact LeO.none _)
   | (with_reducible refine LeO.ite ?_ ?_)
   | (with_reducible refine LeO.bind ?_ (fun _ => ?_))
   | exact ih0 _ _ _
   | exact LeO.none _
   | refine LeO.ite ?_ ?_
   | refine LeO.bind ?_ (fun _ => ?_)
theorem levylaw17_bits.mono : ∀ a0 k, LeO (levylaw17_bits.f k a0) (levylaw17_bits.f (k + 1) a0) := by
 intro a0 k
 have ih0 := levylaw17_bits.mono_l k
 unfold levylaw17_bits.f
 repeat' first
   | (with_reducible exact ih0 _ _ _)
   | (with_reducible exact LeO.refl _)
   | (with_reducible exact LeO.none _)
   | (with_reducible refine LeO.ite ?_ ?_)
   | (with_reducible refine LeO.bind ?_ (fun _ => ?_))
   | exact ih0 _ _ _
   | exact LeO.none _
   | refine LeO.ite ?_ ?_
   | refine LeO.bind ?_ (fun _ => ?_)
def levylaw17_bits.T5 : Bool × List (List Nat × List Nat) := (true, [([], []), ([], []), ([], []), ([1, 2], [1, 2]), ([3], [3]), ([4], [4]), ([], []), ([], []), ([6, 7], [6, 7]), ([8], [8]), ([9], [9]), ([5, 10], [5, 10]), ([11], [11]), ([0, 12], [0, 12]), ([13, 13, 0, 1, 2, 3, 4, 5, 6, 7, 8, 9, 10, 11, 12, 13], [0, 13])])
def levylaw17_bits.B5 : List Nat := [0, 0, 0, 6, 14, 30, 0, 0, 192, 448, 960, 2046, 4094, 8191, 16383]
theorem levylaw17_bits.tab5 : rtab .any (opsOf Try.f38 5) = levylaw17_bits.T5 := by kernel_rfl
theorem levylaw17_bits.bits5 : waitsOk levylaw17_bits.T5.2 levylaw17_bits.B5 = true := by kernel_rfl
set_option maxHeartbeats 8000000 in
set_option maxRecDepth 100000 in
theorem levylaw17_bits.calls (k : Nat) (A0 : Option Addr) (c0 : Nat) (l0 : List (S73)) (r : List (S38)) (w : World) (hr0 : Kd.C k73 w A0 l0.length l0) (hc0 : l0.length ≤ c0) (h : levylaw17_bits.f k l0 = some r) :
  Calls Try.prog 38 #[.slice A0 l0.length c0] w fun e w' => ∃ v0_ : Value, e = .returned (v0_) ∧ Kd.R k38 38 w' w.heap.size (fun _ => True) v0_ r ∧ Below w.heap.size w w' := by
 have hu38 := Try.underlying38
 have HR0 := Aside0.mk hr0
 have HC0 := Aside0.mk hc0
 clear hr0 hc0
 have HB := Aside0.mk (Below.refl w.heap.size w)
 have H : (levylaw17_bits.l0 k l0 ([] : List (S38)) 0) = some r := h
 clear h
 have H' := Aside0.mk H
 clear H
 go_enter Try.func38, Try.ntmps38
 go_wp2
 go_loopg [3, 4] k (fun kq v3 v4 w' => ∃ (x3_1 : List (S38)) (x4_1 : Int), v4 = .int .i64 x4_1 ∧ Aside0 (levylaw17_bits.l0 kq l0 x3_1 x4_1 = some r) ∧ Aside0 (kq ≤ k) ∧ Aside0 (Kd.R k38 38 w' w.heap.size (fun _ => True) v3 x3_1) ∧ Aside0 (Below w.heap.size w w'))
 case atStart => exact ⟨(([] : List (S38))), (0), (by first | rfl | (simp; done) | (simp [*]; done)), H', ⟨Nat.le_refl _⟩, ⟨by first | exact Kd.R_nil _ _ _ _ _ | exact Kd.N_nil _ _ _ _ _ | exact Kd.V_nil _ _ _ _ _ | exact Kd.Q_nil _ _ _ _ _ | exact Kd.S_nil _ _ _ _ _⟩, ⟨blx⟩⟩
 case round =>
  clear H'
  obtain ⟨x3_1, x4_1, rfl, HA, HK1, HO_3, HB⟩ := hrel
  cases gk with
  | zero => exact absurd HA.out (by simp [levylaw17_bits.l0])
  | succ k1 =>
   have H := HA.out
   clear HA
   simp only [levylaw17_bits.l0] at H
   by_cases c2 : x4_1 < (l0.length : Int)
   ·rw [if_pos c2] at H
    have c2b0 : decide (x4_1 < (l0.length : Int)) = true := decide_eq_true c2
    clear c2
    by_cases c3 : 0 ≤ x4_1
    ·rw [if_pos c3] at H
     have c3b0 : decide (0 ≤ x4_1) = true := decide_eq_true c3
     clear c3
     by_cases c4 : x3_1.length < 8796093022208
     ·rw [if_pos c4] at H
      have LMc4 := Aside0.mk c4
      clear c4
      obtain ⟨y255, hy255⟩ : ∃ y_ : List (S38), y_ = (x3_1 ++ [(⟨(rd_T73 l0 x4_1).f0, (rd_T73 l0 x4_1).f1⟩ : S38)]) := ⟨_, rfl⟩
      replace H : (levylaw17_bits.l0 k1 l0 y255 (wrap64 (x4_1 + 1))) = some r := by first | (rw [hy255]; with_reducible exact H) | (have H2_ := (Option.bind_some _ _).symm.trans H; rw [hy255]; with_reducible exact H2_) | (have H2_ := (Option.bind_some _ _).symm.trans H; with_reducible exact H2_) | with_reducible exact H | (rw [hy255]; exact H) | exact H
      have Ny255 := Aside0.mk hy255
      clear hy255
      have H' := Aside0.mk H
      clear H
      try go_wp2
      have n0_ := Aside0.mk (Kd.R_drew HO_3.out)
      have n1_ := Aside0.mk (below_drew1 HB.out)
      clear HO_3
      clear HB
      have HO_3 := n0_
      have HB := n1_
      clear n0_ n1_
      have p253 : 0 ≤ (x4_1 : Int) := odx
      have q253 : x4_1 < (l0.length : Int) := odx
      obtain ⟨ad253, e253, hx253_0, hx253_1⟩ := at_T73 HR0.out x4_1 p253 q253
      have hw253_1 := hx253_1
      have hw253_0 := hx253_0
      cases e253
      replace hx253_0 := (HB.out.cell (World.block_lt_of_cell? w _ hx253_0)).trans hx253_0
      replace hx253_1 := (HB.out.cell (World.block_lt_of_cell? w _ hx253_1)).trans hx253_1
      replace p253 := eq_true p253
      replace q253 := eq_true q253
      have p254 : 0 ≤ (x4_1 : Int) := odx
      have q254 : x4_1 < (l0.length : Int) := odx
      obtain ⟨ad254, e254, hx254_0, hx254_1⟩ := at_T73 HR0.out x4_1 p254 q254
      have hw254_1 := hx254_1
      have hw254_0 := hx254_0
      obtain rfl : ad253 = ad254 := (by injection e254)
      replace hx254_0 := (HB.out.cell (World.block_lt_of_cell? w _ hx254_0)).trans hx254_0
      replace hx254_1 := (HB.out.cell (World.block_lt_of_cell? w _ hx254_1)).trans hx254_1
      replace p254 := eq_true p254
      replace q254 := eq_true q254
      refine start_ (n := 15) (S := fun w' => w'.cell? (ad253.add ((x4_1).toNat * 2)) = some (.int .i64 ((rd_T73 l0 x4_1).f0)) ∧ w'.cell? ⟨(ad253.add ((x4_1).toNat * 2)).block, (ad253.add ((x4_1).toNat * 2)).off + 1, none⟩ = some (.int .u32 ((rd_T73 l0 x4_1).f1)) ∧ w'.cell? (ad253.add ((x4_1).toNat * 2)) = some (.int .i64 ((rd_T73 l0 x4_1).f0)) ∧ w'.cell? ⟨(ad253.add ((x4_1).toNat * 2)).block, (ad253.add ((x4_1).toNat * 2)).off + 1, none⟩ = some (.int .u32 ((rd_T73 l0 x4_1).f1))) (ds := []) #[false, false, false, false, false, false, false, false, false, false, false, false, false, false, false] (by kernel_rfl) rfl rfl ⟨((HB.out.cell (World.block_lt_of_cell? w _ hw253_0)).trans hw253_0), ((HB.out.cell (World.block_lt_of_cell? w _ hw253_1)).trans hw253_1), ((HB.out.cell (World.block_lt_of_cell? w _ hw254_0)).trans hw254_0), ((HB.out.cell (World.block_lt_of_cell? w _ hw254_1)).trans hw254_1)⟩ (fun hHeld => ?_); refine with_tabW levylaw17_bits.tab5 levylaw17_bits.bits5 (fun HT_ HW_ => ?_)
      generalize wr.drew = w5 at HO_3 HB hx253_0 hx253_1 hx254_0 hx254_1 hHeld ⊢
      refine pure_ (i := 0) (N := some 11) (v := ?_) (a' := ?_) #[true, false, false, false, false, false, false, false, false, false, false, false, false, false, false] rfl rfl (any_of HT_.out (by kernel_rfl)) (fun _ _ _ h => h) (Or.inl ⟨by rfl, ?_⟩) ?_ ?_
      rotate_left
      ·intro w'
       go_simp
       with_reducible rfl
      rotate_left
      ·simp only [Act.put, List.setIfInBounds_toArray, List.set_cons_zero, List.set_cons_succ, i64_w, i32_w]
       rfl
      refine pure_ (i := 1) (N := some 12) (v := ?_) (a' := ?_) #[true, true, false, false, false, false, false, false, false, false, false, false, false, false, false] rfl rfl (any_of HT_.out (by kernel_rfl)) (fun _ _ _ h => h) (Or.inl ⟨by rfl, ?_⟩) ?_ ?_
      rotate_left
      ·intro w'
       go_simp
       with_reducible rfl
      rotate_left
      ·simp only [Act.put, List.setIfInBounds_toArray, List.set_cons_zero, List.set_cons_succ, i64_w, i32_w]
       rfl
      refine pure_ (i := 2) (N := some 13) (v := ?_) (a' := ?_) #[true, true, true, false, false, false, false, false, false, false, false, false, false, false, false] rfl rfl (any_of HT_.out (by kernel_rfl)) (fun _ _ _ h => h) (Or.inl ⟨by rfl, ?_⟩) ?_ ?_
      rotate_left
      ·intro w'
       go_simp
       with_reducible rfl
      rotate_left
      ·simp only [Act.put, List.setIfInBounds_toArray, List.set_cons_zero, List.set_cons_succ, i64_w, i32_w]
       rfl
      refine pure_ (i := 3) (N := some 14) (v := ?_) (a' := ?_) #[true, true, true, true, false, false, false, false, false, false, false, false, false, false, false] rfl rfl (any_of HT_.out (by kernel_rfl)) (fun _ _ _ h => h) (Or.inl ⟨by rfl, ?_⟩) ?_ ?_
      rotate_left
      ·intro w'
       go_simp
       with_reducible rfl
      rotate_left
      ·simp only [Act.put, List.setIfInBounds_toArray, List.set_cons_zero, List.set_cons_succ, i64_w, i32_w]
       rfl
      refine pure_ (i := 4) (N := some 15) (v := ?_) (a' := ?_) #[true, true, true, true, true, false, false, false, false, false, false, false, false, false, false] rfl rfl (any_of HT_.out (by kernel_rfl)) (fun _ _ _ h => h) (Or.inl ⟨by rfl, ?_⟩) ?_ ?_
      rotate_left
      ·intro w'
       go_simp
       with_reducible rfl
      rotate_left
      ·simp only [Act.put, List.setIfInBounds_toArray, List.set_cons_zero, List.set_cons_succ, i64_w, i32_w]
       rfl
      refine pure_ (i := 6) (N := some 17) (v := ?_) (a' := ?_) #[true, true, true, true, true, false, true, false, false, false, false, false, false, false, false] rfl rfl (any_of HT_.out (by kernel_rfl)) (fun _ _ _ h => h) (Or.inl ⟨by rfl, ?_⟩) ?_ ?_
      rotate_left
      ·intro w'
       go_simp
       with_reducible rfl
      rotate_left
      ·simp only [Act.put, List.setIfInBounds_toArray, List.set_cons_zero, List.set_cons_succ, i64_w, i32_w]
       rfl
      refine pure_ (i := 7) (N := some 18) (v := ?_) (a' := ?_) #[true, true, true, true, true, false, true, true, false, false, false, false, false, false, false] rfl rfl (any_of HT_.out (by kernel_rfl)) (fun _ _ _ h => h) (Or.inl ⟨by rfl, ?_⟩) ?_ ?_
      rotate_left
      ·intro w'
       go_simp
       with_reducible rfl
      rotate_left
      ·simp only [Act.put, List.setIfInBounds_toArray, List.set_cons_zero, List.set_cons_succ, i64_w, i32_w]
       rfl
      refine pure_ (i := 8) (N := some 19) (v := ?_) (a' := ?_) #[true, true, true, true, true, false, true, true, true, false, false, false, false, false, false] rfl rfl (any_of HT_.out (by kernel_rfl)) (fun _ _ _ h => h) (Or.inl ⟨by rfl, ?_⟩) ?_ ?_
      rotate_left
      ·intro w'
       go_simp
       with_reducible rfl
      rotate_left
      ·simp only [Act.put, List.setIfInBounds_toArray, List.set_cons_zero, List.set_cons_succ, i64_w, i32_w]
       rfl
      refine pure_ (i := 9) (N := some 20) (v := ?_) (a' := ?_) #[true, true, true, true, true, false, true, true, true, true, false, false, false, false, false] rfl rfl (any_of HT_.out (by kernel_rfl)) (fun _ _ _ h => h) (Or.inl ⟨by rfl, ?_⟩) ?_ ?_
      rotate_left
      ·intro w'
       go_simp
       with_reducible rfl
      rotate_left
      ·simp only [Act.put, List.setIfInBounds_toArray, List.set_cons_zero, List.set_cons_succ, i64_w, i32_w]
       rfl
      refine take_ (i := 5) (N := some 16) (v := ?_) (a' := ?_) #[true, true, true, true, true, true, true, true, true, true, false, false, false, false, false] rfl rfl (take_ofW HT_.out HW_.out (by kernel_rfl)) (fun _ _ _ h => h) (Or.inl ⟨by rfl, ?_⟩) hHeld ?_ ?_
      rotate_left
      ·rintro w' ⟨s0, s1, s2, s3⟩
       go_simp
       with_reducible rfl
      rotate_left
      ·simp only [Act.put, List.setIfInBounds_toArray, List.set_cons_zero, List.set_cons_succ, i64_w, i32_w]
       rfl
      refine take_ (i := 10) (N := some 21) (v := ?_) (a' := ?_) #[true, true, true, true, true, true, true, true, true, true, true, false, false, false, false] rfl rfl (take_ofW HT_.out HW_.out (by kernel_rfl)) (fun _ _ _ h => h) (Or.inl ⟨by rfl, ?_⟩) hHeld ?_ ?_
      rotate_left
      ·rintro w' ⟨s0, s1, s2, s3⟩
       go_simp
       with_reducible rfl
      rotate_left
      ·simp only [Act.put, List.setIfInBounds_toArray, List.set_cons_zero, List.set_cons_succ, i64_w, i32_w]
       rfl
      refine pure_ (i := 11) (N := some 22) (v := ?_) (a' := ?_) #[true, true, true, true, true, true, true, true, true, true, true, true, false, false, false] rfl rfl (any_of HT_.out (by kernel_rfl)) (fun _ _ _ h => h) (Or.inl ⟨by rfl, ?_⟩) ?_ ?_
      rotate_left
      ·intro w'
       go_simp
       with_reducible rfl
      rotate_left
      ·simp only [Act.put, List.setIfInBounds_toArray, List.set_cons_zero, List.set_cons_succ, i64_w, i32_w]
       rfl
      refine one_ (i := 12) (N := some 23) #[true, true, true, true, true, true, true, true, true, true, true, true, true, false, false] rfl rfl (one_of HT_.out (by kernel_rfl)) (by decide) (fun K hK => ?_)
      refine value_ (w1 := ?_) (v := ?_) (by rfl) rfl ?_ ?_
      rotate_left 2
      ·go_simp
       constructor
       ·rfl
       ·rfl
      refine hK.out _ _ ⟨(World.cell?_alloc_lt _ _ _ (World.block_lt_of_cell? _ _ (((HB.out.cell (World.block_lt_of_cell? w _ hw253_0)).trans hw253_0)))).trans (((HB.out.cell (World.block_lt_of_cell? w _ hw253_0)).trans hw253_0)), (World.cell?_alloc_lt _ _ _ (World.block_lt_of_cell? _ _ (((HB.out.cell (World.block_lt_of_cell? w _ hw253_1)).trans hw253_1)))).trans (((HB.out.cell (World.block_lt_of_cell? w _ hw253_1)).trans hw253_1)), (World.cell?_alloc_lt _ _ _ (World.block_lt_of_cell? _ _ (((HB.out.cell (World.block_lt_of_cell? w _ hw254_0)).trans hw254_0)))).trans (((HB.out.cell (World.block_lt_of_cell? w _ hw254_0)).trans hw254_0)), (World.cell?_alloc_lt _ _ _ (World.block_lt_of_cell? _ _ (((HB.out.cell (World.block_lt_of_cell? w _ hw254_1)).trans hw254_1)))).trans (((HB.out.cell (World.block_lt_of_cell? w _ hw254_1)).trans hw254_1))⟩ (fun hHeld => ?_)
      clear hK K
      refine norm_ (a' := ?_) ?_ ?_
      rotate_left
      ·show Act.put _ (some 23) _ = _
       simp only [Act.put, List.setIfInBounds_toArray, List.set_cons_zero, List.set_cons_succ, i64_w, i32_w]
       rfl
      refine one_ (i := 13) (N := some 24) #[true, true, true, true, true, true, true, true, true, true, true, true, true, true, false] rfl rfl (one_of HT_.out (by kernel_rfl)) (by decide) (fun K hK => ?_)
      refine Kd.R_append_step k38 (w0 := w) w.heap.size (by rfl) (.tmp 11) (.tmp 23) 27 38 (.agg #[(.int .i64 0), (.int .u32 0)]) 16 rfl Try.underlying27 info38 rfl (by decide) (by omega) u3 x3_1 (⟨(rd_T73 l0 x4_1).f0, (rd_T73 l0 x4_1).f1⟩ : S38) [.int .i64 ((rd_T73 l0 x4_1).f0), .int .u32 ((rd_T73 l0 x4_1).f1)] (fun _ => True) (fun _ => False) rfl rfl ?aP (fun _ hk => hk.elim) ?aF ?aO ?aB ?aS ?aL ?_
      (case aP => exact k38_mkM _ _ _ (⟨(rd_T73 l0 x4_1).f0, (rd_T73 l0 x4_1).f1⟩ : S38))
      (case aB => exact blx)
      (case aF => exact (fun _ _ => trivial))
      (case aO => exact (by (with_reducible repeat (first | apply Kd.R_alloc | apply Kd.R_drewN | apply Kd.R_drew)); exact HO_3.out))
      (case aS => exact (below_size blx))
      (case aL => have := LMc4.out; omega)
      intro v256 w6 ho hb hg hat
      rw [← Ny255.out] at ho
      have n0_ := Aside0.mk (hb)
      have n1_ := Aside0.mk (ho)
      clear HB
      clear HO_3
      have HB := n0_
      have HO257 := n1_
      clear n0_ n1_
      clear ho hb hg hat
      refine hK.out _ _ ⟨((HB.out.cell (World.block_lt_of_cell? w _ hw253_0)).trans hw253_0), ((HB.out.cell (World.block_lt_of_cell? w _ hw253_1)).trans hw253_1), ((HB.out.cell (World.block_lt_of_cell? w _ hw254_0)).trans hw254_0), ((HB.out.cell (World.block_lt_of_cell? w _ hw254_1)).trans hw254_1)⟩ (fun hHeld => ?_)
      clear hK K
      refine norm_ (a' := ?_) ?_ ?_
      rotate_left
      ·show Act.put _ (some 24) _ = _
       simp only [Act.put, List.setIfInBounds_toArray, List.set_cons_zero, List.set_cons_succ, i64_w, i32_w]
       rfl
      refine pure_ (i := 14) (N := some 3) (v := ?_) (a' := ?_) #[true, true, true, true, true, true, true, true, true, true, true, true, true, true, true] rfl rfl (any_of HT_.out (by kernel_rfl)) (fun _ _ _ h => h) (Or.inl ⟨by rfl, ?_⟩) ?_ ?_
      rotate_left
      ·intro w'
       go_simp
       with_reducible rfl
      rotate_left
      ·simp only [Act.put, List.setIfInBounds_toArray, List.set_cons_zero, List.set_cons_succ, i64_w, i32_w]
       rfl
      refine done_ (done_of HT_.out (by kernel_rfl)) ?_
      try go_wp2
      go_roundg k1
      case measure => have := HK1.out; omega
      case rel => exact ⟨(y255), (wrap64 (x4_1 + 1)), (by first | rfl | (simp; done) | (simp [*]; done)), H', ⟨by have := HK1.out; omega⟩, ⟨by (with_reducible repeat (first | apply Kd.R_alloc | apply Kd.R_drewN | apply Kd.R_drew)); exact HO257.out⟩, ⟨blx⟩⟩
     ·rw [if_neg c4] at H
      exact absurd H (by simp)
    ·rw [if_neg c3] at H
     exact absurd H (by simp)
   ·rw [if_neg c2] at H
    have c2b0 : decide (x4_1 < (l0.length : Int)) = false := decide_eq_false c2
    clear c2
    obtain rfl := Option.some.inj H
    go_wp2
    go_ret
    exact ⟨_, by first | rfl | (simp [errW_none, errW_some] <;> rfl) | (simp [*, errW_none, errW_some] <;> rfl), by (with_reducible repeat (first | apply Kd.R_alloc | apply Kd.R_drewN | apply Kd.R_drew)); exact HO_3.out, blx⟩
end Go.Proofs.Ytfhgomcfpmbhnaa.PS
end

section
namespace Go.Proofs.Ytfhgomcfpmbhnaa.PS
open Go.RowKit Go.Proofs.YtfhgomcfpmbhnaaW.PrintWords Go.Proofs.YtfhgomcfpmbhnaaW.PrintLast Go.Proofs.YtfhgomcfpmbhnaaW.PrintMore
attribute [local go_sem] frun_add frun_sub frun_mul frun_quo frun_neg frun_of frun_same frun_store frun_bits frun_from
attribute [local go_sem] max2_int min2_int max_two min_two max_three min_three max_four min_four
set_option linter.unusedVariables false
set_option linter.unusedSimpArgs false
def curve_whole.f (a0 : Int) : Option (Nat) := some (fl_of a0)
set_option maxHeartbeats 8000000 in
set_option maxRecDepth 100000 in
theorem curve_whole.calls (a0 : Int) (r : Nat) (w : World) (h : curve_whole.f a0 = some r) :
  Calls Try.prog 33 #[.int .i64 a0] w fun e w' => e = .returned (.float .f32 r) ∧ Drawn0 w w' := by
 have H : (some (fl_of a0)) = some r := h
 clear h
 obtain rfl := Option.some.inj H
 go_enter Try.func33, Try.ntmps33
 go_wp2
 go_ret
 exact ⟨by first | rfl | (simp; done) | (simp [*]; done), by repeat (first | exact Drawn0.refl _ | apply Drawn0.step)⟩
end Go.Proofs.Ytfhgomcfpmbhnaa.PS
end

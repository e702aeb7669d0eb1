-- Part 3 of the texts of the claim CR (wrote by programs: words of the kit's print.sh, printed functions; and my own texts; joined by wip/tools/pack.py).
import Derived.Test.YtfhgomcfpmbhnaaCR2

section
namespace Go.Proofs.Ytfhgomcfpmbhnaa.PS
open Go.RowKit Go.Proofs.YtfhgomcfpmbhnaaW.PrintWords Go.Proofs.YtfhgomcfpmbhnaaW.PrintLast Go.Proofs.YtfhgomcfpmbhnaaW.PrintMore
attribute [local go_sem] frun_add frun_sub frun_mul frun_quo frun_neg frun_of frun_same frun_store frun_bits frun_from
attribute [local go_sem] max2_int min2_int max_two min_two max_three min_three max_four min_four
set_option linter.unusedVariables false
set_option linter.unusedSimpArgs false
def levyref17_Ordered.l0 : Nat → List (S38) → Int → Option (Bool)
 | 0, _, _ => none
 | k + 1, x0, x3 => if x3 < (x0.length : Int) then (if 0 ≤ x3 then ((levyref17_Finite.f ((rd_T38 x0 x3).f1)).bind fun t107 => (if t107 = true then (if ((rd_T38 x0 x3).f0) < (-9999999999999) then (some false) else (if ((rd_T38 x0 x3).f0) > 9999999999999 then (some false) else (if x3 > 0 then (if 0 ≤ (wrap64 (x3 - 1)) then (if (wrap64 (x3 - 1)) < (x0.length : Int) then (if ((rd_T38 x0 x3).f0) ≤ ((rd_T38 x0 (wrap64 (x3 - 1))).f0) then (some false) else (levyref17_Ordered.l0 k x0 (wrap64 (x3 + 1)))) else (none)) else (none)) else (levyref17_Ordered.l0 k x0 (wrap64 (x3 + 1)))))) else (some false))) else (none)) else (some true)
def levyref17_Ordered.f (k : Nat) (l0 : List (S38)) : Option (Bool) := levyref17_Ordered.l0 k l0 0
theorem levyref17_Ordered.mono_l : ∀ k, (∀ y0 y1, LeO (levyref17_Ordered.l0 k y0 y1) (levyref17_Ordered.l0 (k + 1) y0 y1))
 | 0 => fun _ _ r h => by simp [levyref17_Ordered.l0] at h
 | k + 1 => by
  have ih0 := levyref17_Ordered.mono_l k
  ·intro y0 y1
   unfold levyref17_Ordered.l0
   repeat' first
   | (with_reducible exact ih0 _ _)
   | (with_reducible exact LeO.refl _)
   | (with_reducible exact LeO.none _)
   | (with_reducible refine LeO.ite ?_ ?_)
   | (with_reducible refine LeO.bind ?_ (fun _ => ?_))
   | exact ih0 _ _
   | exact LeO.none _
   | refine LeO.ite ?_ ?_
   | refine LeO.bind ?_ (fun _ => ?_)
theorem levyref17_Ordered.mono : ∀ a0 k, LeO (levyref17_Ordered.f k a0) (levyref17_Ordered.f (k + 1) a0) := by
 intro a0 k
 have ih0 := levyref17_Ordered.mono_l k
 unfold levyref17_Ordered.f
 repeat' first
   | (with_reducible exact ih0 _ _)
   | (with_reducible exact LeO.refl _)
   | (with_reducible exact LeO.none _)
   | (with_reducible refine LeO.ite ?_ ?_)
   | (with_reducible refine LeO.bind ?_ (fun _ => ?_))
   | exact ih0 _ _
   | exact LeO.none _
   | refine LeO.ite ?_ ?_
   | refine LeO.bind ?_ (fun _ => ?_)
set_option maxHeartbeats 8000000 in
set_option maxRecDepth 100000 in
theorem levyref17_Ordered.calls (k : Nat) (A0 : Option Addr) (c0 : Nat) (l0 : List (S38)) (r : Bool) (w : World) (hr0 : Kd.C k38 w A0 l0.length l0) (hc0 : l0.length ≤ c0) (h : levyref17_Ordered.f k l0 = some r) :
  Calls Try.prog 55 #[.slice A0 l0.length c0] w fun e w' => e = .returned (.bool r) ∧ Drawn0 w w' := by
 have HR0 := Aside0.mk hr0
 have HC0 := Aside0.mk hc0
 clear hr0 hc0
 have H : (levyref17_Ordered.l0 k l0 0) = some r := h
 clear h
 have H' := Aside0.mk H
 clear H
 go_enter Try.func55, Try.ntmps55
 go_wp2
 repeat (go_quiet (fail); try go_wp2)
 go_loopg [3] k (fun kq v3 w' => ∃ (x3_1 : Int), v3 = .int .i64 x3_1 ∧ Aside0 (levyref17_Ordered.l0 kq l0 x3_1 = some r) ∧ Aside0 (kq ≤ k) ∧ Drawn0 w w')
 case atStart => exact ⟨(0), (by first | rfl | (simp; done) | (simp [*]; done)), H', ⟨Nat.le_refl _⟩, by repeat (first | exact Drawn0.refl _ | apply Drawn0.step)⟩
 case round =>
  clear H'
  obtain ⟨x3_1, rfl, HA, HK1, ⟨m1, rfl⟩⟩ := hrel
  cases gk with
  | zero => exact absurd HA.out (by simp [levyref17_Ordered.l0])
  | succ k1 =>
   have H := HA.out
   clear HA
   simp only [levyref17_Ordered.l0] at H
   by_cases c2 : x3_1 < (l0.length : Int)
   ·rw [if_pos c2] at H
    have c2b0 : decide (x3_1 < (l0.length : Int)) = true := decide_eq_true c2
    clear c2
    by_cases c3 : 0 ≤ x3_1
    ·rw [if_pos c3] at H
     have c3b0 : decide (0 ≤ x3_1) = true := decide_eq_true c3
     clear c3
     replace H := Option.bind_eq_some_iff.mp H
     obtain ⟨t107, A40, H⟩ := H
     replace H : (if t107 = true then (if ((rd_T38 l0 x3_1).f0) < (-9999999999999) then (some false) else (if ((rd_T38 l0 x3_1).f0) > 9999999999999 then (some false) else (if x3_1 > 0 then (if 0 ≤ (wrap64 (x3_1 - 1)) then (if (wrap64 (x3_1 - 1)) < (l0.length : Int) then (if ((rd_T38 l0 x3_1).f0) ≤ ((rd_T38 l0 (wrap64 (x3_1 - 1))).f0) then (some false) else (levyref17_Ordered.l0 k1 l0 (wrap64 (x3_1 + 1)))) else (none)) else (none)) else (levyref17_Ordered.l0 k1 l0 (wrap64 (x3_1 + 1)))))) else (some false)) = some r := H
     have A4 := Aside0.mk A40
     clear A40
     by_cases c5 : t107 = true
     ·subst c5
      have H1 : (if ((rd_T38 l0 x3_1).f0) < (-9999999999999) then (some false) else (if ((rd_T38 l0 x3_1).f0) > 9999999999999 then (some false) else (if x3_1 > 0 then (if 0 ≤ (wrap64 (x3_1 - 1)) then (if (wrap64 (x3_1 - 1)) < (l0.length : Int) then (if ((rd_T38 l0 x3_1).f0) ≤ ((rd_T38 l0 (wrap64 (x3_1 - 1))).f0) then (some false) else (levyref17_Ordered.l0 k1 l0 (wrap64 (x3_1 + 1)))) else (none)) else (none)) else (levyref17_Ordered.l0 k1 l0 (wrap64 (x3_1 + 1)))))) = some r := by rw [if_pos rfl] at H; exact H
      clear H
      have H := H1
      clear H1
      by_cases c6 : ((rd_T38 l0 x3_1).f0) < (-9999999999999)
      ·rw [if_pos c6] at H
       have c6b0 : decide (((rd_T38 l0 x3_1).f0) < (-9999999999999)) = true := decide_eq_true c6
       clear c6
       obtain rfl := Option.some.inj H
       have p106 : 0 ≤ (x3_1 : Int) := odx
       have q106 : x3_1 < (l0.length : Int) := odx
       obtain ⟨ad106, e106, hx106_0, hx106_1⟩ := at_T38 HR0.out x3_1 p106 q106
       cases e106
       replace p106 := eq_true p106
       replace q106 := eq_true q106
       go_wp2_with (first | (go_at_call 58; (with_reducible refine (levyref17_Finite.calls ((rd_T38 l0 x3_1).f1) true _ A4.out).mono ?_); rintro e w' ⟨rfl, ⟨nd, rfl⟩⟩; (try first | exact ⟨rfl, _, World.drewN_drewN _ _ _⟩ | exact ⟨rfl, _, Eq.trans (World.drewN_drewN _ _ _) (congrArg (World.drewN _) (Nat.add_assoc _ _ _))⟩); have p108 : 0 ≤ (x3_1 : Int) := odx; have q108 : x3_1 < (l0.length : Int) := odx; obtain ⟨ad108, e108, hx108_0, hx108_1⟩ := at_T38 HR0.out x3_1 p108 q108; obtain rfl : ad106 = ad108 := (by injection e108); replace p108 := eq_true p108; replace q108 := eq_true q108))
       repeat (go_quiet (first | (go_at_call 58; (with_reducible refine (levyref17_Finite.calls ((rd_T38 l0 x3_1).f1) true _ A4.out).mono ?_); rintro e w' ⟨rfl, ⟨nd, rfl⟩⟩; (try first | exact ⟨rfl, _, World.drewN_drewN _ _ _⟩ | exact ⟨rfl, _, Eq.trans (World.drewN_drewN _ _ _) (congrArg (World.drewN _) (Nat.add_assoc _ _ _))⟩); have p108 : 0 ≤ (x3_1 : Int) := odx; have q108 : x3_1 < (l0.length : Int) := odx; obtain ⟨ad108, e108, hx108_0, hx108_1⟩ := at_T38 HR0.out x3_1 p108 q108; obtain rfl : ad106 = ad108 := (by injection e108); replace p108 := eq_true p108; replace q108 := eq_true q108)); try go_wp2_with (first | (go_at_call 58; (with_reducible refine (levyref17_Finite.calls ((rd_T38 l0 x3_1).f1) true _ A4.out).mono ?_); rintro e w' ⟨rfl, ⟨nd, rfl⟩⟩; (try first | exact ⟨rfl, _, World.drewN_drewN _ _ _⟩ | exact ⟨rfl, _, Eq.trans (World.drewN_drewN _ _ _) (congrArg (World.drewN _) (Nat.add_assoc _ _ _))⟩); have p108 : 0 ≤ (x3_1 : Int) := odx; have q108 : x3_1 < (l0.length : Int) := odx; obtain ⟨ad108, e108, hx108_0, hx108_1⟩ := at_T38 HR0.out x3_1 p108 q108; obtain rfl : ad106 = ad108 := (by injection e108); replace p108 := eq_true p108; replace q108 := eq_true q108)))
       go_ret
       exact ⟨by first | rfl | (simp; done) | (simp [*]; done), by repeat (first | exact Drawn0.refl _ | apply Drawn0.step)⟩
      ·rw [if_neg c6] at H
       have c6b0 : decide (((rd_T38 l0 x3_1).f0) < (-9999999999999)) = false := decide_eq_false c6
       clear c6
       by_cases c7 : ((rd_T38 l0 x3_1).f0) > 9999999999999
       ·rw [if_pos c7] at H
        have c7b0 : decide (9999999999999 < ((rd_T38 l0 x3_1).f0)) = true := decide_eq_true c7
        clear c7
        obtain rfl := Option.some.inj H
        have p106 : 0 ≤ (x3_1 : Int) := odx
        have q106 : x3_1 < (l0.length : Int) := odx
        obtain ⟨ad106, e106, hx106_0, hx106_1⟩ := at_T38 HR0.out x3_1 p106 q106
        cases e106
        replace p106 := eq_true p106
        replace q106 := eq_true q106
        go_wp2_with (first | (go_at_call 58; (with_reducible refine (levyref17_Finite.calls ((rd_T38 l0 x3_1).f1) true _ A4.out).mono ?_); rintro e w' ⟨rfl, ⟨nd, rfl⟩⟩; (try first | exact ⟨rfl, _, World.drewN_drewN _ _ _⟩ | exact ⟨rfl, _, Eq.trans (World.drewN_drewN _ _ _) (congrArg (World.drewN _) (Nat.add_assoc _ _ _))⟩); have p108 : 0 ≤ (x3_1 : Int) := odx; have q108 : x3_1 < (l0.length : Int) := odx; obtain ⟨ad108, e108, hx108_0, hx108_1⟩ := at_T38 HR0.out x3_1 p108 q108; obtain rfl : ad106 = ad108 := (by injection e108); replace p108 := eq_true p108; replace q108 := eq_true q108; have p109 : 0 ≤ (x3_1 : Int) := odx; have q109 : x3_1 < (l0.length : Int) := odx; obtain ⟨ad109, e109, hx109_0, hx109_1⟩ := at_T38 HR0.out x3_1 p109 q109; obtain rfl : ad106 = ad109 := (by injection e109); replace p109 := eq_true p109; replace q109 := eq_true q109))
        repeat (go_quiet (first | (go_at_call 58; (with_reducible refine (levyref17_Finite.calls ((rd_T38 l0 x3_1).f1) true _ A4.out).mono ?_); rintro e w' ⟨rfl, ⟨nd, rfl⟩⟩; (try first | exact ⟨rfl, _, World.drewN_drewN _ _ _⟩ | exact ⟨rfl, _, Eq.trans (World.drewN_drewN _ _ _) (congrArg (World.drewN _) (Nat.add_assoc _ _ _))⟩); have p108 : 0 ≤ (x3_1 : Int) := odx; have q108 : x3_1 < (l0.length : Int) := odx; obtain ⟨ad108, e108, hx108_0, hx108_1⟩ := at_T38 HR0.out x3_1 p108 q108; obtain rfl : ad106 = ad108 := (by injection e108); replace p108 := eq_true p108; replace q108 := eq_true q108; have p109 : 0 ≤ (x3_1 : Int) := odx; have q109 : x3_1 < (l0.length : Int) := odx; obtain ⟨ad109, e109, hx109_0, hx109_1⟩ := at_T38 HR0.out x3_1 p109 q109; obtain rfl : ad106 = ad109 := (by injection e109); replace p109 := eq_true p109; replace q109 := eq_true q109)); try go_wp2_with (first | (go_at_call 58; (with_reducible refine (levyref17_Finite.calls ((rd_T38 l0 x3_1).f1) true _ A4.out).mono ?_); rintro e w' ⟨rfl, ⟨nd, rfl⟩⟩; (try first | exact ⟨rfl, _, World.drewN_drewN _ _ _⟩ | exact ⟨rfl, _, Eq.trans (World.drewN_drewN _ _ _) (congrArg (World.drewN _) (Nat.add_assoc _ _ _))⟩); have p108 : 0 ≤ (x3_1 : Int) := odx; have q108 : x3_1 < (l0.length : Int) := odx; obtain ⟨ad108, e108, hx108_0, hx108_1⟩ := at_T38 HR0.out x3_1 p108 q108; obtain rfl : ad106 = ad108 := (by injection e108); replace p108 := eq_true p108; replace q108 := eq_true q108; have p109 : 0 ≤ (x3_1 : Int) := odx; have q109 : x3_1 < (l0.length : Int) := odx; obtain ⟨ad109, e109, hx109_0, hx109_1⟩ := at_T38 HR0.out x3_1 p109 q109; obtain rfl : ad106 = ad109 := (by injection e109); replace p109 := eq_true p109; replace q109 := eq_true q109)))
        go_ret
        exact ⟨by first | rfl | (simp; done) | (simp [*]; done), by repeat (first | exact Drawn0.refl _ | apply Drawn0.step)⟩
       ·rw [if_neg c7] at H
        have c7b0 : decide (9999999999999 < ((rd_T38 l0 x3_1).f0)) = false := decide_eq_false c7
        clear c7
        by_cases c8 : x3_1 > 0
        ·rw [if_pos c8] at H
         have c8b0 : decide (0 < x3_1) = true := decide_eq_true c8
         clear c8
         obtain ⟨ji9, hji9⟩ : ∃ j_ : Int, (wrap64 (x3_1 - 1)) = j_ := ⟨_, rfl⟩
         replace H : (if 0 ≤ (ji9) then (if (ji9) < (l0.length : Int) then (if ((rd_T38 l0 x3_1).f0) ≤ ((rd_T38 l0 (ji9)).f0) then (some false) else (levyref17_Ordered.l0 k1 l0 (wrap64 (x3_1 + 1)))) else (none)) else (none)) = some r := by first | (rw [hji9] at H; exact H) | (simp only [hji9] at H ⊢; exact H)
         (try rw [hji9] at A4)
         have hji9w : (IntKind.i64.wrap (x3_1 - 1)) = ji9 := (i64_w _).trans hji9
         by_cases c10 : 0 ≤ (ji9)
         ·rw [if_pos c10] at H
          have c10b0 : decide (0 ≤ (ji9)) = true := decide_eq_true c10
          clear c10
          by_cases c11 : (ji9) < (l0.length : Int)
          ·rw [if_pos c11] at H
           have c11b0 : decide ((ji9) < (l0.length : Int)) = true := decide_eq_true c11
           clear c11
           by_cases c12 : ((rd_T38 l0 x3_1).f0) ≤ ((rd_T38 l0 (ji9)).f0)
           ·rw [if_pos c12] at H
            have c12b0 : decide (((rd_T38 l0 x3_1).f0) ≤ ((rd_T38 l0 (ji9)).f0)) = true := decide_eq_true c12
            clear c12
            obtain rfl := Option.some.inj H
            have p106 : 0 ≤ (x3_1 : Int) := odx
            have q106 : x3_1 < (l0.length : Int) := odx
            obtain ⟨ad106, e106, hx106_0, hx106_1⟩ := at_T38 HR0.out x3_1 p106 q106
            cases e106
            replace p106 := eq_true p106
            replace q106 := eq_true q106
            go_wp2_with (first | (go_at_call 58; (with_reducible refine (levyref17_Finite.calls ((rd_T38 l0 x3_1).f1) true _ A4.out).mono ?_); rintro e w' ⟨rfl, ⟨nd, rfl⟩⟩; (try first | exact ⟨rfl, _, World.drewN_drewN _ _ _⟩ | exact ⟨rfl, _, Eq.trans (World.drewN_drewN _ _ _) (congrArg (World.drewN _) (Nat.add_assoc _ _ _))⟩); have p108 : 0 ≤ (x3_1 : Int) := odx; have q108 : x3_1 < (l0.length : Int) := odx; obtain ⟨ad108, e108, hx108_0, hx108_1⟩ := at_T38 HR0.out x3_1 p108 q108; obtain rfl : ad106 = ad108 := (by injection e108); replace p108 := eq_true p108; replace q108 := eq_true q108; have p109 : 0 ≤ (x3_1 : Int) := odx; have q109 : x3_1 < (l0.length : Int) := odx; obtain ⟨ad109, e109, hx109_0, hx109_1⟩ := at_T38 HR0.out x3_1 p109 q109; obtain rfl : ad106 = ad109 := (by injection e109); replace p109 := eq_true p109; replace q109 := eq_true q109; have p110 : 0 ≤ (x3_1 : Int) := odx; have q110 : x3_1 < (l0.length : Int) := odx; obtain ⟨ad110, e110, hx110_0, hx110_1⟩ := at_T38 HR0.out x3_1 p110 q110; obtain rfl : ad106 = ad110 := (by injection e110); replace p110 := eq_true p110; replace q110 := eq_true q110; have p111 : 0 ≤ ((ji9) : Int) := odx; have q111 : (ji9) < (l0.length : Int) := odx; obtain ⟨ad111, e111, hx111_0, hx111_1⟩ := at_T38 HR0.out (ji9) p111 q111; obtain rfl : ad106 = ad111 := (by injection e111); replace p111 := eq_true p111; replace q111 := eq_true q111))
            repeat (go_quiet (first | (go_at_call 58; (with_reducible refine (levyref17_Finite.calls ((rd_T38 l0 x3_1).f1) true _ A4.out).mono ?_); rintro e w' ⟨rfl, ⟨nd, rfl⟩⟩; (try first | exact ⟨rfl, _, World.drewN_drewN _ _ _⟩ | exact ⟨rfl, _, Eq.trans (World.drewN_drewN _ _ _) (congrArg (World.drewN _) (Nat.add_assoc _ _ _))⟩); have p108 : 0 ≤ (x3_1 : Int) := odx; have q108 : x3_1 < (l0.length : Int) := odx; obtain ⟨ad108, e108, hx108_0, hx108_1⟩ := at_T38 HR0.out x3_1 p108 q108; obtain rfl : ad106 = ad108 := (by injection e108); replace p108 := eq_true p108; replace q108 := eq_true q108; have p109 : 0 ≤ (x3_1 : Int) := odx; have q109 : x3_1 < (l0.length : Int) := odx; obtain ⟨ad109, e109, hx109_0, hx109_1⟩ := at_T38 HR0.out x3_1 p109 q109; obtain rfl : ad106 = ad109 := (by injection e109); replace p109 := eq_true p109; replace q109 := eq_true q109; have p110 : 0 ≤ (x3_1 : Int) := odx; have q110 : x3_1 < (l0.length : Int) := odx; obtain ⟨ad110, e110, hx110_0, hx110_1⟩ := at_T38 HR0.out x3_1 p110 q110; obtain rfl : ad106 = ad110 := (by injection e110); replace p110 := eq_true p110; replace q110 := eq_true q110; have p111 : 0 ≤ ((ji9) : Int) := odx; have q111 : (ji9) < (l0.length : Int) := odx; obtain ⟨ad111, e111, hx111_0, hx111_1⟩ := at_T38 HR0.out (ji9) p111 q111; obtain rfl : ad106 = ad111 := (by injection e111); replace p111 := eq_true p111; replace q111 := eq_true q111)); try go_wp2_with (first | (go_at_call 58; (with_reducible refine (levyref17_Finite.calls ((rd_T38 l0 x3_1).f1) true _ A4.out).mono ?_); rintro e w' ⟨rfl, ⟨nd, rfl⟩⟩; (try first | exact ⟨rfl, _, World.drewN_drewN _ _ _⟩ | exact ⟨rfl, _, Eq.trans (World.drewN_drewN _ _ _) (congrArg (World.drewN _) (Nat.add_assoc _ _ _))⟩); have p108 : 0 ≤ (x3_1 : Int) := odx; have q108 : x3_1 < (l0.length : Int) := odx; obtain ⟨ad108, e108, hx108_0, hx108_1⟩ := at_T38 HR0.out x3_1 p108 q108; obtain rfl : ad106 = ad108 := (by injection e108); replace p108 := eq_true p108; replace q108 := eq_true q108; have p109 : 0 ≤ (x3_1 : Int) := odx; have q109 : x3_1 < (l0.length : Int) := odx; obtain ⟨ad109, e109, hx109_0, hx109_1⟩ := at_T38 HR0.out x3_1 p109 q109; obtain rfl : ad106 = ad109 := (by injection e109); replace p109 := eq_true p109; replace q109 := eq_true q109; have p110 : 0 ≤ (x3_1 : Int) := odx; have q110 : x3_1 < (l0.length : Int) := odx; obtain ⟨ad110, e110, hx110_0, hx110_1⟩ := at_T38 HR0.out x3_1 p110 q110; obtain rfl : ad106 = ad110 := (by injection e110); replace p110 := eq_true p110; replace q110 := eq_true q110; have p111 : 0 ≤ ((ji9) : Int) := odx; have q111 : (ji9) < (l0.length : Int) := odx; obtain ⟨ad111, e111, hx111_0, hx111_1⟩ := at_T38 HR0.out (ji9) p111 q111; obtain rfl : ad106 = ad111 := (by injection e111); replace p111 := eq_true p111; replace q111 := eq_true q111)))
            go_ret
            exact ⟨by first | rfl | (simp; done) | (simp only [← hji9] <;> (first | rfl | simp)) | (simp [*]; done), by repeat (first | exact Drawn0.refl _ | apply Drawn0.step)⟩
           ·rw [if_neg c12] at H
            have c12b0 : decide (((rd_T38 l0 x3_1).f0) ≤ ((rd_T38 l0 (ji9)).f0)) = false := decide_eq_false c12
            clear c12
            have H' := Aside0.mk H
            clear H
            have p106 : 0 ≤ (x3_1 : Int) := odx
            have q106 : x3_1 < (l0.length : Int) := odx
            obtain ⟨ad106, e106, hx106_0, hx106_1⟩ := at_T38 HR0.out x3_1 p106 q106
            cases e106
            replace p106 := eq_true p106
            replace q106 := eq_true q106
            go_wp2_with (first | (go_at_call 58; (with_reducible refine (levyref17_Finite.calls ((rd_T38 l0 x3_1).f1) true _ A4.out).mono ?_); rintro e w' ⟨rfl, ⟨nd, rfl⟩⟩; (try first | exact ⟨rfl, _, World.drewN_drewN _ _ _⟩ | exact ⟨rfl, _, Eq.trans (World.drewN_drewN _ _ _) (congrArg (World.drewN _) (Nat.add_assoc _ _ _))⟩); have p108 : 0 ≤ (x3_1 : Int) := odx; have q108 : x3_1 < (l0.length : Int) := odx; obtain ⟨ad108, e108, hx108_0, hx108_1⟩ := at_T38 HR0.out x3_1 p108 q108; obtain rfl : ad106 = ad108 := (by injection e108); replace p108 := eq_true p108; replace q108 := eq_true q108; have p109 : 0 ≤ (x3_1 : Int) := odx; have q109 : x3_1 < (l0.length : Int) := odx; obtain ⟨ad109, e109, hx109_0, hx109_1⟩ := at_T38 HR0.out x3_1 p109 q109; obtain rfl : ad106 = ad109 := (by injection e109); replace p109 := eq_true p109; replace q109 := eq_true q109; have p110 : 0 ≤ (x3_1 : Int) := odx; have q110 : x3_1 < (l0.length : Int) := odx; obtain ⟨ad110, e110, hx110_0, hx110_1⟩ := at_T38 HR0.out x3_1 p110 q110; obtain rfl : ad106 = ad110 := (by injection e110); replace p110 := eq_true p110; replace q110 := eq_true q110; have p111 : 0 ≤ ((ji9) : Int) := odx; have q111 : (ji9) < (l0.length : Int) := odx; obtain ⟨ad111, e111, hx111_0, hx111_1⟩ := at_T38 HR0.out (ji9) p111 q111; obtain rfl : ad106 = ad111 := (by injection e111); replace p111 := eq_true p111; replace q111 := eq_true q111))
            repeat (go_quiet (first | (go_at_call 58; (with_reducible refine (levyref17_Finite.calls ((rd_T38 l0 x3_1).f1) true _ A4.out).mono ?_); rintro e w' ⟨rfl, ⟨nd, rfl⟩⟩; (try first | exact ⟨rfl, _, World.drewN_drewN _ _ _⟩ | exact ⟨rfl, _, Eq.trans (World.drewN_drewN _ _ _) (congrArg (World.drewN _) (Nat.add_assoc _ _ _))⟩); have p108 : 0 ≤ (x3_1 : Int) := odx; have q108 : x3_1 < (l0.length : Int) := odx; obtain ⟨ad108, e108, hx108_0, hx108_1⟩ := at_T38 HR0.out x3_1 p108 q108; obtain rfl : ad106 = ad108 := (by injection e108); replace p108 := eq_true p108; replace q108 := eq_true q108; have p109 : 0 ≤ (x3_1 : Int) := odx; have q109 : x3_1 < (l0.length : Int) := odx; obtain ⟨ad109, e109, hx109_0, hx109_1⟩ := at_T38 HR0.out x3_1 p109 q109; obtain rfl : ad106 = ad109 := (by injection e109); replace p109 := eq_true p109; replace q109 := eq_true q109; have p110 : 0 ≤ (x3_1 : Int) := odx; have q110 : x3_1 < (l0.length : Int) := odx; obtain ⟨ad110, e110, hx110_0, hx110_1⟩ := at_T38 HR0.out x3_1 p110 q110; obtain rfl : ad106 = ad110 := (by injection e110); replace p110 := eq_true p110; replace q110 := eq_true q110; have p111 : 0 ≤ ((ji9) : Int) := odx; have q111 : (ji9) < (l0.length : Int) := odx; obtain ⟨ad111, e111, hx111_0, hx111_1⟩ := at_T38 HR0.out (ji9) p111 q111; obtain rfl : ad106 = ad111 := (by injection e111); replace p111 := eq_true p111; replace q111 := eq_true q111)); try go_wp2_with (first | (go_at_call 58; (with_reducible refine (levyref17_Finite.calls ((rd_T38 l0 x3_1).f1) true _ A4.out).mono ?_); rintro e w' ⟨rfl, ⟨nd, rfl⟩⟩; (try first | exact ⟨rfl, _, World.drewN_drewN _ _ _⟩ | exact ⟨rfl, _, Eq.trans (World.drewN_drewN _ _ _) (congrArg (World.drewN _) (Nat.add_assoc _ _ _))⟩); have p108 : 0 ≤ (x3_1 : Int) := odx; have q108 : x3_1 < (l0.length : Int) := odx; obtain ⟨ad108, e108, hx108_0, hx108_1⟩ := at_T38 HR0.out x3_1 p108 q108; obtain rfl : ad106 = ad108 := (by injection e108); replace p108 := eq_true p108; replace q108 := eq_true q108; have p109 : 0 ≤ (x3_1 : Int) := odx; have q109 : x3_1 < (l0.length : Int) := odx; obtain ⟨ad109, e109, hx109_0, hx109_1⟩ := at_T38 HR0.out x3_1 p109 q109; obtain rfl : ad106 = ad109 := (by injection e109); replace p109 := eq_true p109; replace q109 := eq_true q109; have p110 : 0 ≤ (x3_1 : Int) := odx; have q110 : x3_1 < (l0.length : Int) := odx; obtain ⟨ad110, e110, hx110_0, hx110_1⟩ := at_T38 HR0.out x3_1 p110 q110; obtain rfl : ad106 = ad110 := (by injection e110); replace p110 := eq_true p110; replace q110 := eq_true q110; have p111 : 0 ≤ ((ji9) : Int) := odx; have q111 : (ji9) < (l0.length : Int) := odx; obtain ⟨ad111, e111, hx111_0, hx111_1⟩ := at_T38 HR0.out (ji9) p111 q111; obtain rfl : ad106 = ad111 := (by injection e111); replace p111 := eq_true p111; replace q111 := eq_true q111)))
            go_roundg k1
            case measure => have := HK1.out; omega
            case rel => exact ⟨(wrap64 (x3_1 + 1)), (by first | rfl | (simp; done) | (simp [*]; done)), H', ⟨by have := HK1.out; omega⟩, by repeat (first | exact Drawn0.refl _ | apply Drawn0.step)⟩
          ·rw [if_neg c11] at H
           exact absurd H (by simp)
         ·rw [if_neg c10] at H
          exact absurd H (by simp)
        ·rw [if_neg c8] at H
         have c8b0 : decide (0 < x3_1) = false := decide_eq_false c8
         clear c8
         have H' := Aside0.mk H
         clear H
         have p106 : 0 ≤ (x3_1 : Int) := odx
         have q106 : x3_1 < (l0.length : Int) := odx
         obtain ⟨ad106, e106, hx106_0, hx106_1⟩ := at_T38 HR0.out x3_1 p106 q106
         cases e106
         replace p106 := eq_true p106
         replace q106 := eq_true q106
         go_wp2_with (first | (go_at_call 58; (with_reducible refine (levyref17_Finite.calls ((rd_T38 l0 x3_1).f1) true _ A4.out).mono ?_); rintro e w' ⟨rfl, ⟨nd, rfl⟩⟩; (try first | exact ⟨rfl, _, World.drewN_drewN _ _ _⟩ | exact ⟨rfl, _, Eq.trans (World.drewN_drewN _ _ _) (congrArg (World.drewN _) (Nat.add_assoc _ _ _))⟩); have p108 : 0 ≤ (x3_1 : Int) := odx; have q108 : x3_1 < (l0.length : Int) := odx; obtain ⟨ad108, e108, hx108_0, hx108_1⟩ := at_T38 HR0.out x3_1 p108 q108; obtain rfl : ad106 = ad108 := (by injection e108); replace p108 := eq_true p108; replace q108 := eq_true q108; have p109 : 0 ≤ (x3_1 : Int) := odx; have q109 : x3_1 < (l0.length : Int) := odx; obtain ⟨ad109, e109, hx109_0, hx109_1⟩ := at_T38 HR0.out x3_1 p109 q109; obtain rfl : ad106 = ad109 := (by injection e109); replace p109 := eq_true p109; replace q109 := eq_true q109))
         repeat (go_quiet (first | (go_at_call 58; (with_reducible refine (levyref17_Finite.calls ((rd_T38 l0 x3_1).f1) true _ A4.out).mono ?_); rintro e w' ⟨rfl, ⟨nd, rfl⟩⟩; (try first | exact ⟨rfl, _, World.drewN_drewN _ _ _⟩ | exact ⟨rfl, _, Eq.trans (World.drewN_drewN _ _ _) (congrArg (World.drewN _) (Nat.add_assoc _ _ _))⟩); have p108 : 0 ≤ (x3_1 : Int) := odx; have q108 : x3_1 < (l0.length : Int) := odx; obtain ⟨ad108, e108, hx108_0, hx108_1⟩ := at_T38 HR0.out x3_1 p108 q108; obtain rfl : ad106 = ad108 := (by injection e108); replace p108 := eq_true p108; replace q108 := eq_true q108; have p109 : 0 ≤ (x3_1 : Int) := odx; have q109 : x3_1 < (l0.length : Int) := odx; obtain ⟨ad109, e109, hx109_0, hx109_1⟩ := at_T38 HR0.out x3_1 p109 q109; obtain rfl : ad106 = ad109 := (by injection e109); replace p109 := eq_true p109; replace q109 := eq_true q109)); try go_wp2_with (first | (go_at_call 58; (with_reducible refine (levyref17_Finite.calls ((rd_T38 l0 x3_1).f1) true _ A4.out).mono ?_); rintro e w' ⟨rfl, ⟨nd, rfl⟩⟩; (try first | exact ⟨rfl, _, World.drewN_drewN _ _ _⟩ | exact ⟨rfl, _, Eq.trans (World.drewN_drewN _ _ _) (congrArg (World.drewN _) (Nat.add_assoc _ _ _))⟩); have p108 : 0 ≤ (x3_1 : Int) := odx; have q108 : x3_1 < (l0.length : Int) := odx; obtain ⟨ad108, e108, hx108_0, hx108_1⟩ := at_T38 HR0.out x3_1 p108 q108; obtain rfl : ad106 = ad108 := (by injection e108); replace p108 := eq_true p108; replace q108 := eq_true q108; have p109 : 0 ≤ (x3_1 : Int) := odx; have q109 : x3_1 < (l0.length : Int) := odx; obtain ⟨ad109, e109, hx109_0, hx109_1⟩ := at_T38 HR0.out x3_1 p109 q109; obtain rfl : ad106 = ad109 := (by injection e109); replace p109 := eq_true p109; replace q109 := eq_true q109)))
         go_roundg k1
         case measure => have := HK1.out; omega
         case rel => exact ⟨(wrap64 (x3_1 + 1)), (by first | rfl | (simp; done) | (simp [*]; done)), H', ⟨by have := HK1.out; omega⟩, by repeat (first | exact Drawn0.refl _ | apply Drawn0.step)⟩
     ·replace c5 := Bool.eq_false_iff.mpr c5
      subst c5
      have H1 : (some false) = some r := by rw [if_neg (show ¬ (false = true) by decide)] at H; exact H
      clear H
      have H := H1
      clear H1
      obtain rfl := Option.some.inj H
      have p106 : 0 ≤ (x3_1 : Int) := odx
      have q106 : x3_1 < (l0.length : Int) := odx
      obtain ⟨ad106, e106, hx106_0, hx106_1⟩ := at_T38 HR0.out x3_1 p106 q106
      cases e106
      replace p106 := eq_true p106
      replace q106 := eq_true q106
      go_wp2_with (first | (go_at_call 58; (with_reducible refine (levyref17_Finite.calls ((rd_T38 l0 x3_1).f1) false _ A4.out).mono ?_); rintro e w' ⟨rfl, ⟨nd, rfl⟩⟩; (try first | exact ⟨rfl, _, World.drewN_drewN _ _ _⟩ | exact ⟨rfl, _, Eq.trans (World.drewN_drewN _ _ _) (congrArg (World.drewN _) (Nat.add_assoc _ _ _))⟩)))
      repeat (go_quiet (first | (go_at_call 58; (with_reducible refine (levyref17_Finite.calls ((rd_T38 l0 x3_1).f1) false _ A4.out).mono ?_); rintro e w' ⟨rfl, ⟨nd, rfl⟩⟩; (try first | exact ⟨rfl, _, World.drewN_drewN _ _ _⟩ | exact ⟨rfl, _, Eq.trans (World.drewN_drewN _ _ _) (congrArg (World.drewN _) (Nat.add_assoc _ _ _))⟩))); try go_wp2_with (first | (go_at_call 58; (with_reducible refine (levyref17_Finite.calls ((rd_T38 l0 x3_1).f1) false _ A4.out).mono ?_); rintro e w' ⟨rfl, ⟨nd, rfl⟩⟩; (try first | exact ⟨rfl, _, World.drewN_drewN _ _ _⟩ | exact ⟨rfl, _, Eq.trans (World.drewN_drewN _ _ _) (congrArg (World.drewN _) (Nat.add_assoc _ _ _))⟩))))
      go_ret
      exact ⟨by first | rfl | (simp; done) | (simp [*]; done), by repeat (first | exact Drawn0.refl _ | apply Drawn0.step)⟩
    ·rw [if_neg c3] at H
     exact absurd H (by simp)
   ·rw [if_neg c2] at H
    have c2b0 : decide (x3_1 < (l0.length : Int)) = false := decide_eq_false c2
    clear c2
    obtain rfl := Option.some.inj H
    go_wp2
    repeat (go_quiet (fail); try go_wp2)
    go_ret
    exact ⟨by first | rfl | (simp; done) | (simp [*]; done), by repeat (first | exact Drawn0.refl _ | apply Drawn0.step)⟩
end Go.Proofs.Ytfhgomcfpmbhnaa.PS
end

section
namespace Go.Proofs.Ytfhgomcfpmbhnaa.PS
open Go.RowKit Go.Proofs.YtfhgomcfpmbhnaaW.PrintWords Go.Proofs.YtfhgomcfpmbhnaaW.PrintLast Go.Proofs.YtfhgomcfpmbhnaaW.PrintMore
attribute [local go_sem] frun_add frun_sub frun_mul frun_quo frun_neg frun_of frun_same frun_store frun_bits frun_from
attribute [local go_sem] max2_int min2_int max_two min_two max_three min_three max_four min_four
set_option linter.unusedVariables false
set_option linter.unusedSimpArgs false
def levylaw17_bits.l0 : Nat → List (S73) → List (S38) → Int → Option ((List (S38)))
 | 0, _, _, _ => none
 | k + 1, x0, x3, x4 => if x4 < (x0.length : Int) then (if 0 ≤ x4 then (if x3.length < 8796093022208 then (levylaw17_bits.l0 k x0 (x3 ++ [(⟨(rd_T73 x0 x4).f0, (rd_T73 x0 x4).f1⟩ : S38)]) (wrap64 (x4 + 1))) else (none)) else (none)) else (some x3)
def levylaw17_bits.f (k : Nat) (l0 : List (S73)) : Option ((List (S38))) := levylaw17_bits.l0 k l0 ([] : List (S38)) 0
theorem levylaw17_bits.mono_l : ∀ k, (∀ y0 y1 y2, LeO (levylaw17_bits.l0 k y0 y1 y2) (levylaw17_bits.l0 (k + 1) y0 y1 y2))
 | 0 => fun _ _ _ r h => by simp [levylaw17_bits.l0] at h
 | k + 1 => by
  have ih0 := levylaw17_bits.mono_l k
  ·intro y0 y1 y2
   unfold levylaw17_bits.l0
   repeat' first
   | (with_reducible exact ih0 _ _ _)
   | (with_reducible exact LeO.refl _)
   | (with_reducible exact LeO.none _)
   | (with_reducible refine LeO.ite ?_ ?_)
   | (with_reducible refine LeO.bind ?_ (fun _ => ?_))
   | exact ih0 _ _ _
   | exact LeO.none _
   | refine LeO.ite ?_ ?_
   | refine LeO.bind ?_ (fun _ => ?_)
theorem levylaw17_bits.mono : ∀ a0 k, LeO (levylaw17_bits.f k a0) (levylaw17_bits.f (k + 1) a0) := by
 intro a0 k
 have ih0 := levylaw17_bits.mono_l k
 unfold levylaw17_bits.f
 repeat' first
   | (with_reducible exact ih0 _ _ _)
   | (with_reducible exact LeO.refl _)
   | (with_reducible exact LeO.none _)
   | (with_reducible refine LeO.ite ?_ ?_)
   | (with_reducible refine LeO.bind ?_ (fun _ => ?_))
   | exact ih0 _ _ _
   | exact LeO.none _
   | refine LeO.ite ?_ ?_
   | refine LeO.bind ?_ (fun _ => ?_)
def levylaw17_bits.T5 : Bool × List (List Nat × List Nat) := (true, [([], []), ([], []), ([], []), ([1, 2], [1, 2]), ([3], [3]), ([4], [4]), ([], []), ([], []), ([6, 7], [6, 7]), ([8], [8]), ([9], [9]), ([5, 10], [5, 10]), ([11], [11]), ([0, 12], [0, 12]), ([13, 13, 0, 1, 2, 3, 4, 5, 6, 7, 8, 9, 10, 11, 12, 13], [0, 13])])
def levylaw17_bits.B5 : List Nat := [0, 0, 0, 6, 14, 30, 0, 0, 192, 448, 960, 2046, 4094, 8191, 16383]
theorem levylaw17_bits.tab5 : rtab .any (opsOf Try.f38 5) = levylaw17_bits.T5 := by kernel_rfl
theorem levylaw17_bits.bits5 : waitsOk levylaw17_bits.T5.2 levylaw17_bits.B5 = true := by kernel_rfl
set_option maxHeartbeats 8000000 in
set_option maxRecDepth 100000 in
theorem levylaw17_bits.calls (k : Nat) (A0 : Option Addr) (c0 : Nat) (l0 : List (S73)) (r : List (S38)) (w : World) (hr0 : Kd.C k73 w A0 l0.length l0) (hc0 : l0.length ≤ c0) (h : levylaw17_bits.f k l0 = some r) :
  Calls Try.prog 38 #[.slice A0 l0.length c0] w fun e w' => ∃ v0_ : Value, e = .returned (v0_) ∧ Kd.R k38 38 w' w.heap.size (fun _ => True) v0_ r ∧ Below w.heap.size w w' := by
 have hu38 := Try.underlying38
 have HR0 := Aside0.mk hr0
 have HC0 := Aside0.mk hc0
 clear hr0 hc0
 have HB := Aside0.mk (Below.refl w.heap.size w)
 have H : (levylaw17_bits.l0 k l0 ([] : List (S38)) 0) = some r := h
 clear h
 have H' := Aside0.mk H
 clear H
 go_enter Try.func38, Try.ntmps38
 go_wp2
 go_loopg [3, 4] k (fun kq v3 v4 w' => ∃ (x3_1 : List (S38)) (x4_1 : Int), v4 = .int .i64 x4_1 ∧ Aside0 (levylaw17_bits.l0 kq l0 x3_1 x4_1 = some r) ∧ Aside0 (kq ≤ k) ∧ Aside0 (Kd.R k38 38 w' w.heap.size (fun _ => True) v3 x3_1) ∧ Aside0 (Below w.heap.size w w'))
 case atStart => exact ⟨(([] : List (S38))), (0), (by first | rfl | (simp; done) | (simp [*]; done)), H', ⟨Nat.le_refl _⟩, ⟨by first | exact Kd.R_nil _ _ _ _ _ | exact Kd.N_nil _ _ _ _ _ | exact Kd.V_nil _ _ _ _ _ | exact Kd.Q_nil _ _ _ _ _ | exact Kd.S_nil _ _ _ _ _⟩, ⟨blx⟩⟩
 case round =>
  clear H'
  obtain ⟨x3_1, x4_1, rfl, HA, HK1, HO_3, HB⟩ := hrel
  cases gk with
  | zero => exact absurd HA.out (by simp [levylaw17_bits.l0])
  | succ k1 =>
   have H := HA.out
   clear HA
   simp only [levylaw17_bits.l0] at H
   by_cases c2 : x4_1 < (l0.length : Int)
   ·rw [if_pos c2] at H
    have c2b0 : decide (x4_1 < (l0.length : Int)) = true := decide_eq_true c2
    clear c2
    by_cases c3 : 0 ≤ x4_1
    ·rw [if_pos c3] at H
     have c3b0 : decide (0 ≤ x4_1) = true := decide_eq_true c3
     clear c3
     by_cases c4 : x3_1.length < 8796093022208
     ·rw [if_pos c4] at H
      have LMc4 := Aside0.mk c4
      clear c4
      obtain ⟨y255, hy255⟩ : ∃ y_ : List (S38), y_ = (x3_1 ++ [(⟨(rd_T73 l0 x4_1).f0, (rd_T73 l0 x4_1).f1⟩ : S38)]) := ⟨_, rfl⟩
      replace H : (levylaw17_bits.l0 k1 l0 y255 (wrap64 (x4_1 + 1))) = some r := by first | (rw [hy255]; with_reducible exact H) | (have H2_ := (Option.bind_some _ _).symm.trans H; rw [hy255]; with_reducible exact H2_) | (have H2_ := (Option.bind_some _ _).symm.trans H; with_reducible exact H2_) | with_reducible exact H | (rw [hy255]; exact H) | exact H
      have Ny255 := Aside0.mk hy255
      clear hy255
      have H' := Aside0.mk H
      clear H
      try go_wp2
      have n0_ := Aside0.mk (Kd.R_drew HO_3.out)
      have n1_ := Aside0.mk (below_drew1 HB.out)
      clear HO_3
      clear HB
      have HO_3 := n0_
      have HB := n1_
      clear n0_ n1_
      have p253 : 0 ≤ (x4_1 : Int) := odx
      have q253 : x4_1 < (l0.length : Int) := odx
      obtain ⟨ad253, e253, hx253_0, hx253_1⟩ := at_T73 HR0.out x4_1 p253 q253
      have hw253_1 := hx253_1
      have hw253_0 := hx253_0
      cases e253
      replace hx253_0 := (HB.out.cell (World.block_lt_of_cell? w _ hx253_0)).trans hx253_0
      replace hx253_1 := (HB.out.cell (World.block_lt_of_cell? w _ hx253_1)).trans hx253_1
      replace p253 := eq_true p253
      replace q253 := eq_true q253
      have p254 : 0 ≤ (x4_1 : Int) := odx
      have q254 : x4_1 < (l0.length : Int) := odx
      obtain ⟨ad254, e254, hx254_0, hx254_1⟩ := at_T73 HR0.out x4_1 p254 q254
      have hw254_1 := hx254_1
      have hw254_0 := hx254_0
      obtain rfl : ad253 = ad254 := (by injection e254)
      replace hx254_0 := (HB.out.cell (World.block_lt_of_cell? w _ hx254_0)).trans hx254_0
      replace hx254_1 := (HB.out.cell (World.block_lt_of_cell? w _ hx254_1)).trans hx254_1
      replace p254 := eq_true p254
      replace q254 := eq_true q254
      refine start_ (n := 15) (S := fun w' => w'.cell? (ad253.add ((x4_1).toNat * 2)) = some (.int .i64 ((rd_T73 l0 x4_1).f0)) ∧ w'.cell? ⟨(ad253.add ((x4_1).toNat * 2)).block, (ad253.add ((x4_1).toNat * 2)).off + 1, none⟩ = some (.int .u32 ((rd_T73 l0 x4_1).f1)) ∧ w'.cell? (ad253.add ((x4_1).toNat * 2)) = some (.int .i64 ((rd_T73 l0 x4_1).f0)) ∧ w'.cell? ⟨(ad253.add ((x4_1).toNat * 2)).block, (ad253.add ((x4_1).toNat * 2)).off + 1, none⟩ = some (.int .u32 ((rd_T73 l0 x4_1).f1))) (ds := []) #[false, false, false, false, false, false, false, false, false, false, false, false, false, false, false] (by kernel_rfl) rfl rfl ⟨((HB.out.cell (World.block_lt_of_cell? w _ hw253_0)).trans hw253_0), ((HB.out.cell (World.block_lt_of_cell? w _ hw253_1)).trans hw253_1), ((HB.out.cell (World.block_lt_of_cell? w _ hw254_0)).trans hw254_0), ((HB.out.cell (World.block_lt_of_cell? w _ hw254_1)).trans hw254_1)⟩ (fun hHeld => ?_); refine with_tabW levylaw17_bits.tab5 levylaw17_bits.bits5 (fun HT_ HW_ => ?_)
      generalize wr.drew = w5 at HO_3 HB hx253_0 hx253_1 hx254_0 hx254_1 hHeld ⊢
      refine pure_ (i := 0) (N := some 11) (v := ?_) (a' := ?_) #[true, false, false, false, false, false, false, false, false, false, false, false, false, false, false] rfl rfl (any_of HT_.out (by kernel_rfl)) (fun _ _ _ h => h) (Or.inl ⟨by rfl, ?_⟩) ?_ ?_
      rotate_left
      ·intro w'
       go_simp
       with_reducible rfl
      rotate_left
      ·simp only [Act.put, List.setIfInBounds_toArray, List.set_cons_zero, List.set_cons_succ, i64_w, i32_w]
       rfl
      refine pure_ (i := 1) (N := some 12) (v := ?_) (a' := ?_) #[true, true, false, false, false, false, false, false, false, false, false, false, false, false, false] rfl rfl (any_of HT_.out (by kernel_rfl)) (fun _ _ _ h => h) (Or.inl ⟨by rfl, ?_⟩) ?_ ?_
      rotate_left
      ·intro w'
       go_simp
       with_reducible rfl
      rotate_left
      ·simp only [Act.put, List.setIfInBounds_toArray, List.set_cons_zero, List.set_cons_succ, i64_w, i32_w]
       rfl
      refine pure_ (i := 2) (N := some 13) (v := ?_) (a' := ?_) #[true, true, true, false, false, false, false, false, false, false, false, false, false, false, false] rfl rfl (any_of HT_.out (by kernel_rfl)) (fun _ _ _ h => h) (Or.inl ⟨by rfl, ?_⟩) ?_ ?_
      rotate_left
      ·intro w'
       go_simp
       with_reducible rfl
      rotate_left
      ·simp only [Act.put, List.setIfInBounds_toArray, List.set_cons_zero, List.set_cons_succ, i64_w, i32_w]
       rfl
      refine pure_ (i := 3) (N := some 14) (v := ?_) (a' := ?_) #[true, true, true, true, false, false, false, false, false, false, false, false, false, false, false] rfl rfl (any_of HT_.out (by kernel_rfl)) (fun _ _ _ h => h) (Or.inl ⟨by rfl, ?_⟩) ?_ ?_
      rotate_left
      ·intro w'
       go_simp
       with_reducible rfl
      rotate_left
      ·simp only [Act.put, List.setIfInBounds_toArray, List.set_cons_zero, List.set_cons_succ, i64_w, i32_w]
       rfl
      refine pure_ (i := 4) (N := some 15) (v := ?_) (a' := ?_) #[true, true, true, true, true, false, false, false, false, false, false, false, false, false, false] rfl rfl (any_of HT_.out (by kernel_rfl)) (fun _ _ _ h => h) (Or.inl ⟨by rfl, ?_⟩) ?_ ?_
      rotate_left
      ·intro w'
       go_simp
       with_reducible rfl
      rotate_left
      ·simp only [Act.put, List.setIfInBounds_toArray, List.set_cons_zero, List.set_cons_succ, i64_w, i32_w]
       rfl
      refine pure_ (i := 6) (N := some 17) (v := ?_) (a' := ?_) #[true, true, true, true, true, false, true, false, false, false, false, false, false, false, false] rfl rfl (any_of HT_.out (by kernel_rfl)) (fun _ _ _ h => h) (Or.inl ⟨by rfl, ?_⟩) ?_ ?_
      rotate_left
      ·intro w'
       go_simp
       with_reducible rfl
      rotate_left
      ·simp only [Act.put, List.setIfInBounds_toArray, List.set_cons_zero, List.set_cons_succ, i64_w, i32_w]
       rfl
      refine pure_ (i := 7) (N := some 18) (v := ?_) (a' := ?_) #[true, true, true, true, true, false, true, true, false, false, false, false, false, false, false] rfl rfl (any_of HT_.out (by kernel_rfl)) (fun _ _ _ h => h) (Or.inl ⟨by rfl, ?_⟩) ?_ ?_
      rotate_left
      ·intro w'
       go_simp
       with_reducible rfl
      rotate_left
      ·simp only [Act.put, List.setIfInBounds_toArray, List.set_cons_zero, List.set_cons_succ, i64_w, i32_w]
       rfl
      refine pure_ (i := 8) (N := some 19) (v := ?_) (a' := ?_) #[true, true, true, true, true, false, true, true, true, false, false, false, false, false, false] rfl rfl (any_of HT_.out (by kernel_rfl)) (fun _ _ _ h => h) (Or.inl ⟨by rfl, ?_⟩) ?_ ?_
      rotate_left
      ·intro w'
       go_simp
       with_reducible rfl
      rotate_left
      ·simp only [Act.put, List.setIfInBounds_toArray, List.set_cons_zero, List.set_cons_succ, i64_w, i32_w]
       rfl
      refine pure_ (i := 9) (N := some 20) (v := ?_) (a' := ?_) #[true, true, true, true, true, false, true, true, true, true, false, false, false, false, false] rfl rfl (any_of HT_.out (by kernel_rfl)) (fun _ _ _ h => h) (Or.inl ⟨by rfl, ?_⟩) ?_ ?_
      rotate_left
      ·intro w'
       go_simp
       with_reducible rfl
      rotate_left
      ·simp only [Act.put, List.setIfInBounds_toArray, List.set_cons_zero, List.set_cons_succ, i64_w, i32_w]
       rfl
      refine take_ (i := 5) (N := some 16) (v := ?_) (a' := ?_) #[true, true, true, true, true, true, true, true, true, true, false, false, false, false, false] rfl rfl (take_ofW HT_.out HW_.out (by kernel_rfl)) (fun _ _ _ h => h) (Or.inl ⟨by rfl, ?_⟩) hHeld ?_ ?_
      rotate_left
      ·rintro w' ⟨s0, s1, s2, s3⟩
       go_simp
       with_reducible rfl
      rotate_left
      ·simp only [Act.put, List.setIfInBounds_toArray, List.set_cons_zero, List.set_cons_succ, i64_w, i32_w]
       rfl
      refine take_ (i := 10) (N := some 21) (v := ?_) (a' := ?_) #[true, true, true, true, true, true, true, true, true, true, true, false, false, false, false] rfl rfl (take_ofW HT_.out HW_.out (by kernel_rfl)) (fun _ _ _ h => h) (Or.inl ⟨by rfl, ?_⟩) hHeld ?_ ?_
      rotate_left
      ·rintro w' ⟨s0, s1, s2, s3⟩
       go_simp
       with_reducible rfl
      rotate_left
      ·simp only [Act.put, List.setIfInBounds_toArray, List.set_cons_zero, List.set_cons_succ, i64_w, i32_w]
       rfl
      refine pure_ (i := 11) (N := some 22) (v := ?_) (a' := ?_) #[true, true, true, true, true, true, true, true, true, true, true, true, false, false, false] rfl rfl (any_of HT_.out (by kernel_rfl)) (fun _ _ _ h => h) (Or.inl ⟨by rfl, ?_⟩) ?_ ?_
      rotate_left
      ·intro w'
       go_simp
       with_reducible rfl
      rotate_left
      ·simp only [Act.put, List.setIfInBounds_toArray, List.set_cons_zero, List.set_cons_succ, i64_w, i32_w]
       rfl
      refine one_ (i := 12) (N := some 23) #[true, true, true, true, true, true, true, true, true, true, true, true, true, false, false] rfl rfl (one_of HT_.out (by kernel_rfl)) (by decide) (fun K hK => ?_)
      refine value_ (w1 := ?_) (v := ?_) (by rfl) rfl ?_ ?_
      rotate_left 2
      ·go_simp
       constructor
       ·rfl
       ·rfl
      refine hK.out _ _ ⟨(World.cell?_alloc_lt _ _ _ (World.block_lt_of_cell? _ _ (((HB.out.cell (World.block_lt_of_cell? w _ hw253_0)).trans hw253_0)))).trans (((HB.out.cell (World.block_lt_of_cell? w _ hw253_0)).trans hw253_0)), (World.cell?_alloc_lt _ _ _ (World.block_lt_of_cell? _ _ (((HB.out.cell (World.block_lt_of_cell? w _ hw253_1)).trans hw253_1)))).trans (((HB.out.cell (World.block_lt_of_cell? w _ hw253_1)).trans hw253_1)), (World.cell?_alloc_lt _ _ _ (World.block_lt_of_cell? _ _ (((HB.out.cell (World.block_lt_of_cell? w _ hw254_0)).trans hw254_0)))).trans (((HB.out.cell (World.block_lt_of_cell? w _ hw254_0)).trans hw254_0)), (World.cell?_alloc_lt _ _ _ (World.block_lt_of_cell? _ _ (((HB.out.cell (World.block_lt_of_cell? w _ hw254_1)).trans hw254_1)))).trans (((HB.out.cell (World.block_lt_of_cell? w _ hw254_1)).trans hw254_1))⟩ (fun hHeld => ?_)
      clear hK K
      refine norm_ (a' := ?_) ?_ ?_
      rotate_left
      ·show Act.put _ (some 23) _ = _
       simp only [Act.put, List.setIfInBounds_toArray, List.set_cons_zero, List.set_cons_succ, i64_w, i32_w]
       rfl
      refine one_ (i := 13) (N := some 24) #[true, true, true, true, true, true, true, true, true, true, true, true, true, true, false] rfl rfl (one_of HT_.out (by kernel_rfl)) (by decide) (fun K hK => ?_)
      refine Kd.R_append_step k38 (w0 := w) w.heap.size (by rfl) (.tmp 11) (.tmp 23) 27 38 (.agg #[(.int .i64 0), (.int .u32 0)]) 16 rfl Try.underlying27 info38 rfl (by decide) (by omega) u3 x3_1 (⟨(rd_T73 l0 x4_1).f0, (rd_T73 l0 x4_1).f1⟩ : S38) [.int .i64 ((rd_T73 l0 x4_1).f0), .int .u32 ((rd_T73 l0 x4_1).f1)] (fun _ => True) (fun _ => False) rfl rfl ?aP (fun _ hk => hk.elim) ?aF ?aO ?aB ?aS ?aL ?_
      (case aP => exact k38_mkM _ _ _ (⟨(rd_T73 l0 x4_1).f0, (rd_T73 l0 x4_1).f1⟩ : S38))
      (case aB => exact blx)
      (case aF => exact (fun _ _ => trivial))
      (case aO => exact (by (with_reducible repeat (first | apply Kd.R_alloc | apply Kd.R_drewN | apply Kd.R_drew)); exact HO_3.out))
      (case aS => exact (below_size blx))
      (case aL => have := LMc4.out; omega)
      intro v256 w6 ho hb hg hat
      rw [← Ny255.out] at ho
      have n0_ := Aside0.mk (hb)
      have n1_ := Aside0.mk (ho)
      clear HB
      clear HO_3
      have HB := n0_
      have HO257 := n1_
      clear n0_ n1_
      clear ho hb hg hat
      refine hK.out _ _ ⟨((HB.out.cell (World.block_lt_of_cell? w _ hw253_0)).trans hw253_0), ((HB.out.cell (World.block_lt_of_cell? w _ hw253_1)).trans hw253_1), ((HB.out.cell (World.block_lt_of_cell? w _ hw254_0)).trans hw254_0), ((HB.out.cell (World.block_lt_of_cell? w _ hw254_1)).trans hw254_1)⟩ (fun hHeld => ?_)
      clear hK K
      refine norm_ (a' := ?_) ?_ ?_
      rotate_left
      ·show Act.put _ (some 24) _ = _
       simp only [Act.put, List.setIfInBounds_toArray, List.set_cons_zero, List.set_cons_succ, i64_w, i32_w]
       rfl
      refine pure_ (i := 14) (N := some 3) (v := ?_) (a' := ?_) #[true, true, true, true, true, true, true, true, true, true, true, true, true, true, true] rfl rfl (any_of HT_.out (by kernel_rfl)) (fun _ _ _ h => h) (Or.inl ⟨by rfl, ?_⟩) ?_ ?_
      rotate_left
      ·intro w'
       go_simp
       with_reducible rfl
      rotate_left
      ·simp only [Act.put, List.setIfInBounds_toArray, List.set_cons_zero, List.set_cons_succ, i64_w, i32_w]
       rfl
      refine done_ (done_of HT_.out (by kernel_rfl)) ?_
      try go_wp2
      go_roundg k1
      case measure => have := HK1.out; omega
      case rel => exact ⟨(y255), (wrap64 (x4_1 + 1)), (by first | rfl | (simp; done) | (simp [*]; done)), H', ⟨by have := HK1.out; omega⟩, ⟨by (with_reducible repeat (first | apply Kd.R_alloc | apply Kd.R_drewN | apply Kd.R_drew)); exact HO257.out⟩, ⟨blx⟩⟩
     ·rw [if_neg c4] at H
      exact absurd H (by simp)
    ·rw [if_neg c3] at H
     exact absurd H (by simp)
   ·rw [if_neg c2] at H
    have c2b0 : decide (x4_1 < (l0.length : Int)) = false := decide_eq_false c2
    clear c2
    obtain rfl := Option.some.inj H
    go_wp2
    go_ret
    exact ⟨_, by first | rfl | (simp [errW_none, errW_some] <;> rfl) | (simp [*, errW_none, errW_some] <;> rfl), by (with_reducible repeat (first | apply Kd.R_alloc | apply Kd.R_drewN | apply Kd.R_drew)); exact HO_3.out, blx⟩
end Go.Proofs.Ytfhgomcfpmbhnaa.PS
end

section
namespace Go.Proofs.Ytfhgomcfpmbhnaa.PS
open Go.RowKit Go.Proofs.YtfhgomcfpmbhnaaW.PrintWords Go.Proofs.YtfhgomcfpmbhnaaW.PrintLast Go.Proofs.YtfhgomcfpmbhnaaW.PrintMore
attribute [local go_sem] frun_add frun_sub frun_mul frun_quo frun_neg frun_of frun_same frun_store frun_bits frun_from
attribute [local go_sem] max2_int min2_int max_two min_two max_three min_three max_four min_four
set_option linter.unusedVariables false
set_option linter.unusedSimpArgs false
def curve_whole.f (a0 : Int) : Option (Nat) := some (fl_of a0)
set_option maxHeartbeats 8000000 in
set_option maxRecDepth 100000 in
theorem curve_whole.calls (a0 : Int) (r : Nat) (w : World) (h : curve_whole.f a0 = some r) :
  Calls Try.prog 33 #[.int .i64 a0] w fun e w' => e = .returned (.float .f32 r) ∧ Drawn0 w w' := by
 have H : (some (fl_of a0)) = some r := h
 clear h
 obtain rfl := Option.some.inj H
 go_enter Try.func33, Try.ntmps33
 go_wp2
 go_ret
 exact ⟨by first | rfl | (simp; done) | (simp [*]; done), by repeat (first | exact Drawn0.refl _ | apply Drawn0.step)⟩
end Go.Proofs.Ytfhgomcfpmbhnaa.PS
end

section
namespace Go.Proofs.Ytfhgomcfpmbhnaa.PS
open Go.RowKit Go.Proofs.YtfhgomcfpmbhnaaW.PrintWords Go.Proofs.YtfhgomcfpmbhnaaW.PrintLast Go.Proofs.YtfhgomcfpmbhnaaW.PrintMore
attribute [local go_sem] frun_add frun_sub frun_mul frun_quo frun_neg frun_of frun_same frun_store frun_bits frun_from
attribute [local go_sem] max2_int min2_int max_two min_two max_three min_three max_four min_four
set_option linter.unusedVariables false
set_option linter.unusedSimpArgs false
mutual
def levyref17_Rate.l0 : Nat → List (S38) → List (S38) → Int → Option ((List (S38)))
 | 0, _, _, _ => none
 | k + 1, x0, x3, x4 => if x4 < (x0.length : Int) then (if 0 ≤ x4 then ((levyref17_Finite.f ((rd_T38 x0 x4).f1)).bind fun t164 => (if t164 = true then (levyref17_Rate.j1 k x0 x3 x4 (((rd_T38 x0 x4).f0) == 0)) else (levyref17_Rate.j1 k x0 x3 x4 true))) else (none)) else (some x3)
def levyref17_Rate.j1 : Nat → List (S38) → List (S38) → Int → Bool → Option ((List (S38)))
 | 0, _, _, _, _ => none
 | k + 1, x0, x3, x4, x29 => if x29 = true then (levyref17_Rate.l0 k x0 x3 (wrap64 (x4 + 1))) else (if 0 ≤ x4 then (if x4 < (x0.length : Int) then ((levyref17_Whole.f ((rd_T38 x0 x4).f0)).bind fun t167 => ((levyref17_Div.f k ((rd_T38 x0 x4).f1) t167).bind fun t169 => (if x3.length < 8796093022208 then (levyref17_Rate.l0 k x0 (x3 ++ [(⟨(rd_T38 x0 x4).f0, t169⟩ : S38)]) (wrap64 (x4 + 1))) else (none)))) else (none)) else (none))
end
def levyref17_Rate.f (k : Nat) (l0 : List (S38)) : Option ((List (S38))) := levyref17_Rate.l0 k l0 ([] : List (S38)) 0
theorem levyref17_Rate.mono_l : ∀ k, (∀ y0 y1 y2, LeO (levyref17_Rate.l0 k y0 y1 y2) (levyref17_Rate.l0 (k + 1) y0 y1 y2)) ∧ (∀ y0 y1 y2 y3, LeO (levyref17_Rate.j1 k y0 y1 y2 y3) (levyref17_Rate.j1 (k + 1) y0 y1 y2 y3))
 | 0 => ⟨fun _ _ _ r h => by simp [levyref17_Rate.l0] at h, fun _ _ _ _ r h => by simp [levyref17_Rate.j1] at h⟩
 | k + 1 => by
  obtain ⟨ih0, ih1⟩ := levyref17_Rate.mono_l k
  refine ⟨?_, ?_⟩
  ·intro y0 y1 y2
   unfold levyref17_Rate.l0
   repeat' first
   | (with_reducible exact ih0 _ _ _)
   | (with_reducible exact ih1 _ _ _ _)
   | (with_reducible exact levyref17_Div.mono _ _ _)
   | (with_reducible exact LeO.refl _)
   | (with_reducible exact LeO.none _)
   | (with_reducible refine LeO.ite ?_ ?_)
   | (with_reducible refine LeO.bind ?_ (fun _ => ?_))
   | exact ih0 _ _ _
   | exact ih1 _ _ _ _
   | exact levyref17_Div.mono _ _ _
   | exact LeO.none _
   | refine LeO.ite ?_ ?_
   | refine LeO.bind ?_ (fun _ => ?_)
  ·intro y0 y1 y2 y3
   unfold levyref17_Rate.j1
   repeat' first
   | (with_reducible exact ih0 _ _ _)
   | (with_reducible exact ih1 _ _ _ _)
   | (with_reducible exact levyref17_Div.mono _ _ _)
   | (with_reducible exact LeO.refl _)
   | (with_reducible exact LeO.none _)
   | (with_reducible refine LeO.ite ?_ ?_)
   | (with_reducible refine LeO.bind ?_ (fun _ => ?_))
   | exact ih0 _ _ _
   | exact ih1 _ _ _ _
   | exact levyref17_Div.mono _ _ _
   | exact LeO.none _
   | refine LeO.ite ?_ ?_
   | refine LeO.bind ?_ (fun _ => ?_)
theorem levyref17_Rate.mono : ∀ a0 k, LeO (levyref17_Rate.f k a0) (levyref17_Rate.f (k + 1) a0) := by
 intro a0 k
 obtain ⟨ih0, ih1⟩ := levyref17_Rate.mono_l k
 unfold levyref17_Rate.f
 repeat' first
   | (with_reducible exact ih0 _ _ _)
   | (with_reducible exact ih1 _ _ _ _)
   | (with_reducible exact levyref17_Div.mono _ _ _)
   | (with_reducible exact LeO.refl _)
   | (with_reducible exact LeO.none _)
   | (with_reducible refine LeO.ite ?_ ?_)
   | (with_reducible refine LeO.bind ?_ (fun _ => ?_))
   | exact ih0 _ _ _
   | exact ih1 _ _ _ _
   | exact levyref17_Div.mono _ _ _
   | exact LeO.none _
   | refine LeO.ite ?_ ?_
   | refine LeO.bind ?_ (fun _ => ?_)
set_option maxHeartbeats 8000000 in
set_option maxRecDepth 100000 in
theorem levyref17_Rate.calls (k : Nat) (A0 : Option Addr) (c0 : Nat) (l0 : List (S38)) (r : List (S38)) (w : World) (hr0 : Kd.C k38 w A0 l0.length l0) (hc0 : l0.length ≤ c0) (h : levyref17_Rate.f k l0 = some r) :
  Calls Try.prog 42 #[.slice A0 l0.length c0] w fun e w' => ∃ v0_ : Value, e = .returned (v0_) ∧ Kd.R k38 38 w' w.heap.size (fun _ => True) v0_ r ∧ Below w.heap.size w w' := by
 have hu38 := Try.underlying38
 have HR0 := Aside0.mk hr0
 have HC0 := Aside0.mk hc0
 clear hr0 hc0
 have HB := Aside0.mk (Below.refl w.heap.size w)
 have H : (levyref17_Rate.l0 k l0 ([] : List (S38)) 0) = some r := h
 clear h
 have H' := Aside0.mk H
 clear H
 go_enter Try.func42, Try.ntmps42
 go_wp2
 go_loopg [3, 4] k (fun kq v3 v4 w' => ∃ (x3_1 : List (S38)) (x4_1 : Int), v4 = .int .i64 x4_1 ∧ Aside0 (levyref17_Rate.l0 kq l0 x3_1 x4_1 = some r) ∧ Aside0 (kq ≤ k) ∧ Aside0 (Kd.R k38 38 w' w.heap.size (fun _ => True) v3 x3_1) ∧ Aside0 (Below w.heap.size w w'))
 case atStart => exact ⟨(([] : List (S38))), (0), (by first | rfl | (simp; done) | (simp [*]; done)), H', ⟨Nat.le_refl _⟩, ⟨by first | exact Kd.R_nil _ _ _ _ _ | exact Kd.N_nil _ _ _ _ _ | exact Kd.V_nil _ _ _ _ _ | exact Kd.Q_nil _ _ _ _ _ | exact Kd.S_nil _ _ _ _ _⟩, ⟨blx⟩⟩
 case round =>
  clear H'
  obtain ⟨x3_1, x4_1, rfl, HA, HK1, HO_3, HB⟩ := hrel
  cases gk with
  | zero => exact absurd HA.out (by simp [levyref17_Rate.l0])
  | succ k1 =>
   have H := HA.out
   clear HA
   simp only [levyref17_Rate.l0] at H
   by_cases c2 : x4_1 < (l0.length : Int)
   ·rw [if_pos c2] at H
    have c2b0 : decide (x4_1 < (l0.length : Int)) = true := decide_eq_true c2
    clear c2
    by_cases c3 : 0 ≤ x4_1
    ·rw [if_pos c3] at H
     have c3b0 : decide (0 ≤ x4_1) = true := decide_eq_true c3
     clear c3
     replace H := Option.bind_eq_some_iff.mp H
     obtain ⟨t164, A40, H⟩ := H
     replace H : (if t164 = true then (levyref17_Rate.j1 k1 l0 x3_1 x4_1 (((rd_T38 l0 x4_1).f0) == 0)) else (levyref17_Rate.j1 k1 l0 x3_1 x4_1 true)) = some r := H
     have A4 := Aside0.mk A40
     clear A40
     have HC5 := Aside0.mk H
     clear H
     have p163 : 0 ≤ (x4_1 : Int) := odx
     have q163 : x4_1 < (l0.length : Int) := odx
     obtain ⟨ad163, e163, hx163_0, hx163_1⟩ := at_T38 HR0.out x4_1 p163 q163
     cases e163
     replace hx163_0 := (HB.out.cell (World.block_lt_of_cell? w _ hx163_0)).trans hx163_0
     replace hx163_1 := (HB.out.cell (World.block_lt_of_cell? w _ hx163_1)).trans hx163_1
     replace p163 := eq_true p163
     replace q163 := eq_true q163
     go_upto_region 6 with (first | ((with_reducible refine gate_callee (f := 58) rfl ?_); refine goesL_ (some 19) rfl rfl Try.func58 (by kernel_rfl) rfl #[.int .u32 ((rd_T38 l0 x4_1).f1)] rfl agx ?_; (with_reducible refine (levyref17_Finite.calls ((rd_T38 l0 x4_1).f1) t164 _ A4.out).mono ?_); rintro e w' ⟨rfl, ⟨nd, rfl⟩⟩; refine ⟨_, rfl, ?_⟩))
     (try simp only [Act.put, List.setIfInBounds_toArray, List.set_cons_zero, List.set_cons_succ])
     go_cut [29] (fun v29 wc => ∃ (kq : Nat) (x29_4 : Bool), v29 = .bool x29_4 ∧ Aside0 (levyref17_Rate.j1 kq l0 x3_1 x4_1 x29_4 = some r) ∧ Aside0 (kq ≤ k1) ∧ Aside0 (Kd.R k38 38 wc w.heap.size (fun _ => True) u3 x3_1) ∧ Aside0 (Below w.heap.size w wc))
     case first =>
      have H := HC5.out
      clear HC5
      by_cases c6 : t164 = true
      ·subst c6
       have H1 : (levyref17_Rate.j1 k1 l0 x3_1 x4_1 (((rd_T38 l0 x4_1).f0) == 0)) = some r := by rw [if_pos rfl] at H; exact H
       clear H
       have H := H1
       clear H1
       have H' := Aside0.mk H
       clear H
       have p165 : 0 ≤ (x4_1 : Int) := odx
       have q165 : x4_1 < (l0.length : Int) := odx
       obtain ⟨ad165, e165, hx165_0, hx165_1⟩ := at_T38 HR0.out x4_1 p165 q165
       obtain rfl : ad163 = ad165 := (by injection e165)
       replace hx165_0 := (HB.out.cell (World.block_lt_of_cell? w _ hx165_0)).trans hx165_0
       replace hx165_1 := (HB.out.cell (World.block_lt_of_cell? w _ hx165_1)).trans hx165_1
       replace p165 := eq_true p165
       replace q165 := eq_true q165
       go_wp2
       go_meet
       case rel => exact ⟨_, ((((rd_T38 l0 x4_1).f0) == 0)), (by first | rfl | (simp; done) | (simp [*]; done)), H', ⟨by have := HK1.out; first | omega | exact Nat.le_refl _⟩, ⟨by (with_reducible repeat (first | apply Kd.R_alloc | apply Kd.R_drewN | apply Kd.R_drew)); exact HO_3.out⟩, ⟨blx⟩⟩
      ·replace c6 := Bool.eq_false_iff.mpr c6
       subst c6
       have H1 : (levyref17_Rate.j1 k1 l0 x3_1 x4_1 true) = some r := by rw [if_neg (show ¬ (false = true) by decide)] at H; exact H
       clear H
       have H := H1
       clear H1
       have H' := Aside0.mk H
       clear H
       go_wp2
       go_meet
       case rel => exact ⟨_, (true), (by first | rfl | (simp; done) | (simp [*]; done)), H', ⟨by have := HK1.out; first | omega | exact Nat.le_refl _⟩, ⟨by (with_reducible repeat (first | apply Kd.R_alloc | apply Kd.R_drewN | apply Kd.R_drew)); exact HO_3.out⟩, ⟨blx⟩⟩
     case rest =>
      clear HC5
      try clear p1
      try clear q1
      try clear hx1
      try clear c2
      try clear c2b0
      try clear p2
      try clear c3
      try clear c3b0
      try clear c4
      try clear c5
      try clear c6
      try clear hx163_0
      try clear hx163_1
      try clear hx165_0
      try clear hx165_1
      try clear p163
      try clear p165
      try clear q163
      try clear q165
      obtain ⟨kq, x29_4, rfl, HA, HJ4, HO_3, HB⟩ := hcut
      cases kq with
      | zero => exact absurd HA.out (by simp [levyref17_Rate.j1])
      | succ kj4 =>
       have H := HA.out
       clear HA
       simp only [levyref17_Rate.j1] at H
       by_cases c7 : x29_4 = true
       ·subst c7
        have H1 : (levyref17_Rate.l0 kj4 l0 x3_1 (wrap64 (x4_1 + 1))) = some r := by rw [if_pos rfl] at H; exact H
        clear H
        have H := H1
        clear H1
        have H' := Aside0.mk H
        clear H
        go_wp2
        go_roundg kj4
        case measure => have := HK1.out; have := HJ4.out; omega
        case rel => exact ⟨(x3_1), (wrap64 (x4_1 + 1)), (by first | rfl | (simp; done) | (simp [*]; done)), H', ⟨by have := HK1.out; have := HJ4.out; omega⟩, ⟨by (with_reducible repeat (first | apply Kd.R_alloc | apply Kd.R_drewN | apply Kd.R_drew)); exact HO_3.out⟩, ⟨blx⟩⟩
       ·replace c7 := Bool.eq_false_iff.mpr c7
        subst c7
        have H1 : (if 0 ≤ x4_1 then (if x4_1 < (l0.length : Int) then ((levyref17_Whole.f ((rd_T38 l0 x4_1).f0)).bind fun t167 => ((levyref17_Div.f kj4 ((rd_T38 l0 x4_1).f1) t167).bind fun t169 => (if x3_1.length < 8796093022208 then (levyref17_Rate.l0 kj4 l0 (x3_1 ++ [(⟨(rd_T38 l0 x4_1).f0, t169⟩ : S38)]) (wrap64 (x4_1 + 1))) else (none)))) else (none)) else (none)) = some r := by rw [if_neg (show ¬ (false = true) by decide)] at H; exact H
        clear H
        have H := H1
        clear H1
        by_cases c8 : 0 ≤ x4_1
        ·rw [if_pos c8] at H
         have c8b0 : decide (0 ≤ x4_1) = true := decide_eq_true c8
         clear c8
         by_cases c9 : x4_1 < (l0.length : Int)
         ·rw [if_pos c9] at H
          have c9b0 : decide (x4_1 < (l0.length : Int)) = true := decide_eq_true c9
          clear c9
          replace H := Option.bind_eq_some_iff.mp H
          obtain ⟨t167, A100, H⟩ := H
          replace H : ((levyref17_Div.f kj4 ((rd_T38 l0 x4_1).f1) t167).bind fun t169 => (if x3_1.length < 8796093022208 then (levyref17_Rate.l0 kj4 l0 (x3_1 ++ [(⟨(rd_T38 l0 x4_1).f0, t169⟩ : S38)]) (wrap64 (x4_1 + 1))) else (none))) = some r := H
          have A10 := Aside0.mk A100
          clear A100
          replace H := Option.bind_eq_some_iff.mp H
          obtain ⟨t169, A110, H⟩ := H
          replace H : (if x3_1.length < 8796093022208 then (levyref17_Rate.l0 kj4 l0 (x3_1 ++ [(⟨(rd_T38 l0 x4_1).f0, t169⟩ : S38)]) (wrap64 (x4_1 + 1))) else (none)) = some r := H
          have A11 := Aside0.mk A110
          clear A110
          by_cases c12 : x3_1.length < 8796093022208
          ·rw [if_pos c12] at H
           have LMc12 := Aside0.mk c12
           clear c12
           obtain ⟨y171, hy171⟩ : ∃ y_ : List (S38), y_ = (x3_1 ++ [(⟨(rd_T38 l0 x4_1).f0, t169⟩ : S38)]) := ⟨_, rfl⟩
           replace H : (levyref17_Rate.l0 kj4 l0 y171 (wrap64 (x4_1 + 1))) = some r := by first | (rw [hy171]; with_reducible exact H) | (have H2_ := (Option.bind_some _ _).symm.trans H; rw [hy171]; with_reducible exact H2_) | (have H2_ := (Option.bind_some _ _).symm.trans H; with_reducible exact H2_) | with_reducible exact H | (rw [hy171]; exact H) | exact H
           have Ny171 := Aside0.mk hy171
           clear hy171
           have H' := Aside0.mk H
           clear H
           have p166 : 0 ≤ (x4_1 : Int) := odx
           have q166 : x4_1 < (l0.length : Int) := odx
           obtain ⟨ad166, e166, hx166_0, hx166_1⟩ := at_T38 HR0.out x4_1 p166 q166
           obtain rfl : ad163 = ad166 := (by injection e166)
           replace hx166_0 := (HB.out.cell (World.block_lt_of_cell? w _ hx166_0)).trans hx166_0
           replace hx166_1 := (HB.out.cell (World.block_lt_of_cell? w _ hx166_1)).trans hx166_1
           replace p166 := eq_true p166
           replace q166 := eq_true q166
           go_wp2_with (first | ((with_reducible refine gate_callee (f := 14) rfl ?_); refine goesL_ (some 35) rfl rfl Try.func14 (by kernel_rfl) rfl #[.int .i64 ((rd_T38 l0 x4_1).f0)] rfl agx ?_; (with_reducible refine (levyref17_Whole.calls ((rd_T38 l0 x4_1).f0) t167 _ A10.out).mono ?_); rintro e w' ⟨rfl, ⟨nd, rfl⟩⟩; refine ⟨_, rfl, ?_⟩; have p168 : 0 ≤ (x4_1 : Int) := odx; have q168 : x4_1 < (l0.length : Int) := odx; obtain ⟨ad168, e168, hx168_0, hx168_1⟩ := at_T38 HR0.out x4_1 p168 q168; obtain rfl : ad163 = ad168 := (by injection e168); replace hx168_0 := (HB.out.cell (World.block_lt_of_cell? w _ hx168_0)).trans hx168_0; replace hx168_1 := (HB.out.cell (World.block_lt_of_cell? w _ hx168_1)).trans hx168_1; replace p168 := eq_true p168; replace q168 := eq_true q168) | ((with_reducible refine gate_callee (f := 57) rfl ?_); refine goesL_ (some 42) rfl rfl Try.func57 (by kernel_rfl) rfl #[.int .u32 ((rd_T38 l0 x4_1).f1), .int .u32 t167] rfl agx ?_; (with_reducible refine (levyref17_Div.calls kj4 ((rd_T38 l0 x4_1).f1) t167 t169 _ A11.out).mono ?_); rintro e w' ⟨rfl, ⟨nd, rfl⟩⟩; refine ⟨_, rfl, ?_⟩; have p170 : 0 ≤ (x4_1 : Int) := odx; have q170 : x4_1 < (l0.length : Int) := odx; obtain ⟨ad170, e170, hx170_0, hx170_1⟩ := at_T38 HR0.out x4_1 p170 q170; obtain rfl : ad163 = ad170 := (by injection e170); replace hx170_0 := (HB.out.cell (World.block_lt_of_cell? w _ hx170_0)).trans hx170_0; replace hx170_1 := (HB.out.cell (World.block_lt_of_cell? w _ hx170_1)).trans hx170_1; replace p170 := eq_true p170; replace q170 := eq_true q170) | ((with_reducible refine gate_builtin (b := .append) (xs := #[.tmp 43, .tmp 51]) rfl ?_); at_builtin; refine Kd.R_append k38 (w0 := w) w.heap.size rfl (.tmp 43) (.tmp 51) 27 38 (.agg #[(.int .i64 0), (.int .u32 0)]) 16 rfl Try.underlying27 info38 rfl (by decide) (by omega) u3 x3_1 (⟨(rd_T38 l0 x4_1).f0, t169⟩ : S38) [.int .i64 ((rd_T38 l0 x4_1).f0), .int .u32 t169] (fun _ => True) (fun _ => False) rfl rfl ?aP (fun _ hk => hk.elim) ?aF ?aO ?aB ?aS ?aL ?_; (case aP => exact k38_mkM _ _ _ (⟨(rd_T38 l0 x4_1).f0, t169⟩ : S38)); (case aB => exact blx); (case aF => exact (fun _ _ => trivial)); (case aO => exact (by (with_reducible repeat (first | apply Kd.R_alloc | apply Kd.R_drewN | apply Kd.R_drew)); exact HO_3.out)); (case aS => exact (below_size blx)); (case aL => have := LMc12.out; omega); intro v172 w13 ho hb hg hat; rw [← Ny171.out] at ho; have n0_ := Aside0.mk (hb); have n1_ := Aside0.mk (ho); clear HB; clear HO_3; have HB := n0_; have HO173 := n1_; clear n0_ n1_; clear ho hb hg hat))
           go_roundg kj4
           case measure => have := HK1.out; have := HJ4.out; omega
           case rel => exact ⟨(y171), (wrap64 (x4_1 + 1)), (by first | rfl | (simp; done) | (simp [*]; done)), H', ⟨by have := HK1.out; have := HJ4.out; omega⟩, ⟨by (with_reducible repeat (first | apply Kd.R_alloc | apply Kd.R_drewN | apply Kd.R_drew)); exact HO173.out⟩, ⟨blx⟩⟩
          ·rw [if_neg c12] at H
           exact absurd H (by simp)
         ·rw [if_neg c9] at H
          exact absurd H (by simp)
        ·rw [if_neg c8] at H
         exact absurd H (by simp)
    ·rw [if_neg c3] at H
     exact absurd H (by simp)
   ·rw [if_neg c2] at H
    have c2b0 : decide (x4_1 < (l0.length : Int)) = false := decide_eq_false c2
    clear c2
    obtain rfl := Option.some.inj H
    go_wp2
    go_ret
    exact ⟨_, by first | rfl | (simp [errW_none, errW_some] <;> rfl) | (simp [*, errW_none, errW_some] <;> rfl), by (with_reducible repeat (first | apply Kd.R_alloc | apply Kd.R_drewN | apply Kd.R_drew)); exact HO_3.out, blx⟩
end Go.Proofs.Ytfhgomcfpmbhnaa.PS
end

section
namespace Go.Proofs.Ytfhgomcfpmbhnaa.PS
open Go.RowKit Go.Proofs.YtfhgomcfpmbhnaaW.PrintWords Go.Proofs.YtfhgomcfpmbhnaaW.PrintLast Go.Proofs.YtfhgomcfpmbhnaaW.PrintMore
attribute [local go_sem] frun_add frun_sub frun_mul frun_quo frun_neg frun_of frun_same frun_store frun_bits frun_from
attribute [local go_sem] max2_int min2_int max_two min_two max_three min_three max_four min_four
set_option linter.unusedVariables false
set_option linter.unusedSimpArgs false
def levyref17_Slope.l0 : Nat → List (S38) → List (S38) → Int → Option ((List (S38)) × Int)
 | 0, _, _, _ => none
 | k + 1, x0, x5, x6 => if x6 < (x0.length : Int) then (if 0 ≤ x6 then (if 0 ≤ (wrap64 (x6 - 1)) then (if (wrap64 (x6 - 1)) < (x0.length : Int) then ((levyref17_Sub.f k ((rd_T38 x0 x6).f1) ((rd_T38 x0 (wrap64 (x6 - 1))).f1)).bind fun t177 => ((levyref17_Whole.f (wrap64 (((rd_T38 x0 x6).f0) - ((rd_T38 x0 (wrap64 (x6 - 1))).f0)))).bind fun t180 => ((levyref17_Div.f k t177 t180).bind fun t181 => (if x5.length < 8796093022208 then (levyref17_Slope.l0 k x0 (x5 ++ [(⟨(rd_T38 x0 (wrap64 (x6 - 1))).f0, t181⟩ : S38)]) (wrap64 (x6 + 1))) else (none))))) else (none)) else (none)) else (none)) else (some (x5, 0))
def levyref17_Slope.f (k : Nat) (l0 : List (S38)) : Option ((List (S38)) × Int) := (levyref17_Ordered.f k l0).bind fun t174 => (if t174 = true then (levyref17_Slope.l0 k l0 ([] : List (S38)) 1) else (some (([] : List (S38)), 172)))
theorem levyref17_Slope.mono_l : ∀ k, (∀ y0 y1 y2, LeO (levyref17_Slope.l0 k y0 y1 y2) (levyref17_Slope.l0 (k + 1) y0 y1 y2))
 | 0 => fun _ _ _ r h => by simp [levyref17_Slope.l0] at h
 | k + 1 => by
  have ih0 := levyref17_Slope.mono_l k
  ·intro y0 y1 y2
   unfold levyref17_Slope.l0
   repeat' first
   | (with_reducible exact ih0 _ _ _)
   | (with_reducible exact levyref17_Div.mono _ _ _)
   | (with_reducible exact levyref17_Ordered.mono _ _)
   | (with_reducible exact levyref17_Sub.mono _ _ _)
   | (with_reducible exact LeO.refl _)
   | (with_reducible exact LeO.none _)
   | (with_reducible refine LeO.ite ?_ ?_)
   | (with_reducible refine LeO.bind ?_ (fun _ => ?_))
   | exact ih0 _ _ _
   | exact levyref17_Div.mono _ _ _
   | exact levyref17_Ordered.mono _ _
   | exact levyref17_Sub.mono _ _ _
   | exact LeO.none _
   | refine LeO.ite ?_ ?_
   | refine LeO.bind ?_ (fun _ => ?_)
theorem levyref17_Slope.mono : ∀ a0 k, LeO (levyref17_Slope.f k a0) (levyref17_Slope.f (k + 1) a0) := by
 intro a0 k
 have ih0 := levyref17_Slope.mono_l k
 unfold levyref17_Slope.f
 repeat' first
   | (with_reducible exact ih0 _ _ _)
   | (with_reducible exact levyref17_Div.mono _ _ _)
   | (with_reducible exact levyref17_Ordered.mono _ _)
   | (with_reducible exact levyref17_Sub.mono _ _ _)
   | (with_reducible exact LeO.refl _)
   | (with_reducible exact LeO.none _)
   | (with_reducible refine LeO.ite ?_ ?_)
   | (with_reducible refine LeO.bind ?_ (fun _ => ?_))
   | exact ih0 _ _ _
   | exact levyref17_Div.mono _ _ _
   | exact levyref17_Ordered.mono _ _
   | exact levyref17_Sub.mono _ _ _
   | exact LeO.none _
   | refine LeO.ite ?_ ?_
   | refine LeO.bind ?_ (fun _ => ?_)
set_option maxHeartbeats 8000000 in
set_option maxRecDepth 100000 in
theorem levyref17_Slope.calls (k : Nat) (A0 : Option Addr) (c0 : Nat) (l0 : List (S38)) (r1 : List (S38)) (r2 : Int) (w : World) (hr0 : Kd.C k38 w A0 l0.length l0) (hc0 : l0.length ≤ c0) (h : levyref17_Slope.f k l0 = some (r1, r2)) :
  Calls Try.prog 43 #[.slice A0 l0.length c0] w fun e w' => ∃ v0_ : Value, e = .returned (.tuple #[v0_, .int .i64 r2]) ∧ Kd.R k38 38 w' w.heap.size (fun _ => True) v0_ r1 ∧ Below w.heap.size w w' := by
 have hu38 := Try.underlying38
 have HR0 := Aside0.mk hr0
 have HC0 := Aside0.mk hc0
 clear hr0 hc0
 have HB := Aside0.mk (Below.refl w.heap.size w)
 have H : ((levyref17_Ordered.f k l0).bind fun t174 => (if t174 = true then (levyref17_Slope.l0 k l0 ([] : List (S38)) 1) else (some (([] : List (S38)), 172)))) = some (r1, r2) := h
 clear h
 replace H := Option.bind_eq_some_iff.mp H
 obtain ⟨t174, A20, H⟩ := H
 replace H : (if t174 = true then (levyref17_Slope.l0 k l0 ([] : List (S38)) 1) else (some (([] : List (S38)), 172))) = some (r1, r2) := H
 have A2 := Aside0.mk A20
 clear A20
 by_cases c3 : t174 = true
 ·subst c3
  have H1 : (levyref17_Slope.l0 k l0 ([] : List (S38)) 1) = some (r1, r2) := by rw [if_pos rfl] at H; exact H
  clear H
  have H := H1
  clear H1
  have H' := Aside0.mk H
  clear H
  go_enter Try.func43, Try.ntmps43
  go_wp2_with (first | (go_at_call 55; (with_reducible refine (levyref17_Ordered.calls k _ _ l0 true _ ?side1 ?side2 A2.out).mono ?_); (case side1 => repeat (first | exact HR0.out | (with_reducible refine Kd.C_alloc ?_ _) | (with_reducible refine Kd.C_drewN ?_ _) | (with_reducible refine Kd.C_drew ?_))); (case side2 => exact HC0.out); rintro e w' ⟨rfl, ⟨nd, rfl⟩⟩; (try first | exact ⟨rfl, _, World.drewN_drewN _ _ _⟩ | exact ⟨rfl, _, Eq.trans (World.drewN_drewN _ _ _) (congrArg (World.drewN _) (Nat.add_assoc _ _ _))⟩)))
  repeat (go_quiet (first | (go_at_call 55; (with_reducible refine (levyref17_Ordered.calls k _ _ l0 true _ ?side1 ?side2 A2.out).mono ?_); (case side1 => repeat (first | exact HR0.out | (with_reducible refine Kd.C_alloc ?_ _) | (with_reducible refine Kd.C_drewN ?_ _) | (with_reducible refine Kd.C_drew ?_))); (case side2 => exact HC0.out); rintro e w' ⟨rfl, ⟨nd, rfl⟩⟩; (try first | exact ⟨rfl, _, World.drewN_drewN _ _ _⟩ | exact ⟨rfl, _, Eq.trans (World.drewN_drewN _ _ _) (congrArg (World.drewN _) (Nat.add_assoc _ _ _))⟩))); try go_wp2_with (first | (go_at_call 55; (with_reducible refine (levyref17_Ordered.calls k _ _ l0 true _ ?side1 ?side2 A2.out).mono ?_); (case side1 => repeat (first | exact HR0.out | (with_reducible refine Kd.C_alloc ?_ _) | (with_reducible refine Kd.C_drewN ?_ _) | (with_reducible refine Kd.C_drew ?_))); (case side2 => exact HC0.out); rintro e w' ⟨rfl, ⟨nd, rfl⟩⟩; (try first | exact ⟨rfl, _, World.drewN_drewN _ _ _⟩ | exact ⟨rfl, _, Eq.trans (World.drewN_drewN _ _ _) (congrArg (World.drewN _) (Nat.add_assoc _ _ _))⟩))))
  go_loopg [5, 6] k (fun kq v5 v6 w' => ∃ (x5_1 : List (S38)) (x6_1 : Int), v6 = .int .i64 x6_1 ∧ Aside0 (levyref17_Slope.l0 kq l0 x5_1 x6_1 = some (r1, r2)) ∧ Aside0 (kq ≤ k) ∧ Aside0 (Kd.R k38 38 w' w.heap.size (fun _ => True) v5 x5_1) ∧ Aside0 (Below w.heap.size w w'))
  case atStart => exact ⟨(([] : List (S38))), (1), (by first | rfl | (simp; done) | (simp [*]; done)), H', ⟨Nat.le_refl _⟩, ⟨by first | exact Kd.R_nil _ _ _ _ _ | exact Kd.N_nil _ _ _ _ _ | exact Kd.V_nil _ _ _ _ _ | exact Kd.Q_nil _ _ _ _ _ | exact Kd.S_nil _ _ _ _ _⟩, ⟨blx⟩⟩
  case round =>
   clear H'
   try clear p2
   try clear c3
   obtain ⟨x5_1, x6_1, rfl, HA, HK1, HO_5, HB⟩ := hrel
   cases gk with
   | zero => exact absurd HA.out (by simp [levyref17_Slope.l0])
   | succ k1 =>
    have H := HA.out
    clear HA
    simp only [levyref17_Slope.l0] at H
    by_cases c4 : x6_1 < (l0.length : Int)
    ·rw [if_pos c4] at H
     have c4b0 : decide (x6_1 < (l0.length : Int)) = true := decide_eq_true c4
     clear c4
     by_cases c5 : 0 ≤ x6_1
     ·rw [if_pos c5] at H
      have c5b0 : decide (0 ≤ x6_1) = true := decide_eq_true c5
      clear c5
      obtain ⟨ji6, hji6⟩ : ∃ j_ : Int, (wrap64 (x6_1 - 1)) = j_ := ⟨_, rfl⟩
      replace H : (if 0 ≤ (ji6) then (if (ji6) < (l0.length : Int) then ((levyref17_Sub.f k1 ((rd_T38 l0 x6_1).f1) ((rd_T38 l0 (ji6)).f1)).bind fun t177 => ((levyref17_Whole.f (wrap64 (((rd_T38 l0 x6_1).f0) - ((rd_T38 l0 (ji6)).f0)))).bind fun t180 => ((levyref17_Div.f k1 t177 t180).bind fun t181 => (if x5_1.length < 8796093022208 then (levyref17_Slope.l0 k1 l0 (x5_1 ++ [(⟨(rd_T38 l0 (ji6)).f0, t181⟩ : S38)]) (wrap64 (x6_1 + 1))) else (none))))) else (none)) else (none)) = some (r1, r2) := by first | (rw [hji6] at H; exact H) | (simp only [hji6] at H ⊢; exact H)
      have hji6w : (IntKind.i64.wrap (x6_1 - 1)) = ji6 := (i64_w _).trans hji6
      by_cases c7 : 0 ≤ (ji6)
      ·rw [if_pos c7] at H
       have c7b0 : decide (0 ≤ (ji6)) = true := decide_eq_true c7
       clear c7
       by_cases c8 : (ji6) < (l0.length : Int)
       ·rw [if_pos c8] at H
        have c8b0 : decide ((ji6) < (l0.length : Int)) = true := decide_eq_true c8
        clear c8
        replace H := Option.bind_eq_some_iff.mp H
        obtain ⟨t177, A90, H⟩ := H
        replace H : ((levyref17_Whole.f (wrap64 (((rd_T38 l0 x6_1).f0) - ((rd_T38 l0 (ji6)).f0)))).bind fun t180 => ((levyref17_Div.f k1 t177 t180).bind fun t181 => (if x5_1.length < 8796093022208 then (levyref17_Slope.l0 k1 l0 (x5_1 ++ [(⟨(rd_T38 l0 (ji6)).f0, t181⟩ : S38)]) (wrap64 (x6_1 + 1))) else (none)))) = some (r1, r2) := H
        have A9 := Aside0.mk A90
        clear A90
        replace H := Option.bind_eq_some_iff.mp H
        obtain ⟨t180, A100, H⟩ := H
        replace H : ((levyref17_Div.f k1 t177 t180).bind fun t181 => (if x5_1.length < 8796093022208 then (levyref17_Slope.l0 k1 l0 (x5_1 ++ [(⟨(rd_T38 l0 (ji6)).f0, t181⟩ : S38)]) (wrap64 (x6_1 + 1))) else (none))) = some (r1, r2) := H
        have A10 := Aside0.mk A100
        clear A100
        replace H := Option.bind_eq_some_iff.mp H
        obtain ⟨t181, A110, H⟩ := H
        replace H : (if x5_1.length < 8796093022208 then (levyref17_Slope.l0 k1 l0 (x5_1 ++ [(⟨(rd_T38 l0 (ji6)).f0, t181⟩ : S38)]) (wrap64 (x6_1 + 1))) else (none)) = some (r1, r2) := H
        have A11 := Aside0.mk A110
        clear A110
        by_cases c12 : x5_1.length < 8796093022208
        ·rw [if_pos c12] at H
         have LMc12 := Aside0.mk c12
         clear c12
         obtain ⟨y183, hy183⟩ : ∃ y_ : List (S38), y_ = (x5_1 ++ [(⟨(rd_T38 l0 (ji6)).f0, t181⟩ : S38)]) := ⟨_, rfl⟩
         replace H : (levyref17_Slope.l0 k1 l0 y183 (wrap64 (x6_1 + 1))) = some (r1, r2) := by first | (rw [hy183]; with_reducible exact H) | (have H2_ := (Option.bind_some _ _).symm.trans H; rw [hy183]; with_reducible exact H2_) | (have H2_ := (Option.bind_some _ _).symm.trans H; with_reducible exact H2_) | with_reducible exact H | (rw [hy183]; exact H) | exact H
         have Ny183 := Aside0.mk hy183
         clear hy183
         have H' := Aside0.mk H
         clear H
         have p175 : 0 ≤ (x6_1 : Int) := odx
         have q175 : x6_1 < (l0.length : Int) := odx
         obtain ⟨ad175, e175, hx175_0, hx175_1⟩ := at_T38 HR0.out x6_1 p175 q175
         cases e175
         replace hx175_0 := (HB.out.cell (World.block_lt_of_cell? w _ hx175_0)).trans hx175_0
         replace hx175_1 := (HB.out.cell (World.block_lt_of_cell? w _ hx175_1)).trans hx175_1
         replace p175 := eq_true p175
         replace q175 := eq_true q175
         have p176 : 0 ≤ ((ji6) : Int) := odx
         have q176 : (ji6) < (l0.length : Int) := odx
         obtain ⟨ad176, e176, hx176_0, hx176_1⟩ := at_T38 HR0.out (ji6) p176 q176
         obtain rfl : ad175 = ad176 := (by injection e176)
         replace hx176_0 := (HB.out.cell (World.block_lt_of_cell? w _ hx176_0)).trans hx176_0
         replace hx176_1 := (HB.out.cell (World.block_lt_of_cell? w _ hx176_1)).trans hx176_1
         replace p176 := eq_true p176
         replace q176 := eq_true q176
         go_wp2_with (first | (go_at_call 56; (with_reducible refine (levyref17_Sub.calls k1 ((rd_T38 l0 x6_1).f1) ((rd_T38 l0 (ji6)).f1) t177 _ A9.out).mono ?_); rintro e w' ⟨rfl, ⟨nd, rfl⟩⟩; (try first | exact ⟨rfl, _, World.drewN_drewN _ _ _⟩ | exact ⟨rfl, _, Eq.trans (World.drewN_drewN _ _ _) (congrArg (World.drewN _) (Nat.add_assoc _ _ _))⟩); have p178 : 0 ≤ (x6_1 : Int) := odx; have q178 : x6_1 < (l0.length : Int) := odx; obtain ⟨ad178, e178, hx178_0, hx178_1⟩ := at_T38 HR0.out x6_1 p178 q178; obtain rfl : ad175 = ad178 := (by injection e178); replace hx178_0 := (HB.out.cell (World.block_lt_of_cell? w _ hx178_0)).trans hx178_0; replace hx178_1 := (HB.out.cell (World.block_lt_of_cell? w _ hx178_1)).trans hx178_1; replace p178 := eq_true p178; replace q178 := eq_true q178; have p179 : 0 ≤ ((ji6) : Int) := odx; have q179 : (ji6) < (l0.length : Int) := odx; obtain ⟨ad179, e179, hx179_0, hx179_1⟩ := at_T38 HR0.out (ji6) p179 q179; obtain rfl : ad175 = ad179 := (by injection e179); replace hx179_0 := (HB.out.cell (World.block_lt_of_cell? w _ hx179_0)).trans hx179_0; replace hx179_1 := (HB.out.cell (World.block_lt_of_cell? w _ hx179_1)).trans hx179_1; replace p179 := eq_true p179; replace q179 := eq_true q179) | (go_at_call 14; (with_reducible refine (levyref17_Whole.calls (wrap64 (((rd_T38 l0 x6_1).f0) - ((rd_T38 l0 (ji6)).f0))) t180 _ A10.out).mono ?_); rintro e w' ⟨rfl, ⟨nd, rfl⟩⟩; (try first | exact ⟨rfl, _, World.drewN_drewN _ _ _⟩ | exact ⟨rfl, _, Eq.trans (World.drewN_drewN _ _ _) (congrArg (World.drewN _) (Nat.add_assoc _ _ _))⟩)) | (go_at_call 57; (with_reducible refine (levyref17_Div.calls k1 t177 t180 t181 _ A11.out).mono ?_); rintro e w' ⟨rfl, ⟨nd, rfl⟩⟩; (try first | exact ⟨rfl, _, World.drewN_drewN _ _ _⟩ | exact ⟨rfl, _, Eq.trans (World.drewN_drewN _ _ _) (congrArg (World.drewN _) (Nat.add_assoc _ _ _))⟩); have p182 : 0 ≤ ((ji6) : Int) := odx; have q182 : (ji6) < (l0.length : Int) := odx; obtain ⟨ad182, e182, hx182_0, hx182_1⟩ := at_T38 HR0.out (ji6) p182 q182; obtain rfl : ad175 = ad182 := (by injection e182); replace hx182_0 := (HB.out.cell (World.block_lt_of_cell? w _ hx182_0)).trans hx182_0; replace hx182_1 := (HB.out.cell (World.block_lt_of_cell? w _ hx182_1)).trans hx182_1; replace p182 := eq_true p182; replace q182 := eq_true q182) | ((with_reducible refine gate_builtin (b := .append) (xs := #[.tmp 48, .tmp 57]) rfl ?_); at_builtin; refine Kd.R_append k38 (w0 := w) w.heap.size rfl (.tmp 48) (.tmp 57) 27 38 (.agg #[(.int .i64 0), (.int .u32 0)]) 16 rfl Try.underlying27 info38 rfl (by decide) (by omega) u5 x5_1 (⟨(rd_T38 l0 (ji6)).f0, t181⟩ : S38) [.int .i64 ((rd_T38 l0 (ji6)).f0), .int .u32 t181] (fun _ => True) (fun _ => False) rfl rfl ?aP (fun _ hk => hk.elim) ?aF ?aO ?aB ?aS ?aL ?_; (case aP => exact k38_mkM _ _ _ (⟨(rd_T38 l0 (ji6)).f0, t181⟩ : S38)); (case aB => exact blx); (case aF => exact (fun _ _ => trivial)); (case aO => exact (by (with_reducible repeat (first | apply Kd.R_alloc | apply Kd.R_drewN | apply Kd.R_drew)); exact HO_5.out)); (case aS => exact (below_size blx)); (case aL => have := LMc12.out; omega); intro v184 w13 ho hb hg hat; rw [← Ny183.out] at ho; have n0_ := Aside0.mk (hb); have n1_ := Aside0.mk (ho); clear HB; clear HO_5; have HB := n0_; have HO185 := n1_; clear n0_ n1_; clear ho hb hg hat))
         repeat (go_quiet (first | (go_at_call 56; (with_reducible refine (levyref17_Sub.calls k1 ((rd_T38 l0 x6_1).f1) ((rd_T38 l0 (ji6)).f1) t177 _ A9.out).mono ?_); rintro e w' ⟨rfl, ⟨nd, rfl⟩⟩; (try first | exact ⟨rfl, _, World.drewN_drewN _ _ _⟩ | exact ⟨rfl, _, Eq.trans (World.drewN_drewN _ _ _) (congrArg (World.drewN _) (Nat.add_assoc _ _ _))⟩); have p178 : 0 ≤ (x6_1 : Int) := odx; have q178 : x6_1 < (l0.length : Int) := odx; obtain ⟨ad178, e178, hx178_0, hx178_1⟩ := at_T38 HR0.out x6_1 p178 q178; obtain rfl : ad175 = ad178 := (by injection e178); replace hx178_0 := (HB.out.cell (World.block_lt_of_cell? w _ hx178_0)).trans hx178_0; replace hx178_1 := (HB.out.cell (World.block_lt_of_cell? w _ hx178_1)).trans hx178_1; replace p178 := eq_true p178; replace q178 := eq_true q178; have p179 : 0 ≤ ((ji6) : Int) := odx; have q179 : (ji6) < (l0.length : Int) := odx; obtain ⟨ad179, e179, hx179_0, hx179_1⟩ := at_T38 HR0.out (ji6) p179 q179; obtain rfl : ad175 = ad179 := (by injection e179); replace hx179_0 := (HB.out.cell (World.block_lt_of_cell? w _ hx179_0)).trans hx179_0; replace hx179_1 := (HB.out.cell (World.block_lt_of_cell? w _ hx179_1)).trans hx179_1; replace p179 := eq_true p179; replace q179 := eq_true q179) | (go_at_call 14; (with_reducible refine (levyref17_Whole.calls (wrap64 (((rd_T38 l0 x6_1).f0) - ((rd_T38 l0 (ji6)).f0))) t180 _ A10.out).mono ?_); rintro e w' ⟨rfl, ⟨nd, rfl⟩⟩; (try first | exact ⟨rfl, _, World.drewN_drewN _ _ _⟩ | exact ⟨rfl, _, Eq.trans (World.drewN_drewN _ _ _) (congrArg (World.drewN _) (Nat.add_assoc _ _ _))⟩)) | (go_at_call 57; (with_reducible refine (levyref17_Div.calls k1 t177 t180 t181 _ A11.out).mono ?_); rintro e w' ⟨rfl, ⟨nd, rfl⟩⟩; (try first | exact ⟨rfl, _, World.drewN_drewN _ _ _⟩ | exact ⟨rfl, _, Eq.trans (World.drewN_drewN _ _ _) (congrArg (World.drewN _) (Nat.add_assoc _ _ _))⟩); have p182 : 0 ≤ ((ji6) : Int) := odx; have q182 : (ji6) < (l0.length : Int) := odx; obtain ⟨ad182, e182, hx182_0, hx182_1⟩ := at_T38 HR0.out (ji6) p182 q182; obtain rfl : ad175 = ad182 := (by injection e182); replace hx182_0 := (HB.out.cell (World.block_lt_of_cell? w _ hx182_0)).trans hx182_0; replace hx182_1 := (HB.out.cell (World.block_lt_of_cell? w _ hx182_1)).trans hx182_1; replace p182 := eq_true p182; replace q182 := eq_true q182) | ((with_reducible refine gate_builtin (b := .append) (xs := #[.tmp 48, .tmp 57]) rfl ?_); at_builtin; refine Kd.R_append k38 (w0 := w) w.heap.size rfl (.tmp 48) (.tmp 57) 27 38 (.agg #[(.int .i64 0), (.int .u32 0)]) 16 rfl Try.underlying27 info38 rfl (by decide) (by omega) u5 x5_1 (⟨(rd_T38 l0 (ji6)).f0, t181⟩ : S38) [.int .i64 ((rd_T38 l0 (ji6)).f0), .int .u32 t181] (fun _ => True) (fun _ => False) rfl rfl ?aP (fun _ hk => hk.elim) ?aF ?aO ?aB ?aS ?aL ?_; (case aP => exact k38_mkM _ _ _ (⟨(rd_T38 l0 (ji6)).f0, t181⟩ : S38)); (case aB => exact blx); (case aF => exact (fun _ _ => trivial)); (case aO => exact (by (with_reducible repeat (first | apply Kd.R_alloc | apply Kd.R_drewN | apply Kd.R_drew)); exact HO_5.out)); (case aS => exact (below_size blx)); (case aL => have := LMc12.out; omega); intro v184 w13 ho hb hg hat; rw [← Ny183.out] at ho; have n0_ := Aside0.mk (hb); have n1_ := Aside0.mk (ho); clear HB; clear HO_5; have HB := n0_; have HO185 := n1_; clear n0_ n1_; clear ho hb hg hat)); try go_wp2_with (first | (go_at_call 56; (with_reducible refine (levyref17_Sub.calls k1 ((rd_T38 l0 x6_1).f1) ((rd_T38 l0 (ji6)).f1) t177 _ A9.out).mono ?_); rintro e w' ⟨rfl, ⟨nd, rfl⟩⟩; (try first | exact ⟨rfl, _, World.drewN_drewN _ _ _⟩ | exact ⟨rfl, _, Eq.trans (World.drewN_drewN _ _ _) (congrArg (World.drewN _) (Nat.add_assoc _ _ _))⟩); have p178 : 0 ≤ (x6_1 : Int) := odx; have q178 : x6_1 < (l0.length : Int) := odx; obtain ⟨ad178, e178, hx178_0, hx178_1⟩ := at_T38 HR0.out x6_1 p178 q178; obtain rfl : ad175 = ad178 := (by injection e178); replace hx178_0 := (HB.out.cell (World.block_lt_of_cell? w _ hx178_0)).trans hx178_0; replace hx178_1 := (HB.out.cell (World.block_lt_of_cell? w _ hx178_1)).trans hx178_1; replace p178 := eq_true p178; replace q178 := eq_true q178; have p179 : 0 ≤ ((ji6) : Int) := odx; have q179 : (ji6) < (l0.length : Int) := odx; obtain ⟨ad179, e179, hx179_0, hx179_1⟩ := at_T38 HR0.out (ji6) p179 q179; obtain rfl : ad175 = ad179 := (by injection e179); replace hx179_0 := (HB.out.cell (World.block_lt_of_cell? w _ hx179_0)).trans hx179_0; replace hx179_1 := (HB.out.cell (World.block_lt_of_cell? w _ hx179_1)).trans hx179_1; replace p179 := eq_true p179; replace q179 := eq_true q179) | (go_at_call 14; (with_reducible refine (levyref17_Whole.calls (wrap64 (((rd_T38 l0 x6_1).f0) - ((rd_T38 l0 (ji6)).f0))) t180 _ A10.out).mono ?_); rintro e w' ⟨rfl, ⟨nd, rfl⟩⟩; (try first | exact ⟨rfl, _, World.drewN_drewN _ _ _⟩ | exact ⟨rfl, _, Eq.trans (World.drewN_drewN _ _ _) (congrArg (World.drewN _) (Nat.add_assoc _ _ _))⟩)) | (go_at_call 57; (with_reducible refine (levyref17_Div.calls k1 t177 t180 t181 _ A11.out).mono ?_); rintro e w' ⟨rfl, ⟨nd, rfl⟩⟩; (try first | exact ⟨rfl, _, World.drewN_drewN _ _ _⟩ | exact ⟨rfl, _, Eq.trans (World.drewN_drewN _ _ _) (congrArg (World.drewN _) (Nat.add_assoc _ _ _))⟩); have p182 : 0 ≤ ((ji6) : Int) := odx; have q182 : (ji6) < (l0.length : Int) := odx; obtain ⟨ad182, e182, hx182_0, hx182_1⟩ := at_T38 HR0.out (ji6) p182 q182; obtain rfl : ad175 = ad182 := (by injection e182); replace hx182_0 := (HB.out.cell (World.block_lt_of_cell? w _ hx182_0)).trans hx182_0; replace hx182_1 := (HB.out.cell (World.block_lt_of_cell? w _ hx182_1)).trans hx182_1; replace p182 := eq_true p182; replace q182 := eq_true q182) | ((with_reducible refine gate_builtin (b := .append) (xs := #[.tmp 48, .tmp 57]) rfl ?_); at_builtin; refine Kd.R_append k38 (w0 := w) w.heap.size rfl (.tmp 48) (.tmp 57) 27 38 (.agg #[(.int .i64 0), (.int .u32 0)]) 16 rfl Try.underlying27 info38 rfl (by decide) (by omega) u5 x5_1 (⟨(rd_T38 l0 (ji6)).f0, t181⟩ : S38) [.int .i64 ((rd_T38 l0 (ji6)).f0), .int .u32 t181] (fun _ => True) (fun _ => False) rfl rfl ?aP (fun _ hk => hk.elim) ?aF ?aO ?aB ?aS ?aL ?_; (case aP => exact k38_mkM _ _ _ (⟨(rd_T38 l0 (ji6)).f0, t181⟩ : S38)); (case aB => exact blx); (case aF => exact (fun _ _ => trivial)); (case aO => exact (by (with_reducible repeat (first | apply Kd.R_alloc | apply Kd.R_drewN | apply Kd.R_drew)); exact HO_5.out)); (case aS => exact (below_size blx)); (case aL => have := LMc12.out; omega); intro v184 w13 ho hb hg hat; rw [← Ny183.out] at ho; have n0_ := Aside0.mk (hb); have n1_ := Aside0.mk (ho); clear HB; clear HO_5; have HB := n0_; have HO185 := n1_; clear n0_ n1_; clear ho hb hg hat)))
         go_roundg k1
         case measure => have := HK1.out; omega
         case rel => exact ⟨(y183), (wrap64 (x6_1 + 1)), (by first | rfl | (simp; done) | (simp [*]; done)), H', ⟨by have := HK1.out; omega⟩, ⟨by (with_reducible repeat (first | apply Kd.R_alloc | apply Kd.R_drewN | apply Kd.R_drew)); exact HO185.out⟩, ⟨blx⟩⟩
        ·rw [if_neg c12] at H
         exact absurd H (by simp)
       ·rw [if_neg c8] at H
        exact absurd H (by simp)
      ·rw [if_neg c7] at H
       exact absurd H (by simp)
     ·rw [if_neg c5] at H
      exact absurd H (by simp)
    ·rw [if_neg c4] at H
     have c4b0 : decide (x6_1 < (l0.length : Int)) = false := decide_eq_false c4
     clear c4
     simp only [Option.some.injEq, Prod.mk.injEq] at H
     obtain ⟨rfl, rfl⟩ := H
     go_wp2
     repeat (go_quiet (fail); try go_wp2)
     go_ret2
     exact ⟨_, by first | rfl | (simp [errW_none, errW_some] <;> rfl) | (simp [*, errW_none, errW_some] <;> rfl), by (with_reducible repeat (first | apply Kd.R_alloc | apply Kd.R_drewN | apply Kd.R_drew)); exact HO_5.out, blx⟩
 ·replace c3 := Bool.eq_false_iff.mpr c3
  subst c3
  have H1 : (some (([] : List (S38)), 172)) = some (r1, r2) := by rw [if_neg (show ¬ (false = true) by decide)] at H; exact H
  clear H
  have H := H1
  clear H1
  simp only [Option.some.injEq, Prod.mk.injEq] at H
  obtain ⟨rfl, rfl⟩ := H
  go_enter Try.func43, Try.ntmps43
  go_wp2_with (first | (go_at_call 55; (with_reducible refine (levyref17_Ordered.calls k _ _ l0 false _ ?side1 ?side2 A2.out).mono ?_); (case side1 => repeat (first | exact HR0.out | (with_reducible refine Kd.C_alloc ?_ _) | (with_reducible refine Kd.C_drewN ?_ _) | (with_reducible refine Kd.C_drew ?_))); (case side2 => exact HC0.out); rintro e w' ⟨rfl, ⟨nd, rfl⟩⟩; (try first | exact ⟨rfl, _, World.drewN_drewN _ _ _⟩ | exact ⟨rfl, _, Eq.trans (World.drewN_drewN _ _ _) (congrArg (World.drewN _) (Nat.add_assoc _ _ _))⟩)))
  repeat (go_quiet (first | (go_at_call 55; (with_reducible refine (levyref17_Ordered.calls k _ _ l0 false _ ?side1 ?side2 A2.out).mono ?_); (case side1 => repeat (first | exact HR0.out | (with_reducible refine Kd.C_alloc ?_ _) | (with_reducible refine Kd.C_drewN ?_ _) | (with_reducible refine Kd.C_drew ?_))); (case side2 => exact HC0.out); rintro e w' ⟨rfl, ⟨nd, rfl⟩⟩; (try first | exact ⟨rfl, _, World.drewN_drewN _ _ _⟩ | exact ⟨rfl, _, Eq.trans (World.drewN_drewN _ _ _) (congrArg (World.drewN _) (Nat.add_assoc _ _ _))⟩))); try go_wp2_with (first | (go_at_call 55; (with_reducible refine (levyref17_Ordered.calls k _ _ l0 false _ ?side1 ?side2 A2.out).mono ?_); (case side1 => repeat (first | exact HR0.out | (with_reducible refine Kd.C_alloc ?_ _) | (with_reducible refine Kd.C_drewN ?_ _) | (with_reducible refine Kd.C_drew ?_))); (case side2 => exact HC0.out); rintro e w' ⟨rfl, ⟨nd, rfl⟩⟩; (try first | exact ⟨rfl, _, World.drewN_drewN _ _ _⟩ | exact ⟨rfl, _, Eq.trans (World.drewN_drewN _ _ _) (congrArg (World.drewN _) (Nat.add_assoc _ _ _))⟩))))
  go_ret2
  exact ⟨_, by first | rfl | (simp [errW_none, errW_some] <;> rfl) | (simp [*, errW_none, errW_some] <;> rfl), by first | exact Kd.R_nil _ _ _ _ _ | exact Kd.N_nil _ _ _ _ _ | exact Kd.V_nil _ _ _ _ _ | exact Kd.Q_nil _ _ _ _ _ | exact Kd.S_nil _ _ _ _ _, blx⟩
end Go.Proofs.Ytfhgomcfpmbhnaa.PS
end

section
namespace Go.Proofs.Ytfhgomcfpmbhnaa.PS
open Go.RowKit Go.Proofs.YtfhgomcfpmbhnaaW.PrintWords Go.Proofs.YtfhgomcfpmbhnaaW.PrintLast Go.Proofs.YtfhgomcfpmbhnaaW.PrintMore
attribute [local go_sem] frun_add frun_sub frun_mul frun_quo frun_neg frun_of frun_same frun_store frun_bits frun_from
attribute [local go_sem] max2_int min2_int max_two min_two max_three min_three max_four min_four
set_option linter.unusedVariables false
set_option linter.unusedSimpArgs false
def levylaw17_sameDots.l0 : Nat → List (S58) → List (S38) → Int → Option (Bool)
 | 0, _, _, _ => none
 | k + 1, x0, x1, x5 => if x5 < (x0.length : Int) then (if 0 ≤ x5 then (if x5 < (x1.length : Int) then (if ((rd_T58 x0 x5).f0) = ((rd_T38 x1 x5).f0) then ((levylaw17_near.f ((rd_T58 x0 x5).f1) ((rd_T38 x1 x5).f1)).bind fun t312 => (if t312 = true then (levylaw17_sameDots.l0 k x0 x1 (wrap64 (x5 + 1))) else (some false))) else (some false)) else (none)) else (none)) else (some true)
def levylaw17_sameDots.f (k : Nat) (l0 : List (S58)) (l1 : List (S38)) : Option (Bool) := if (l0.length : Int) = (l1.length : Int) then (levylaw17_sameDots.l0 k l0 l1 0) else (some false)
theorem levylaw17_sameDots.mono_l : ∀ k, (∀ y0 y1 y2, LeO (levylaw17_sameDots.l0 k y0 y1 y2) (levylaw17_sameDots.l0 (k + 1) y0 y1 y2))
 | 0 => fun _ _ _ r h => by simp [levylaw17_sameDots.l0] at h
 | k + 1 => by
  have ih0 := levylaw17_sameDots.mono_l k
  ·intro y0 y1 y2
   unfold levylaw17_sameDots.l0
   repeat' first
   | (with_reducible exact ih0 _ _ _)
   | (with_reducible exact LeO.refl _)
   | (with_reducible exact LeO.none _)
   | (with_reducible refine LeO.ite ?_ ?_)
   | (with_reducible refine LeO.bind ?_ (fun _ => ?_))
   | exact ih0 _ _ _
   | exact LeO.none _
   | refine LeO.ite ?_ ?_
   | refine LeO.bind ?_ (fun _ => ?_)
theorem levylaw17_sameDots.mono : ∀ a0 a1 k, LeO (levylaw17_sameDots.f k a0 a1) (levylaw17_sameDots.f (k + 1) a0 a1) := by
 intro a0 a1 k
 have ih0 := levylaw17_sameDots.mono_l k
 unfold levylaw17_sameDots.f
 repeat' first
   | (with_reducible exact ih0 _ _ _)
   | (with_reducible exact LeO.refl _)
   | (with_reducible exact LeO.none _)
   | (with_reducible refine LeO.ite ?_ ?_)
   | (with_reducible refine LeO.bind ?_ (fun _ => ?_))
   | exact ih0 _ _ _
   | exact LeO.none _
   | refine LeO.ite ?_ ?_
   | refine LeO.bind ?_ (fun _ => ?_)
set_option maxHeartbeats 8000000 in
set_option maxRecDepth 100000 in
theorem levylaw17_sameDots.calls (k : Nat) (A0 : Option Addr) (c0 : Nat) (l0 : List (S58)) (A1 : Option Addr) (c1 : Nat) (l1 : List (S38)) (r : Bool) (w : World) (hr0 : Kd.C k58 w A0 l0.length l0) (hc0 : l0.length ≤ c0) (hr1 : Kd.C k38 w A1 l1.length l1) (hc1 : l1.length ≤ c1) (h : levylaw17_sameDots.f k l0 l1 = some r) :
  Calls Try.prog 15 #[.slice A0 l0.length c0, .slice A1 l1.length c1] w fun e w' => e = .returned (.bool r) ∧ Drawn0 w w' := by
 have HR0 := Aside0.mk hr0
 have HC0 := Aside0.mk hc0
 clear hr0 hc0
 have HR1 := Aside0.mk hr1
 have HC1 := Aside0.mk hc1
 clear hr1 hc1
 have H : (if (l0.length : Int) = (l1.length : Int) then (levylaw17_sameDots.l0 k l0 l1 0) else (some false)) = some r := h
 clear h
 by_cases c3 : (l0.length : Int) = (l1.length : Int)
 ·rw [if_pos c3] at H
  have c3b0 : ((l0.length : Int) == (l1.length : Int)) = true := beq_iff_eq.mpr c3
  have c3b1 : ((l0.length : Int) != (l1.length : Int)) = false := bne_eq_false_iff_eq.mpr c3
  have c3b2 : (l0.length == l1.length) = true := by first | simpa using c3 | (simp at c3 ⊢; omega)
  clear c3
  have H' := Aside0.mk H
  clear H
  go_enter Try.func15, Try.ntmps15
  go_wp2
  repeat (go_quiet (fail); try go_wp2)
  go_loopg [5] k (fun kq v5 w' => ∃ (x5_1 : Int), v5 = .int .i64 x5_1 ∧ Aside0 (levylaw17_sameDots.l0 kq l0 l1 x5_1 = some r) ∧ Aside0 (kq ≤ k) ∧ Drawn0 w w')
  case atStart => exact ⟨(0), (by first | rfl | (simp; done) | (simp [*]; done)), H', ⟨Nat.le_refl _⟩, by repeat (first | exact Drawn0.refl _ | apply Drawn0.step)⟩
  case round =>
   clear H'
   try clear c1
   try clear p2
   try clear c3
   try clear c3b0
   try clear c3b1
   try clear c3b2
   obtain ⟨x5_1, rfl, HA, HK1, ⟨m1, rfl⟩⟩ := hrel
   cases gk with
   | zero => exact absurd HA.out (by simp [levylaw17_sameDots.l0])
   | succ k1 =>
    have H := HA.out
    clear HA
    simp only [levylaw17_sameDots.l0] at H
    by_cases c4 : x5_1 < (l0.length : Int)
    ·rw [if_pos c4] at H
     have c4b0 : decide (x5_1 < (l0.length : Int)) = true := decide_eq_true c4
     clear c4
     by_cases c5 : 0 ≤ x5_1
     ·rw [if_pos c5] at H
      have c5b0 : decide (0 ≤ x5_1) = true := decide_eq_true c5
      clear c5
      by_cases c6 : x5_1 < (l1.length : Int)
      ·rw [if_pos c6] at H
       have c6b0 : decide (x5_1 < (l1.length : Int)) = true := decide_eq_true c6
       clear c6
       by_cases c7 : ((rd_T58 l0 x5_1).f0) = ((rd_T38 l1 x5_1).f0)
       ·rw [if_pos c7] at H
        have c7b0 : (((rd_T58 l0 x5_1).f0) == ((rd_T38 l1 x5_1).f0)) = true := beq_iff_eq.mpr c7
        have c7b1 : (((rd_T58 l0 x5_1).f0) != ((rd_T38 l1 x5_1).f0)) = false := bne_eq_false_iff_eq.mpr c7
        clear c7
        replace H := Option.bind_eq_some_iff.mp H
        obtain ⟨t312, A80, H⟩ := H
        replace H : (if t312 = true then (levylaw17_sameDots.l0 k1 l0 l1 (wrap64 (x5_1 + 1))) else (some false)) = some r := H
        have A8 := Aside0.mk A80
        clear A80
        by_cases c9 : t312 = true
        ·subst c9
         have H1 : (levylaw17_sameDots.l0 k1 l0 l1 (wrap64 (x5_1 + 1))) = some r := by rw [if_pos rfl] at H; exact H
         clear H
         have H := H1
         clear H1
         have H' := Aside0.mk H
         clear H
         have p308 : 0 ≤ (x5_1 : Int) := odx
         have q308 : x5_1 < (l0.length : Int) := odx
         obtain ⟨ad308, e308, hx308_0, hx308_1⟩ := at_T58 HR0.out x5_1 p308 q308
         cases e308
         replace p308 := eq_true p308
         replace q308 := eq_true q308
         have p309 : 0 ≤ (x5_1 : Int) := odx
         have q309 : x5_1 < (l1.length : Int) := odx
         obtain ⟨ad309, e309, hx309_0, hx309_1⟩ := at_T38 HR1.out x5_1 p309 q309
         cases e309
         replace p309 := eq_true p309
         replace q309 := eq_true q309
         have p310 : 0 ≤ (x5_1 : Int) := odx
         have q310 : x5_1 < (l0.length : Int) := odx
         obtain ⟨ad310, e310, hx310_0, hx310_1⟩ := at_T58 HR0.out x5_1 p310 q310
         obtain rfl : ad308 = ad310 := (by injection e310)
         replace p310 := eq_true p310
         replace q310 := eq_true q310
         have p311 : 0 ≤ (x5_1 : Int) := odx
         have q311 : x5_1 < (l1.length : Int) := odx
         obtain ⟨ad311, e311, hx311_0, hx311_1⟩ := at_T38 HR1.out x5_1 p311 q311
         obtain rfl : ad309 = ad311 := (by injection e311)
         replace p311 := eq_true p311
         replace q311 := eq_true q311
         go_wp2_with (first | (go_at_call 35; (with_reducible refine (levylaw17_near.calls ((rd_T58 l0 x5_1).f1) ((rd_T38 l1 x5_1).f1) true _ A8.out).mono ?_); rintro e w' ⟨rfl, ⟨nd, rfl⟩⟩; (try first | exact ⟨rfl, _, World.drewN_drewN _ _ _⟩ | exact ⟨rfl, _, Eq.trans (World.drewN_drewN _ _ _) (congrArg (World.drewN _) (Nat.add_assoc _ _ _))⟩)))
         repeat (go_quiet (first | (go_at_call 35; (with_reducible refine (levylaw17_near.calls ((rd_T58 l0 x5_1).f1) ((rd_T38 l1 x5_1).f1) true _ A8.out).mono ?_); rintro e w' ⟨rfl, ⟨nd, rfl⟩⟩; (try first | exact ⟨rfl, _, World.drewN_drewN _ _ _⟩ | exact ⟨rfl, _, Eq.trans (World.drewN_drewN _ _ _) (congrArg (World.drewN _) (Nat.add_assoc _ _ _))⟩))); try go_wp2_with (first | (go_at_call 35; (with_reducible refine (levylaw17_near.calls ((rd_T58 l0 x5_1).f1) ((rd_T38 l1 x5_1).f1) true _ A8.out).mono ?_); rintro e w' ⟨rfl, ⟨nd, rfl⟩⟩; (try first | exact ⟨rfl, _, World.drewN_drewN _ _ _⟩ | exact ⟨rfl, _, Eq.trans (World.drewN_drewN _ _ _) (congrArg (World.drewN _) (Nat.add_assoc _ _ _))⟩))))
         go_roundg k1
         case measure => have := HK1.out; omega
         case rel => exact ⟨(wrap64 (x5_1 + 1)), (by first | rfl | (simp; done) | (simp [*]; done)), H', ⟨by have := HK1.out; omega⟩, by repeat (first | exact Drawn0.refl _ | apply Drawn0.step)⟩
        ·replace c9 := Bool.eq_false_iff.mpr c9
         subst c9
         have H1 : (some false) = some r := by rw [if_neg (show ¬ (false = true) by decide)] at H; exact H
         clear H
         have H := H1
         clear H1
         obtain rfl := Option.some.inj H
         have p308 : 0 ≤ (x5_1 : Int) := odx
         have q308 : x5_1 < (l0.length : Int) := odx
         obtain ⟨ad308, e308, hx308_0, hx308_1⟩ := at_T58 HR0.out x5_1 p308 q308
         cases e308
         replace p308 := eq_true p308
         replace q308 := eq_true q308
         have p309 : 0 ≤ (x5_1 : Int) := odx
         have q309 : x5_1 < (l1.length : Int) := odx
         obtain ⟨ad309, e309, hx309_0, hx309_1⟩ := at_T38 HR1.out x5_1 p309 q309
         cases e309
         replace p309 := eq_true p309
         replace q309 := eq_true q309
         have p310 : 0 ≤ (x5_1 : Int) := odx
         have q310 : x5_1 < (l0.length : Int) := odx
         obtain ⟨ad310, e310, hx310_0, hx310_1⟩ := at_T58 HR0.out x5_1 p310 q310
         obtain rfl : ad308 = ad310 := (by injection e310)
         replace p310 := eq_true p310
         replace q310 := eq_true q310
         have p311 : 0 ≤ (x5_1 : Int) := odx
         have q311 : x5_1 < (l1.length : Int) := odx
         obtain ⟨ad311, e311, hx311_0, hx311_1⟩ := at_T38 HR1.out x5_1 p311 q311
         obtain rfl : ad309 = ad311 := (by injection e311)
         replace p311 := eq_true p311
         replace q311 := eq_true q311
         go_wp2_with (first | (go_at_call 35; (with_reducible refine (levylaw17_near.calls ((rd_T58 l0 x5_1).f1) ((rd_T38 l1 x5_1).f1) false _ A8.out).mono ?_); rintro e w' ⟨rfl, ⟨nd, rfl⟩⟩; (try first | exact ⟨rfl, _, World.drewN_drewN _ _ _⟩ | exact ⟨rfl, _, Eq.trans (World.drewN_drewN _ _ _) (congrArg (World.drewN _) (Nat.add_assoc _ _ _))⟩)))
         repeat (go_quiet (first | (go_at_call 35; (with_reducible refine (levylaw17_near.calls ((rd_T58 l0 x5_1).f1) ((rd_T38 l1 x5_1).f1) false _ A8.out).mono ?_); rintro e w' ⟨rfl, ⟨nd, rfl⟩⟩; (try first | exact ⟨rfl, _, World.drewN_drewN _ _ _⟩ | exact ⟨rfl, _, Eq.trans (World.drewN_drewN _ _ _) (congrArg (World.drewN _) (Nat.add_assoc _ _ _))⟩))); try go_wp2_with (first | (go_at_call 35; (with_reducible refine (levylaw17_near.calls ((rd_T58 l0 x5_1).f1) ((rd_T38 l1 x5_1).f1) false _ A8.out).mono ?_); rintro e w' ⟨rfl, ⟨nd, rfl⟩⟩; (try first | exact ⟨rfl, _, World.drewN_drewN _ _ _⟩ | exact ⟨rfl, _, Eq.trans (World.drewN_drewN _ _ _) (congrArg (World.drewN _) (Nat.add_assoc _ _ _))⟩))))
         go_ret
         exact ⟨by first | rfl | (simp; done) | (simp [*]; done), by repeat (first | exact Drawn0.refl _ | apply Drawn0.step)⟩
       ·rw [if_neg c7] at H
        have c7b0 : (((rd_T58 l0 x5_1).f0) == ((rd_T38 l1 x5_1).f0)) = false := beq_eq_false_iff_ne.mpr c7
        have c7b1 : (((rd_T58 l0 x5_1).f0) != ((rd_T38 l1 x5_1).f0)) = true := bne_iff_ne.mpr c7
        obtain rfl := Option.some.inj H
        have p308 : 0 ≤ (x5_1 : Int) := odx
        have q308 : x5_1 < (l0.length : Int) := odx
        obtain ⟨ad308, e308, hx308_0, hx308_1⟩ := at_T58 HR0.out x5_1 p308 q308
        cases e308
        replace p308 := eq_true p308
        replace q308 := eq_true q308
        have p309 : 0 ≤ (x5_1 : Int) := odx
        have q309 : x5_1 < (l1.length : Int) := odx
        obtain ⟨ad309, e309, hx309_0, hx309_1⟩ := at_T38 HR1.out x5_1 p309 q309
        cases e309
        replace p309 := eq_true p309
        replace q309 := eq_true q309
        go_wp2
        repeat (go_quiet (fail); try go_wp2)
        go_ret
        exact ⟨by first | rfl | (simp; done) | (simp [*]; done), by repeat (first | exact Drawn0.refl _ | apply Drawn0.step)⟩
      ·rw [if_neg c6] at H
       exact absurd H (by simp)
     ·rw [if_neg c5] at H
      exact absurd H (by simp)
    ·rw [if_neg c4] at H
     have c4b0 : decide (x5_1 < (l0.length : Int)) = false := decide_eq_false c4
     clear c4
     obtain rfl := Option.some.inj H
     go_wp2
     repeat (go_quiet (fail); try go_wp2)
     go_ret
     exact ⟨by first | rfl | (simp; done) | (simp [*]; done), by repeat (first | exact Drawn0.refl _ | apply Drawn0.step)⟩
 ·rw [if_neg c3] at H
  have c3b0 : ((l0.length : Int) == (l1.length : Int)) = false := beq_eq_false_iff_ne.mpr c3
  have c3b1 : ((l0.length : Int) != (l1.length : Int)) = true := bne_iff_ne.mpr c3
  have c3b2 : (l0.length == l1.length) = false := by first | simpa using c3 | (simp at c3 ⊢; omega)
  obtain rfl := Option.some.inj H
  go_enter Try.func15, Try.ntmps15
  go_wp2
  repeat (go_quiet (fail); try go_wp2)
  go_ret
  exact ⟨by first | rfl | (simp; done) | (simp [*]; done), by repeat (first | exact Drawn0.refl _ | apply Drawn0.step)⟩
end Go.Proofs.Ytfhgomcfpmbhnaa.PS
end

section
namespace Go.Proofs.Ytfhgomcfpmbhnaa.PS
open Go.RowKit Go.Proofs.YtfhgomcfpmbhnaaW.PrintWords Go.Proofs.YtfhgomcfpmbhnaaW.PrintLast Go.Proofs.YtfhgomcfpmbhnaaW.PrintMore
attribute [local go_sem] frun_add frun_sub frun_mul frun_quo frun_neg frun_of frun_same frun_store frun_bits frun_from
attribute [local go_sem] max2_int min2_int max_two min_two max_three min_three max_four min_four
set_option linter.unusedVariables false
set_option linter.unusedSimpArgs false
mutual
def levyref17_Jumps.l0 : Nat → List (S38) → Int → List Int → Int → Option (List Int)
 | 0, _, _, _, _ => none
 | k + 1, x0, x1, x5, x6 => if x6 < (x0.length : Int) then (if 0 ≤ x6 then (if 0 ≤ (wrap64 (x6 - 1)) then (if (wrap64 (x6 - 1)) < (x0.length : Int) then ((levyref17_Sub.f k ((rd_T38 x0 x6).f1) ((rd_T38 x0 (wrap64 (x6 - 1))).f1)).bind fun t202 => ((levyref17_NaN.f t202).bind fun t203 => ((levyref17_NaN.f x1).bind fun t204 => (if t203 = true then (levyref17_Jumps.j1 k x0 x1 x5 x6 t202 true) else (levyref17_Jumps.j1 k x0 x1 x5 x6 t202 t204))))) else (none)) else (none)) else (none)) else (some x5)
def levyref17_Jumps.j1 : Nat → List (S38) → Int → List Int → Int → Int → Bool → Option (List Int)
 | 0, _, _, _, _, _, _ => none
 | k + 1, x0, x1, x5, x6, x7, x36 => if x36 = true then (levyref17_Jumps.l0 k x0 x1 x5 (wrap64 (x6 + 1))) else (if x7 ≥ 2147483648 then ((levyref17_Less.f ((x7 - 2147483648) % 4294967296) x1).bind fun t205 => (if t205 = true then (levyref17_Jumps.l0 k x0 x1 x5 (wrap64 (x6 + 1))) else (if x5.length < 17592186044416 then (levyref17_Jumps.l0 k x0 x1 (x5 ++ [x6]) (wrap64 (x6 + 1))) else (none)))) else ((levyref17_Less.f x7 x1).bind fun t209 => (if t209 = true then (levyref17_Jumps.l0 k x0 x1 x5 (wrap64 (x6 + 1))) else (if x5.length < 17592186044416 then (levyref17_Jumps.l0 k x0 x1 (x5 ++ [x6]) (wrap64 (x6 + 1))) else (none)))))
end
def levyref17_Jumps.f (k : Nat) (l0 : List (S38)) (a1 : Int) : Option (List Int) := levyref17_Jumps.l0 k l0 a1 ([] : List Int) 1
theorem levyref17_Jumps.mono_l : ∀ k, (∀ y0 y1 y2 y3, LeO (levyref17_Jumps.l0 k y0 y1 y2 y3) (levyref17_Jumps.l0 (k + 1) y0 y1 y2 y3)) ∧ (∀ y0 y1 y2 y3 y4 y5, LeO (levyref17_Jumps.j1 k y0 y1 y2 y3 y4 y5) (levyref17_Jumps.j1 (k + 1) y0 y1 y2 y3 y4 y5))
 | 0 => ⟨fun _ _ _ _ r h => by simp [levyref17_Jumps.l0] at h, fun _ _ _ _ _ _ r h => by simp [levyref17_Jumps.j1] at h⟩
 | k + 1 => by
  obtain ⟨ih0, ih1⟩ := levyref17_Jumps.mono_l k
  refine ⟨?_, ?_⟩
  ·intro y0 y1 y2 y3
   unfold levyref17_Jumps.l0
   repeat' first
   | (with_reducible exact ih0 _ _ _ _)
   | (with_reducible exact ih1 _ _ _ _ _ _)
   | (with_reducible exact levyref17_Sub.mono _ _ _)
   | (with_reducible exact LeO.refl _)
   | (with_reducible exact LeO.none _)
   | (with_reducible refine LeO.ite ?_ ?_)
   | (with_reducible refine LeO.bind ?_ (fun _ => ?_))
   | exact ih0 _ _ _ _
   | exact ih1 _ _ _ _ _ _
   | exact levyref17_Sub.mono _ _ _
   | exact LeO.none _
   | refine LeO.ite ?_ ?_
   | refine LeO.bind ?_ (fun _ => ?_)
  ·intro y0 y1 y2 y3 y4 y5
   unfold levyref17_Jumps.j1
   repeat' first
   | (with_reducible exact ih0 _ _ _ _)
   | (with_reducible exact ih1 _ _ _ _ _ _)
   | (with_reducible exact levyref17_Sub.mono _ _ _)
   | (with_reducible exact LeO.refl _)
   | (with_reducible exact LeO.none _)
   | (with_reducible refine LeO.ite ?_ ?_)
   | (with_reducible refine LeO.bind ?_ (fun _ => ?_))
   | exact ih0 _ _ _ _
   | exact ih1 _ _ _ _ _ _
   | exact levyref17_Sub.mono _ _ _
   | exact LeO.none _
   | refine LeO.ite ?_ ?_
   | refine LeO.bind ?_ (fun _ => ?_)
theorem levyref17_Jumps.mono : ∀ a0 a1 k, LeO (levyref17_Jumps.f k a0 a1) (levyref17_Jumps.f (k + 1) a0 a1) := by
 intro a0 a1 k
 obtain ⟨ih0, ih1⟩ := levyref17_Jumps.mono_l k
 unfold levyref17_Jumps.f
 repeat' first
   | (with_reducible exact ih0 _ _ _ _)
   | (with_reducible exact ih1 _ _ _ _ _ _)
   | (with_reducible exact levyref17_Sub.mono _ _ _)
   | (with_reducible exact LeO.refl _)
   | (with_reducible exact LeO.none _)
   | (with_reducible refine LeO.ite ?_ ?_)
   | (with_reducible refine LeO.bind ?_ (fun _ => ?_))
   | exact ih0 _ _ _ _
   | exact ih1 _ _ _ _ _ _
   | exact levyref17_Sub.mono _ _ _
   | exact LeO.none _
   | refine LeO.ite ?_ ?_
   | refine LeO.bind ?_ (fun _ => ?_)
set_option maxHeartbeats 8000000 in
set_option maxRecDepth 100000 in
theorem levyref17_Jumps.calls (k : Nat) (A0 : Option Addr) (c0 : Nat) (l0 : List (S38)) (a1 : Int) (r : List Int) (w : World) (hr0 : Kd.C k38 w A0 l0.length l0) (hc0 : l0.length ≤ c0) (h : levyref17_Jumps.f k l0 a1 = some r) :
  Calls Try.prog 45 #[.slice A0 l0.length c0, .int .u32 a1] w fun e w' => ∃ v0_ : Value, e = .returned (v0_) ∧ Kd.R (Kd.int .i64) 3 w' w.heap.size (fun _ => True) v0_ r ∧ Below w.heap.size w w' := by
 have HR0 := Aside0.mk hr0
 have HC0 := Aside0.mk hc0
 clear hr0 hc0
 have HB := Aside0.mk (Below.refl w.heap.size w)
 have H : (levyref17_Jumps.l0 k l0 a1 ([] : List Int) 1) = some r := h
 clear h
 have H' := Aside0.mk H
 clear H
 go_enter Try.func45, Try.ntmps45
 go_wp2
 repeat (go_quiet (fail); try go_wp2)
 go_loopg [5, 6] k (fun kq v5 v6 w' => ∃ (x5_1 : List Int) (x6_1 : Int), v6 = .int .i64 x6_1 ∧ Aside0 (levyref17_Jumps.l0 kq l0 a1 x5_1 x6_1 = some r) ∧ Aside0 (kq ≤ k) ∧ Aside0 (Kd.R (Kd.int .i64) 3 w' w.heap.size (fun _ => True) v5 x5_1) ∧ Aside0 (Below w.heap.size w w'))
 case atStart => exact ⟨(([] : List Int)), (1), (by first | rfl | (simp; done) | (simp [*]; done)), H', ⟨Nat.le_refl _⟩, ⟨by first | exact Kd.R_nil _ _ _ _ _ | exact Kd.N_nil _ _ _ _ _ | exact Kd.V_nil _ _ _ _ _ | exact Kd.Q_nil _ _ _ _ _ | exact Kd.S_nil _ _ _ _ _⟩, ⟨blx⟩⟩
 case round =>
  clear H'
  try clear p2
  obtain ⟨x5_1, x6_1, rfl, HA, HK1, HO_5, HB⟩ := hrel
  cases gk with
  | zero => exact absurd HA.out (by simp [levyref17_Jumps.l0])
  | succ k1 =>
   have H := HA.out
   clear HA
   simp only [levyref17_Jumps.l0] at H
   by_cases c3 : x6_1 < (l0.length : Int)
   ·rw [if_pos c3] at H
    have c3b0 : decide (x6_1 < (l0.length : Int)) = true := decide_eq_true c3
    clear c3
    by_cases c4 : 0 ≤ x6_1
    ·rw [if_pos c4] at H
     have c4b0 : decide (0 ≤ x6_1) = true := decide_eq_true c4
     clear c4
     obtain ⟨ji5, hji5⟩ : ∃ j_ : Int, (wrap64 (x6_1 - 1)) = j_ := ⟨_, rfl⟩
     replace H : (if 0 ≤ (ji5) then (if (ji5) < (l0.length : Int) then ((levyref17_Sub.f k1 ((rd_T38 l0 x6_1).f1) ((rd_T38 l0 (ji5)).f1)).bind fun t202 => ((levyref17_NaN.f t202).bind fun t203 => ((levyref17_NaN.f a1).bind fun t204 => (if t203 = true then (levyref17_Jumps.j1 k1 l0 a1 x5_1 x6_1 t202 true) else (levyref17_Jumps.j1 k1 l0 a1 x5_1 x6_1 t202 t204))))) else (none)) else (none)) = some r := by first | (rw [hji5] at H; exact H) | (simp only [hji5] at H ⊢; exact H)
     have hji5w : (IntKind.i64.wrap (x6_1 - 1)) = ji5 := (i64_w _).trans hji5
     by_cases c6 : 0 ≤ (ji5)
     ·rw [if_pos c6] at H
      have c6b0 : decide (0 ≤ (ji5)) = true := decide_eq_true c6
      clear c6
      by_cases c7 : (ji5) < (l0.length : Int)
      ·rw [if_pos c7] at H
       have c7b0 : decide ((ji5) < (l0.length : Int)) = true := decide_eq_true c7
       clear c7
       replace H := Option.bind_eq_some_iff.mp H
       obtain ⟨t202, A80, H⟩ := H
       replace H : ((levyref17_NaN.f t202).bind fun t203 => ((levyref17_NaN.f a1).bind fun t204 => (if t203 = true then (levyref17_Jumps.j1 k1 l0 a1 x5_1 x6_1 t202 true) else (levyref17_Jumps.j1 k1 l0 a1 x5_1 x6_1 t202 t204)))) = some r := H
       have A8 := Aside0.mk A80
       clear A80
       replace H := Option.bind_eq_some_iff.mp H
       obtain ⟨t203, A90, H⟩ := H
       replace H : ((levyref17_NaN.f a1).bind fun t204 => (if t203 = true then (levyref17_Jumps.j1 k1 l0 a1 x5_1 x6_1 t202 true) else (levyref17_Jumps.j1 k1 l0 a1 x5_1 x6_1 t202 t204))) = some r := H
       have A9 := Aside0.mk A90
       clear A90
       replace H := Option.bind_eq_some_iff.mp H
       obtain ⟨t204, A100, H⟩ := H
       replace H : (if t203 = true then (levyref17_Jumps.j1 k1 l0 a1 x5_1 x6_1 t202 true) else (levyref17_Jumps.j1 k1 l0 a1 x5_1 x6_1 t202 t204)) = some r := H
       have A10 := Aside0.mk A100
       clear A100
       have HC11 := Aside0.mk H
       clear H
       have p200 : 0 ≤ (x6_1 : Int) := odx
       have q200 : x6_1 < (l0.length : Int) := odx
       obtain ⟨ad200, e200, hx200_0, hx200_1⟩ := at_T38 HR0.out x6_1 p200 q200
       cases e200
       replace hx200_0 := (HB.out.cell (World.block_lt_of_cell? w _ hx200_0)).trans hx200_0
       replace hx200_1 := (HB.out.cell (World.block_lt_of_cell? w _ hx200_1)).trans hx200_1
       replace p200 := eq_true p200
       replace q200 := eq_true q200
       have p201 : 0 ≤ ((ji5) : Int) := odx
       have q201 : (ji5) < (l0.length : Int) := odx
       obtain ⟨ad201, e201, hx201_0, hx201_1⟩ := at_T38 HR0.out (ji5) p201 q201
       obtain rfl : ad200 = ad201 := (by injection e201)
       replace hx201_0 := (HB.out.cell (World.block_lt_of_cell? w _ hx201_0)).trans hx201_0
       replace hx201_1 := (HB.out.cell (World.block_lt_of_cell? w _ hx201_1)).trans hx201_1
       replace p201 := eq_true p201
       replace q201 := eq_true q201
       go_upto_region 8 with (first | (go_at_call 56; (with_reducible refine (levyref17_Sub.calls k1 ((rd_T38 l0 x6_1).f1) ((rd_T38 l0 (ji5)).f1) t202 _ A8.out).mono ?_); rintro e w' ⟨rfl, ⟨nd, rfl⟩⟩; (try first | exact ⟨rfl, _, World.drewN_drewN _ _ _⟩ | exact ⟨rfl, _, Eq.trans (World.drewN_drewN _ _ _) (congrArg (World.drewN _) (Nat.add_assoc _ _ _))⟩)) | (go_at_call 41; (with_reducible refine (levyref17_NaN.calls t202 t203 _ A9.out).mono ?_); rintro e w' ⟨rfl, ⟨nd, rfl⟩⟩; (try first | exact ⟨rfl, _, World.drewN_drewN _ _ _⟩ | exact ⟨rfl, _, Eq.trans (World.drewN_drewN _ _ _) (congrArg (World.drewN _) (Nat.add_assoc _ _ _))⟩)) | (go_at_call 41; (with_reducible refine (levyref17_NaN.calls a1 t204 _ A10.out).mono ?_); rintro e w' ⟨rfl, ⟨nd, rfl⟩⟩; (try first | exact ⟨rfl, _, World.drewN_drewN _ _ _⟩ | exact ⟨rfl, _, Eq.trans (World.drewN_drewN _ _ _) (congrArg (World.drewN _) (Nat.add_assoc _ _ _))⟩)))
       repeat (go_quiet (first | (go_at_call 56; (with_reducible refine (levyref17_Sub.calls k1 ((rd_T38 l0 x6_1).f1) ((rd_T38 l0 (ji5)).f1) t202 _ A8.out).mono ?_); rintro e w' ⟨rfl, ⟨nd, rfl⟩⟩; (try first | exact ⟨rfl, _, World.drewN_drewN _ _ _⟩ | exact ⟨rfl, _, Eq.trans (World.drewN_drewN _ _ _) (congrArg (World.drewN _) (Nat.add_assoc _ _ _))⟩)) | (go_at_call 41; (with_reducible refine (levyref17_NaN.calls t202 t203 _ A9.out).mono ?_); rintro e w' ⟨rfl, ⟨nd, rfl⟩⟩; (try first | exact ⟨rfl, _, World.drewN_drewN _ _ _⟩ | exact ⟨rfl, _, Eq.trans (World.drewN_drewN _ _ _) (congrArg (World.drewN _) (Nat.add_assoc _ _ _))⟩)) | (go_at_call 41; (with_reducible refine (levyref17_NaN.calls a1 t204 _ A10.out).mono ?_); rintro e w' ⟨rfl, ⟨nd, rfl⟩⟩; (try first | exact ⟨rfl, _, World.drewN_drewN _ _ _⟩ | exact ⟨rfl, _, Eq.trans (World.drewN_drewN _ _ _) (congrArg (World.drewN _) (Nat.add_assoc _ _ _))⟩))); go_upto_region 8 with (first | (go_at_call 56; (with_reducible refine (levyref17_Sub.calls k1 ((rd_T38 l0 x6_1).f1) ((rd_T38 l0 (ji5)).f1) t202 _ A8.out).mono ?_); rintro e w' ⟨rfl, ⟨nd, rfl⟩⟩; (try first | exact ⟨rfl, _, World.drewN_drewN _ _ _⟩ | exact ⟨rfl, _, Eq.trans (World.drewN_drewN _ _ _) (congrArg (World.drewN _) (Nat.add_assoc _ _ _))⟩)) | (go_at_call 41; (with_reducible refine (levyref17_NaN.calls t202 t203 _ A9.out).mono ?_); rintro e w' ⟨rfl, ⟨nd, rfl⟩⟩; (try first | exact ⟨rfl, _, World.drewN_drewN _ _ _⟩ | exact ⟨rfl, _, Eq.trans (World.drewN_drewN _ _ _) (congrArg (World.drewN _) (Nat.add_assoc _ _ _))⟩)) | (go_at_call 41; (with_reducible refine (levyref17_NaN.calls a1 t204 _ A10.out).mono ?_); rintro e w' ⟨rfl, ⟨nd, rfl⟩⟩; (try first | exact ⟨rfl, _, World.drewN_drewN _ _ _⟩ | exact ⟨rfl, _, Eq.trans (World.drewN_drewN _ _ _) (congrArg (World.drewN _) (Nat.add_assoc _ _ _))⟩))))
       (try simp only [Act.put, List.setIfInBounds_toArray, List.set_cons_zero, List.set_cons_succ])
       go_cut [36] (fun v36 wc => ∃ (kq : Nat) (x36_10 : Bool), v36 = .bool x36_10 ∧ Aside0 (levyref17_Jumps.j1 kq l0 a1 x5_1 x6_1 t202 x36_10 = some r) ∧ Aside0 (kq ≤ k1) ∧ Aside0 (Kd.R (Kd.int .i64) 3 wc w.heap.size (fun _ => True) u5 x5_1) ∧ Aside0 (Below w.heap.size w wc))
       case first =>
        have H := HC11.out
        clear HC11
        by_cases c12 : t203 = true
        ·subst c12
         have H1 : (levyref17_Jumps.j1 k1 l0 a1 x5_1 x6_1 t202 true) = some r := by rw [if_pos rfl] at H; exact H
         clear H
         have H := H1
         clear H1
         have H' := Aside0.mk H
         clear H
         go_wp2
         repeat (go_quiet (fail); try go_wp2)
         go_meet
         case rel => exact ⟨_, (true), (by first | rfl | (simp; done) | (simp [*]; done)), H', ⟨by have := HK1.out; first | omega | exact Nat.le_refl _⟩, ⟨by (with_reducible repeat (first | apply Kd.R_alloc | apply Kd.R_drewN | apply Kd.R_drew)); exact HO_5.out⟩, ⟨blx⟩⟩
        ·replace c12 := Bool.eq_false_iff.mpr c12
         subst c12
         have H1 : (levyref17_Jumps.j1 k1 l0 a1 x5_1 x6_1 t202 t204) = some r := by rw [if_neg (show ¬ (false = true) by decide)] at H; exact H
         clear H
         have H := H1
         clear H1
         have H' := Aside0.mk H
         clear H
         go_wp2
         repeat (go_quiet (fail); try go_wp2)
         go_meet
         case rel => exact ⟨_, (t204), (by first | rfl | (simp; done) | (simp [*]; done)), H', ⟨by have := HK1.out; first | omega | exact Nat.le_refl _⟩, ⟨by (with_reducible repeat (first | apply Kd.R_alloc | apply Kd.R_drewN | apply Kd.R_drew)); exact HO_5.out⟩, ⟨blx⟩⟩
       case rest =>
        clear HC11
        try clear c1
        try clear p2
        try clear q2
        try clear hx2
        try clear c3
        try clear c3b0
        try clear c4
        try clear c4b0
        try clear c6
        try clear c6b0
        try clear p6
        try clear c7
        try clear c7b0
        try clear c12
        try clear hx200_0
        try clear hx200_1
        try clear hx201_0
        try clear hx201_1
        try clear p2
        try clear p200
        try clear p201
        try clear q200
        try clear q201
        obtain ⟨kq, x36_10, rfl, HA, HJ10, HO_5, HB⟩ := hcut
        cases kq with
        | zero => exact absurd HA.out (by simp [levyref17_Jumps.j1])
        | succ kj10 =>
         have H := HA.out
         clear HA
         simp only [levyref17_Jumps.j1] at H
         by_cases c13 : x36_10 = true
         ·subst c13
          have H1 : (levyref17_Jumps.l0 kj10 l0 a1 x5_1 (wrap64 (x6_1 + 1))) = some r := by rw [if_pos rfl] at H; exact H
          clear H
          have H := H1
          clear H1
          have H' := Aside0.mk H
          clear H
          go_wp2
          repeat (go_quiet (fail); try go_wp2)
          go_roundg kj10
          case measure => have := HK1.out; have := HJ10.out; omega
          case rel => exact ⟨(x5_1), (wrap64 (x6_1 + 1)), (by first | rfl | (simp; done) | (simp [*]; done)), H', ⟨by have := HK1.out; have := HJ10.out; omega⟩, ⟨by (with_reducible repeat (first | apply Kd.R_alloc | apply Kd.R_drewN | apply Kd.R_drew)); exact HO_5.out⟩, ⟨blx⟩⟩
         ·replace c13 := Bool.eq_false_iff.mpr c13
          subst c13
          have H1 : (if t202 ≥ 2147483648 then ((levyref17_Less.f ((t202 - 2147483648) % 4294967296) a1).bind fun t205 => (if t205 = true then (levyref17_Jumps.l0 kj10 l0 a1 x5_1 (wrap64 (x6_1 + 1))) else (if x5_1.length < 17592186044416 then (levyref17_Jumps.l0 kj10 l0 a1 (x5_1 ++ [x6_1]) (wrap64 (x6_1 + 1))) else (none)))) else ((levyref17_Less.f t202 a1).bind fun t209 => (if t209 = true then (levyref17_Jumps.l0 kj10 l0 a1 x5_1 (wrap64 (x6_1 + 1))) else (if x5_1.length < 17592186044416 then (levyref17_Jumps.l0 kj10 l0 a1 (x5_1 ++ [x6_1]) (wrap64 (x6_1 + 1))) else (none))))) = some r := by rw [if_neg (show ¬ (false = true) by decide)] at H; exact H
          clear H
          have H := H1
          clear H1
          by_cases c14 : t202 ≥ 2147483648
          ·rw [if_pos c14] at H
           have c14b0 : decide (2147483648 ≤ t202) = true := decide_eq_true c14
           clear c14
           replace H := Option.bind_eq_some_iff.mp H
           obtain ⟨t205, A150, H⟩ := H
           replace H : (if t205 = true then (levyref17_Jumps.l0 kj10 l0 a1 x5_1 (wrap64 (x6_1 + 1))) else (if x5_1.length < 17592186044416 then (levyref17_Jumps.l0 kj10 l0 a1 (x5_1 ++ [x6_1]) (wrap64 (x6_1 + 1))) else (none))) = some r := H
           have A15 := Aside0.mk A150
           clear A150
           by_cases c16 : t205 = true
           ·subst c16
            have H1 : (levyref17_Jumps.l0 kj10 l0 a1 x5_1 (wrap64 (x6_1 + 1))) = some r := by rw [if_pos rfl] at H; exact H
            clear H
            have H := H1
            clear H1
            have H' := Aside0.mk H
            clear H
            go_wp2_with (first | (go_at_call 61; (with_reducible refine (levyref17_Less.calls ((t202 - 2147483648) % 4294967296) a1 true _ A15.out).mono ?_); rintro e w' ⟨rfl, ⟨nd, rfl⟩⟩; (try first | exact ⟨rfl, _, World.drewN_drewN _ _ _⟩ | exact ⟨rfl, _, Eq.trans (World.drewN_drewN _ _ _) (congrArg (World.drewN _) (Nat.add_assoc _ _ _))⟩)))
            repeat (go_quiet (first | (go_at_call 61; (with_reducible refine (levyref17_Less.calls ((t202 - 2147483648) % 4294967296) a1 true _ A15.out).mono ?_); rintro e w' ⟨rfl, ⟨nd, rfl⟩⟩; (try first | exact ⟨rfl, _, World.drewN_drewN _ _ _⟩ | exact ⟨rfl, _, Eq.trans (World.drewN_drewN _ _ _) (congrArg (World.drewN _) (Nat.add_assoc _ _ _))⟩))); try go_wp2_with (first | (go_at_call 61; (with_reducible refine (levyref17_Less.calls ((t202 - 2147483648) % 4294967296) a1 true _ A15.out).mono ?_); rintro e w' ⟨rfl, ⟨nd, rfl⟩⟩; (try first | exact ⟨rfl, _, World.drewN_drewN _ _ _⟩ | exact ⟨rfl, _, Eq.trans (World.drewN_drewN _ _ _) (congrArg (World.drewN _) (Nat.add_assoc _ _ _))⟩))))
            go_roundg kj10
            case measure => have := HK1.out; have := HJ10.out; omega
            case rel => exact ⟨(x5_1), (wrap64 (x6_1 + 1)), (by first | rfl | (simp; done) | (simp [*]; done)), H', ⟨by have := HK1.out; have := HJ10.out; omega⟩, ⟨by (with_reducible repeat (first | apply Kd.R_alloc | apply Kd.R_drewN | apply Kd.R_drew)); exact HO_5.out⟩, ⟨blx⟩⟩
           ·replace c16 := Bool.eq_false_iff.mpr c16
            subst c16
            have H1 : (if x5_1.length < 17592186044416 then (levyref17_Jumps.l0 kj10 l0 a1 (x5_1 ++ [x6_1]) (wrap64 (x6_1 + 1))) else (none)) = some r := by rw [if_neg (show ¬ (false = true) by decide)] at H; exact H
            clear H
            have H := H1
            clear H1
            by_cases c17 : x5_1.length < 17592186044416
            ·rw [if_pos c17] at H
             have LMc17 := Aside0.mk c17
             clear c17
             obtain ⟨y206, hy206⟩ : ∃ y_ : List Int, y_ = (x5_1 ++ [x6_1]) := ⟨_, rfl⟩
             replace H : (levyref17_Jumps.l0 kj10 l0 a1 y206 (wrap64 (x6_1 + 1))) = some r := by first | (rw [hy206]; with_reducible exact H) | (have H2_ := (Option.bind_some _ _).symm.trans H; rw [hy206]; with_reducible exact H2_) | (have H2_ := (Option.bind_some _ _).symm.trans H; with_reducible exact H2_) | with_reducible exact H | (rw [hy206]; exact H) | exact H
             have Ny206 := Aside0.mk hy206
             clear hy206
             have H' := Aside0.mk H
             clear H
             go_wp2_with (first | (go_at_call 61; (with_reducible refine (levyref17_Less.calls ((t202 - 2147483648) % 4294967296) a1 false _ A15.out).mono ?_); rintro e w' ⟨rfl, ⟨nd, rfl⟩⟩; (try first | exact ⟨rfl, _, World.drewN_drewN _ _ _⟩ | exact ⟨rfl, _, Eq.trans (World.drewN_drewN _ _ _) (congrArg (World.drewN _) (Nat.add_assoc _ _ _))⟩)) | ((with_reducible refine gate_builtin (b := .append) (xs := #[.tmp 46, .tmp 48]) rfl ?_); at_builtin; refine Kd.R_append (Kd.int .i64) (w0 := w) w.heap.size rfl (.tmp 46) (.tmp 48) 66 3 (.int .i64 0) 8 rfl Try.underlying66 info3 rfl (by decide) (by omega) u5 x5_1 x6_1 [.int .i64 x6_1] (fun _ => True) (fun _ => False) rfl rfl ?aP (fun _ hk => hk.elim) ?aF ?aO ?aB ?aS ?aL ?_; (case aP => exact rfl); (case aB => exact blx); (case aF => exact (fun _ _ => trivial)); (case aO => exact (by (with_reducible repeat (first | apply Kd.R_alloc | apply Kd.R_drewN | apply Kd.R_drew)); exact HO_5.out)); (case aS => exact (below_size blx)); (case aL => have := LMc17.out; omega); intro v207 w18 ho hb hg hat; rw [← Ny206.out] at ho; have n0_ := Aside0.mk (hb); have n1_ := Aside0.mk (ho); clear HB; clear HO_5; have HB := n0_; have HO208 := n1_; clear n0_ n1_; clear ho hb hg hat))
             repeat (go_quiet (first | (go_at_call 61; (with_reducible refine (levyref17_Less.calls ((t202 - 2147483648) % 4294967296) a1 false _ A15.out).mono ?_); rintro e w' ⟨rfl, ⟨nd, rfl⟩⟩; (try first | exact ⟨rfl, _, World.drewN_drewN _ _ _⟩ | exact ⟨rfl, _, Eq.trans (World.drewN_drewN _ _ _) (congrArg (World.drewN _) (Nat.add_assoc _ _ _))⟩)) | ((with_reducible refine gate_builtin (b := .append) (xs := #[.tmp 46, .tmp 48]) rfl ?_); at_builtin; refine Kd.R_append (Kd.int .i64) (w0 := w) w.heap.size rfl (.tmp 46) (.tmp 48) 66 3 (.int .i64 0) 8 rfl Try.underlying66 info3 rfl (by decide) (by omega) u5 x5_1 x6_1 [.int .i64 x6_1] (fun _ => True) (fun _ => False) rfl rfl ?aP (fun _ hk => hk.elim) ?aF ?aO ?aB ?aS ?aL ?_; (case aP => exact rfl); (case aB => exact blx); (case aF => exact (fun _ _ => trivial)); (case aO => exact (by (with_reducible repeat (first | apply Kd.R_alloc | apply Kd.R_drewN | apply Kd.R_drew)); exact HO_5.out)); (case aS => exact (below_size blx)); (case aL => have := LMc17.out; omega); intro v207 w18 ho hb hg hat; rw [← Ny206.out] at ho; have n0_ := Aside0.mk (hb); have n1_ := Aside0.mk (ho); clear HB; clear HO_5; have HB := n0_; have HO208 := n1_; clear n0_ n1_; clear ho hb hg hat)); try go_wp2_with (first | (go_at_call 61; (with_reducible refine (levyref17_Less.calls ((t202 - 2147483648) % 4294967296) a1 false _ A15.out).mono ?_); rintro e w' ⟨rfl, ⟨nd, rfl⟩⟩; (try first | exact ⟨rfl, _, World.drewN_drewN _ _ _⟩ | exact ⟨rfl, _, Eq.trans (World.drewN_drewN _ _ _) (congrArg (World.drewN _) (Nat.add_assoc _ _ _))⟩)) | ((with_reducible refine gate_builtin (b := .append) (xs := #[.tmp 46, .tmp 48]) rfl ?_); at_builtin; refine Kd.R_append (Kd.int .i64) (w0 := w) w.heap.size rfl (.tmp 46) (.tmp 48) 66 3 (.int .i64 0) 8 rfl Try.underlying66 info3 rfl (by decide) (by omega) u5 x5_1 x6_1 [.int .i64 x6_1] (fun _ => True) (fun _ => False) rfl rfl ?aP (fun _ hk => hk.elim) ?aF ?aO ?aB ?aS ?aL ?_; (case aP => exact rfl); (case aB => exact blx); (case aF => exact (fun _ _ => trivial)); (case aO => exact (by (with_reducible repeat (first | apply Kd.R_alloc | apply Kd.R_drewN | apply Kd.R_drew)); exact HO_5.out)); (case aS => exact (below_size blx)); (case aL => have := LMc17.out; omega); intro v207 w18 ho hb hg hat; rw [← Ny206.out] at ho; have n0_ := Aside0.mk (hb); have n1_ := Aside0.mk (ho); clear HB; clear HO_5; have HB := n0_; have HO208 := n1_; clear n0_ n1_; clear ho hb hg hat)))
             go_roundg kj10
             case measure => have := HK1.out; have := HJ10.out; omega
             case rel => exact ⟨(y206), (wrap64 (x6_1 + 1)), (by first | rfl | (simp; done) | (simp [*]; done)), H', ⟨by have := HK1.out; have := HJ10.out; omega⟩, ⟨by (with_reducible repeat (first | apply Kd.R_alloc | apply Kd.R_drewN | apply Kd.R_drew)); exact HO208.out⟩, ⟨blx⟩⟩
            ·rw [if_neg c17] at H
             exact absurd H (by simp)
          ·rw [if_neg c14] at H
           have c14b0 : decide (2147483648 ≤ t202) = false := decide_eq_false c14
           clear c14
           replace H := Option.bind_eq_some_iff.mp H
           obtain ⟨t209, A190, H⟩ := H
           replace H : (if t209 = true then (levyref17_Jumps.l0 kj10 l0 a1 x5_1 (wrap64 (x6_1 + 1))) else (if x5_1.length < 17592186044416 then (levyref17_Jumps.l0 kj10 l0 a1 (x5_1 ++ [x6_1]) (wrap64 (x6_1 + 1))) else (none))) = some r := H
           have A19 := Aside0.mk A190
           clear A190
           by_cases c20 : t209 = true
           ·subst c20
            have H1 : (levyref17_Jumps.l0 kj10 l0 a1 x5_1 (wrap64 (x6_1 + 1))) = some r := by rw [if_pos rfl] at H; exact H
            clear H
            have H := H1
            clear H1
            have H' := Aside0.mk H
            clear H
            go_wp2_with (first | (go_at_call 61; (with_reducible refine (levyref17_Less.calls t202 a1 true _ A19.out).mono ?_); rintro e w' ⟨rfl, ⟨nd, rfl⟩⟩; (try first | exact ⟨rfl, _, World.drewN_drewN _ _ _⟩ | exact ⟨rfl, _, Eq.trans (World.drewN_drewN _ _ _) (congrArg (World.drewN _) (Nat.add_assoc _ _ _))⟩)))
            repeat (go_quiet (first | (go_at_call 61; (with_reducible refine (levyref17_Less.calls t202 a1 true _ A19.out).mono ?_); rintro e w' ⟨rfl, ⟨nd, rfl⟩⟩; (try first | exact ⟨rfl, _, World.drewN_drewN _ _ _⟩ | exact ⟨rfl, _, Eq.trans (World.drewN_drewN _ _ _) (congrArg (World.drewN _) (Nat.add_assoc _ _ _))⟩))); try go_wp2_with (first | (go_at_call 61; (with_reducible refine (levyref17_Less.calls t202 a1 true _ A19.out).mono ?_); rintro e w' ⟨rfl, ⟨nd, rfl⟩⟩; (try first | exact ⟨rfl, _, World.drewN_drewN _ _ _⟩ | exact ⟨rfl, _, Eq.trans (World.drewN_drewN _ _ _) (congrArg (World.drewN _) (Nat.add_assoc _ _ _))⟩))))
            go_roundg kj10
            case measure => have := HK1.out; have := HJ10.out; omega
            case rel => exact ⟨(x5_1), (wrap64 (x6_1 + 1)), (by first | rfl | (simp; done) | (simp [*]; done)), H', ⟨by have := HK1.out; have := HJ10.out; omega⟩, ⟨by (with_reducible repeat (first | apply Kd.R_alloc | apply Kd.R_drewN | apply Kd.R_drew)); exact HO_5.out⟩, ⟨blx⟩⟩
           ·replace c20 := Bool.eq_false_iff.mpr c20
            subst c20
            have H1 : (if x5_1.length < 17592186044416 then (levyref17_Jumps.l0 kj10 l0 a1 (x5_1 ++ [x6_1]) (wrap64 (x6_1 + 1))) else (none)) = some r := by rw [if_neg (show ¬ (false = true) by decide)] at H; exact H
            clear H
            have H := H1
            clear H1
            by_cases c21 : x5_1.length < 17592186044416
            ·rw [if_pos c21] at H
             have LMc21 := Aside0.mk c21
             clear c21
             obtain ⟨y210, hy210⟩ : ∃ y_ : List Int, y_ = (x5_1 ++ [x6_1]) := ⟨_, rfl⟩
             replace H : (levyref17_Jumps.l0 kj10 l0 a1 y210 (wrap64 (x6_1 + 1))) = some r := by first | (rw [hy210]; with_reducible exact H) | (have H2_ := (Option.bind_some _ _).symm.trans H; rw [hy210]; with_reducible exact H2_) | (have H2_ := (Option.bind_some _ _).symm.trans H; with_reducible exact H2_) | with_reducible exact H | (rw [hy210]; exact H) | exact H
             have Ny210 := Aside0.mk hy210
             clear hy210
             have H' := Aside0.mk H
             clear H
             go_wp2_with (first | (go_at_call 61; (with_reducible refine (levyref17_Less.calls t202 a1 false _ A19.out).mono ?_); rintro e w' ⟨rfl, ⟨nd, rfl⟩⟩; (try first | exact ⟨rfl, _, World.drewN_drewN _ _ _⟩ | exact ⟨rfl, _, Eq.trans (World.drewN_drewN _ _ _) (congrArg (World.drewN _) (Nat.add_assoc _ _ _))⟩)) | ((with_reducible refine gate_builtin (b := .append) (xs := #[.tmp 46, .tmp 48]) rfl ?_); at_builtin; refine Kd.R_append (Kd.int .i64) (w0 := w) w.heap.size rfl (.tmp 46) (.tmp 48) 66 3 (.int .i64 0) 8 rfl Try.underlying66 info3 rfl (by decide) (by omega) u5 x5_1 x6_1 [.int .i64 x6_1] (fun _ => True) (fun _ => False) rfl rfl ?aP (fun _ hk => hk.elim) ?aF ?aO ?aB ?aS ?aL ?_; (case aP => exact rfl); (case aB => exact blx); (case aF => exact (fun _ _ => trivial)); (case aO => exact (by (with_reducible repeat (first | apply Kd.R_alloc | apply Kd.R_drewN | apply Kd.R_drew)); exact HO_5.out)); (case aS => exact (below_size blx)); (case aL => have := LMc21.out; omega); intro v211 w22 ho hb hg hat; rw [← Ny210.out] at ho; have n0_ := Aside0.mk (hb); have n1_ := Aside0.mk (ho); clear HB; clear HO_5; have HB := n0_; have HO212 := n1_; clear n0_ n1_; clear ho hb hg hat))
             repeat (go_quiet (first | (go_at_call 61; (with_reducible refine (levyref17_Less.calls t202 a1 false _ A19.out).mono ?_); rintro e w' ⟨rfl, ⟨nd, rfl⟩⟩; (try first | exact ⟨rfl, _, World.drewN_drewN _ _ _⟩ | exact ⟨rfl, _, Eq.trans (World.drewN_drewN _ _ _) (congrArg (World.drewN _) (Nat.add_assoc _ _ _))⟩)) | ((with_reducible refine gate_builtin (b := .append) (xs := #[.tmp 46, .tmp 48]) rfl ?_); at_builtin; refine Kd.R_append (Kd.int .i64) (w0 := w) w.heap.size rfl (.tmp 46) (.tmp 48) 66 3 (.int .i64 0) 8 rfl Try.underlying66 info3 rfl (by decide) (by omega) u5 x5_1 x6_1 [.int .i64 x6_1] (fun _ => True) (fun _ => False) rfl rfl ?aP (fun _ hk => hk.elim) ?aF ?aO ?aB ?aS ?aL ?_; (case aP => exact rfl); (case aB => exact blx); (case aF => exact (fun _ _ => trivial)); (case aO => exact (by (with_reducible repeat (first | apply Kd.R_alloc | apply Kd.R_drewN | apply Kd.R_drew)); exact HO_5.out)); (case aS => exact (below_size blx)); (case aL => have := LMc21.out; omega); intro v211 w22 ho hb hg hat; rw [← Ny210.out] at ho; have n0_ := Aside0.mk (hb); have n1_ := Aside0.mk (ho); clear HB; clear HO_5; have HB := n0_; have HO212 := n1_; clear n0_ n1_; clear ho hb hg hat)); try go_wp2_with (first | (go_at_call 61; (with_reducible refine (levyref17_Less.calls t202 a1 false _ A19.out).mono ?_); rintro e w' ⟨rfl, ⟨nd, rfl⟩⟩; (try first | exact ⟨rfl, _, World.drewN_drewN _ _ _⟩ | exact ⟨rfl, _, Eq.trans (World.drewN_drewN _ _ _) (congrArg (World.drewN _) (Nat.add_assoc _ _ _))⟩)) | ((with_reducible refine gate_builtin (b := .append) (xs := #[.tmp 46, .tmp 48]) rfl ?_); at_builtin; refine Kd.R_append (Kd.int .i64) (w0 := w) w.heap.size rfl (.tmp 46) (.tmp 48) 66 3 (.int .i64 0) 8 rfl Try.underlying66 info3 rfl (by decide) (by omega) u5 x5_1 x6_1 [.int .i64 x6_1] (fun _ => True) (fun _ => False) rfl rfl ?aP (fun _ hk => hk.elim) ?aF ?aO ?aB ?aS ?aL ?_; (case aP => exact rfl); (case aB => exact blx); (case aF => exact (fun _ _ => trivial)); (case aO => exact (by (with_reducible repeat (first | apply Kd.R_alloc | apply Kd.R_drewN | apply Kd.R_drew)); exact HO_5.out)); (case aS => exact (below_size blx)); (case aL => have := LMc21.out; omega); intro v211 w22 ho hb hg hat; rw [← Ny210.out] at ho; have n0_ := Aside0.mk (hb); have n1_ := Aside0.mk (ho); clear HB; clear HO_5; have HB := n0_; have HO212 := n1_; clear n0_ n1_; clear ho hb hg hat)))
             go_roundg kj10
             case measure => have := HK1.out; have := HJ10.out; omega
             case rel => exact ⟨(y210), (wrap64 (x6_1 + 1)), (by first | rfl | (simp; done) | (simp [*]; done)), H', ⟨by have := HK1.out; have := HJ10.out; omega⟩, ⟨by (with_reducible repeat (first | apply Kd.R_alloc | apply Kd.R_drewN | apply Kd.R_drew)); exact HO212.out⟩, ⟨blx⟩⟩
            ·rw [if_neg c21] at H
             exact absurd H (by simp)
      ·rw [if_neg c7] at H
       exact absurd H (by simp)
     ·rw [if_neg c6] at H
      exact absurd H (by simp)
    ·rw [if_neg c4] at H
     exact absurd H (by simp)
   ·rw [if_neg c3] at H
    have c3b0 : decide (x6_1 < (l0.length : Int)) = false := decide_eq_false c3
    clear c3
    obtain rfl := Option.some.inj H
    go_wp2
    repeat (go_quiet (fail); try go_wp2)
    go_ret
    exact ⟨_, by first | rfl | (simp [errW_none, errW_some] <;> rfl) | (simp [*, errW_none, errW_some] <;> rfl), by (with_reducible repeat (first | apply Kd.R_alloc | apply Kd.R_drewN | apply Kd.R_drew)); exact HO_5.out, blx⟩
end Go.Proofs.Ytfhgomcfpmbhnaa.PS
end

section
namespace Go.Proofs.Ytfhgomcfpmbhnaa.PS
open Go.RowKit Go.Proofs.YtfhgomcfpmbhnaaW.PrintWords Go.Proofs.YtfhgomcfpmbhnaaW.PrintLast Go.Proofs.YtfhgomcfpmbhnaaW.PrintMore
attribute [local go_sem] frun_add frun_sub frun_mul frun_quo frun_neg frun_of frun_same frun_store frun_bits frun_from
attribute [local go_sem] max2_int min2_int max_two min_two max_three min_three max_four min_four
set_option linter.unusedVariables false
set_option linter.unusedSimpArgs false
mutual
def levyref17_Smooth.j0 : Nat → List (S38) → Int → Bool → Option ((List (S38)) × Int)
 | 0, _, _, _ => none
 | k + 1, x0, x1, x25 => if x25 = true then (some (([] : List (S38)), 173)) else ((levyref17_Ordered.f k x0).bind fun t186 => (if t186 = true then (levyref17_Smooth.l0 k x0 ([] : List (S38)) (wrap64 (Int.tdiv (wrap64 (x1 - 1)) 2)) 0) else (some (([] : List (S38)), 172))))
def levyref17_Smooth.l0 : Nat → List (S38) → List (S38) → Int → Int → Option ((List (S38)) × Int)
 | 0, _, _, _, _ => none
 | k + 1, x0, x7, x8, x9 => if x9 < (x0.length : Int) then (levyref17_Smooth.l1 k x0 x7 x8 x9 0 0 (wrap64 (x9 - x8))) else (some (x7, 0))
def levyref17_Smooth.l1 : Nat → List (S38) → List (S38) → Int → Int → Int → Int → Int → Option ((List (S38)) × Int)
 | 0, _, _, _, _, _, _, _ => none
 | k + 1, x0, x7, x8, x9, x10, x11, x12 => if x12 ≤ (wrap64 (x9 + x8)) then (if x12 < 0 then (levyref17_Smooth.j3 k x0 x7 x8 x9 x10 x11 x12 true) else (levyref17_Smooth.j3 k x0 x7 x8 x9 x10 x11 x12 (decide (x12 ≥ (x0.length : Int))))) else ((levyref17_Whole.f x10).bind fun t187 => ((levyref17_Div.f k x11 t187).bind fun t188 => (if 0 ≤ x9 then (if x9 < (x0.length : Int) then (if x7.length < 8796093022208 then (levyref17_Smooth.l0 k x0 (x7 ++ [(⟨(rd_T38 x0 x9).f0, t188⟩ : S38)]) x8 (wrap64 (x9 + 1))) else (none)) else (none)) else (none))))
def levyref17_Smooth.j3 : Nat → List (S38) → List (S38) → Int → Int → Int → Int → Int → Bool → Option ((List (S38)) × Int)
 | 0, _, _, _, _, _, _, _, _ => none
 | k + 1, x0, x7, x8, x9, x10, x11, x12, x56 => if x56 = true then (levyref17_Smooth.l1 k x0 x7 x8 x9 x10 x11 (wrap64 (x12 + 1))) else (if x10 = 0 then (if 0 ≤ x12 then (if x12 < (x0.length : Int) then (levyref17_Smooth.l1 k x0 x7 x8 x9 (wrap64 (x10 + 1)) ((rd_T38 x0 x12).f1) (wrap64 (x12 + 1))) else (none)) else (none)) else (if 0 ≤ x12 then (if x12 < (x0.length : Int) then ((levyref17_Add.f k x11 ((rd_T38 x0 x12).f1)).bind fun t195 => (levyref17_Smooth.l1 k x0 x7 x8 x9 (wrap64 (x10 + 1)) t195 (wrap64 (x12 + 1)))) else (none)) else (none)))
end
def levyref17_Smooth.f (k : Nat) (l0 : List (S38)) (a1 : Int) : Option ((List (S38)) × Int) := if a1 < 1 then (levyref17_Smooth.j0 k l0 a1 true) else (if a1 > 15 then (levyref17_Smooth.j0 k l0 a1 true) else (levyref17_Smooth.j0 k l0 a1 ((Int.tmod a1 2) == 0)))
theorem levyref17_Smooth.mono_l : ∀ k, (∀ y0 y1 y2, LeO (levyref17_Smooth.j0 k y0 y1 y2) (levyref17_Smooth.j0 (k + 1) y0 y1 y2)) ∧ (∀ y0 y1 y2 y3, LeO (levyref17_Smooth.l0 k y0 y1 y2 y3) (levyref17_Smooth.l0 (k + 1) y0 y1 y2 y3)) ∧ (∀ y0 y1 y2 y3 y4 y5 y6, LeO (levyref17_Smooth.l1 k y0 y1 y2 y3 y4 y5 y6) (levyref17_Smooth.l1 (k + 1) y0 y1 y2 y3 y4 y5 y6)) ∧ (∀ y0 y1 y2 y3 y4 y5 y6 y7, LeO (levyref17_Smooth.j3 k y0 y1 y2 y3 y4 y5 y6 y7) (levyref17_Smooth.j3 (k + 1) y0 y1 y2 y3 y4 y5 y6 y7))
 | 0 => ⟨fun _ _ _ r h => by simp [levyref17_Smooth.j0] at h, fun _ _ _ _ r h => by simp [levyref17_Smooth.l0] at h, fun _ _ _ _ _ _ _ r h => by simp [levyref17_Smooth.l1] at h, fun _ _ _ _ _ _ _ _ r h => by simp [levyref17_Smooth.j3] at h⟩
 | k + 1 => by
  obtain ⟨ih0, ih1, ih2, ih3⟩ := levyref17_Smooth.mono_l k
  refine ⟨?_, ?_, ?_, ?_⟩
  ·intro y0 y1 y2
   unfold levyref17_Smooth.j0
   repeat' first
   | (with_reducible exact ih0 _ _ _)
   | (with_reducible exact ih1 _ _ _ _)
   | (with_reducible exact ih2 _ _ _ _ _ _ _)
   | (with_reducible exact ih3 _ _ _ _ _ _ _ _)
   | (with_reducible exact levyref17_Add.mono _ _ _)
   | (with_reducible exact levyref17_Div.mono _ _ _)
   | (with_reducible exact levyref17_Ordered.mono _ _)
   | (with_reducible exact LeO.refl _)
   | (with_reducible exact LeO.none _)
   | (with_reducible refine LeO.ite ?_ ?_)
   | (with_reducible refine LeO.bind ?_ (fun _ => ?_))
   | exact ih0 _ _ _
   | exact ih1 _ _ _ _
   | exact ih2 _ _ _ _ _ _ _
   | exact ih3 _ _ _ _ _ _ _ _
   | exact levyref17_Add.mono _ _ _
   | exact levyref17_Div.mono _ _ _
   | exact levyref17_Ordered.mono _ _
   | exact LeO.none _
   | refine LeO.ite ?_ ?_
   | refine LeO.bind ?_ (fun _ => ?_)
  ·intro y0 y1 y2 y3
   unfold levyref17_Smooth.l0
   repeat' first
   | (with_reducible exact ih0 _ _ _)
   | (with_reducible exact ih1 _ _ _ _)
   | (with_reducible exact ih2 _ _ _ _ _ _ _)
   | (with_reducible exact ih3 _ _ _ _ _ _ _ _)
   | (with_reducible exact levyref17_Add.mono _ _ _)
   | (with_reducible exact levyref17_Div.mono _ _ _)
   | (with_reducible exact levyref17_Ordered.mono _ _)
   | (with_reducible exact LeO.refl _)
   | (with_reducible exact LeO.none _)
   | (with_reducible refine LeO.ite ?_ ?_)
   | (with_reducible refine LeO.bind ?_ (fun _ => ?_))
   | exact ih0 _ _ _
   | exact ih1 _ _ _ _
   | exact ih2 _ _ _ _ _ _ _
   | exact ih3 _ _ _ _ _ _ _ _
   | exact levyref17_Add.mono _ _ _
   | exact levyref17_Div.mono _ _ _
   | exact levyref17_Ordered.mono _ _
   | exact LeO.none _
   | refine LeO.ite ?_ ?_
   | refine LeO.bind ?_ (fun _ => ?_)
  ·intro y0 y1 y2 y3 y4 y5 y6
   unfold levyref17_Smooth.l1
   repeat' first
   | (with_reducible exact ih0 _ _ _)
   | (with_reducible exact ih1 _ _ _ _)
   | (with_reducible exact ih2 _ _ _ _ _ _ _)
   | (with_reducible exact ih3 _ _ _ _ _ _ _ _)
   | (with_reducible exact levyref17_Add.mono _ _ _)
   | (with_reducible exact levyref17_Div.mono _ _ _)
   | (with_reducible exact levyref17_Ordered.mono _ _)
   | (with_reducible exact LeO.refl _)
   | (with_reducible exact LeO.none _)
   | (with_reducible refine LeO.ite ?_ ?_)
   | (with_reducible refine LeO.bind ?_ (fun _ => ?_))
   | exact ih0 _ _ _
   | exact ih1 _ _ _ _
   | exact ih2 _ _ _ _ _ _ _
   | exact ih3 _ _ _ _ _ _ _ _
   | exact levyref17_Add.mono _ _ _
   | exact levyref17_Div.mono _ _ _
   | exact levyref17_Ordered.mono _ _
   | exact LeO.none _
   | refine LeO.ite ?_ ?_
   | refine LeO.bind ?_ (fun _ => ?_)
  ·intro y0 y1 y2 y3 y4 y5 y6 y7
   unfold levyref17_Smooth.j3
   repeat' first
   | (with_reducible exact ih0 _ _ _)
   | (with_reducible exact ih1 _ _ _ _)
   | (with_reducible exact ih2 _ _ _ _ _ _ _)
   | (with_reducible exact ih3 _ _ _ _ _ _ _ _)
   | (with_reducible exact levyref17_Add.mono _ _ _)
   | (with_reducible exact levyref17_Div.mono _ _ _)
   | (with_reducible exact levyref17_Ordered.mono _ _)
   | (with_reducible exact LeO.refl _)
   | (with_reducible exact LeO.none _)
   | (with_reducible refine LeO.ite ?_ ?_)
   | (with_reducible refine LeO.bind ?_ (fun _ => ?_))
   | exact ih0 _ _ _
   | exact ih1 _ _ _ _
   | exact ih2 _ _ _ _ _ _ _
   | exact ih3 _ _ _ _ _ _ _ _
   | exact levyref17_Add.mono _ _ _
   | exact levyref17_Div.mono _ _ _
   | exact levyref17_Ordered.mono _ _
   | exact LeO.none _
   | refine LeO.ite ?_ ?_
   | refine LeO.bind ?_ (fun _ => ?_)
theorem levyref17_Smooth.mono : ∀ a0 a1 k, LeO (levyref17_Smooth.f k a0 a1) (levyref17_Smooth.f (k + 1) a0 a1) := by
 intro a0 a1 k
 obtain ⟨ih0, ih1, ih2, ih3⟩ := levyref17_Smooth.mono_l k
 unfold levyref17_Smooth.f
 repeat' first
   | (with_reducible exact ih0 _ _ _)
   | (with_reducible exact ih1 _ _ _ _)
   | (with_reducible exact ih2 _ _ _ _ _ _ _)
   | (with_reducible exact ih3 _ _ _ _ _ _ _ _)
   | (with_reducible exact levyref17_Add.mono _ _ _)
   | (with_reducible exact levyref17_Div.mono _ _ _)
   | (with_reducible exact levyref17_Ordered.mono _ _)
   | (with_reducible exact LeO.refl _)
   | (with_reducible exact LeO.none _)
   | (with_reducible refine LeO.ite ?_ ?_)
   | (with_reducible refine LeO.bind ?_ (fun _ => ?_))
   | exact ih0 _ _ _
   | exact ih1 _ _ _ _
   | exact ih2 _ _ _ _ _ _ _
   | exact ih3 _ _ _ _ _ _ _ _
   | exact levyref17_Add.mono _ _ _
   | exact levyref17_Div.mono _ _ _
   | exact levyref17_Ordered.mono _ _
   | exact LeO.none _
   | refine LeO.ite ?_ ?_
   | refine LeO.bind ?_ (fun _ => ?_)
set_option maxHeartbeats 8000000 in
set_option maxRecDepth 100000 in
theorem levyref17_Smooth.calls (k : Nat) (A0 : Option Addr) (c0 : Nat) (l0 : List (S38)) (a1 : Int) (r1 : List (S38)) (r2 : Int) (w : World) (hr0 : Kd.C k38 w A0 l0.length l0) (hc0 : l0.length ≤ c0) (h : levyref17_Smooth.f k l0 a1 = some (r1, r2)) :
  Calls Try.prog 44 #[.slice A0 l0.length c0, .int .i64 a1] w fun e w' => ∃ v0_ : Value, e = .returned (.tuple #[v0_, .int .i64 r2]) ∧ Kd.R k38 38 w' w.heap.size (fun _ => True) v0_ r1 ∧ Below w.heap.size w w' := by
 have hu38 := Try.underlying38
 have HR0 := Aside0.mk hr0
 have HC0 := Aside0.mk hc0
 clear hr0 hc0
 have HB := Aside0.mk (Below.refl w.heap.size w)
 have H : (if a1 < 1 then (levyref17_Smooth.j0 k l0 a1 true) else (if a1 > 15 then (levyref17_Smooth.j0 k l0 a1 true) else (levyref17_Smooth.j0 k l0 a1 ((Int.tmod a1 2) == 0)))) = some (r1, r2) := h
 clear h
 have HC3 := Aside0.mk H
 clear H
 go_enter Try.func44, Try.ntmps44
 go_upto_region 1 with (fail)
 go_cut [25] (fun v25 wc => ∃ (kq : Nat) (x25_2 : Bool), v25 = .bool x25_2 ∧ Aside0 (levyref17_Smooth.j0 kq l0 a1 x25_2 = some (r1, r2)) ∧ Aside0 (kq ≤ k) ∧ Aside0 (Below w.heap.size w wc))
 case first =>
  have H := HC3.out
  clear HC3
  by_cases c4 : a1 < 1
  ·rw [if_pos c4] at H
   have c4b0 : decide (a1 < 1) = true := decide_eq_true c4
   clear c4
   (first | rw [c4b0] | (simp only [i64_w, i32_w]; rw [c4b0]) | skip)
   have H' := Aside0.mk H
   clear H
   go_wp2
   go_meet
   case rel => exact ⟨_, (true), (by first | rfl | (simp; done) | (simp [*]; done)), H', ⟨by first | omega | exact Nat.le_refl _⟩, ⟨blx⟩⟩
  ·rw [if_neg c4] at H
   have c4b0 : decide (a1 < 1) = false := decide_eq_false c4
   clear c4
   (first | rw [c4b0] | (simp only [i64_w, i32_w]; rw [c4b0]) | skip)
   by_cases c5 : a1 > 15
   ·rw [if_pos c5] at H
    have c5b0 : decide (15 < a1) = true := decide_eq_true c5
    clear c5
    have H' := Aside0.mk H
    clear H
    go_wp2
    go_meet
    case rel => exact ⟨_, (true), (by first | rfl | (simp; done) | (simp [*]; done)), H', ⟨by first | omega | exact Nat.le_refl _⟩, ⟨blx⟩⟩
   ·rw [if_neg c5] at H
    have c5b0 : decide (15 < a1) = false := decide_eq_false c5
    clear c5
    have H' := Aside0.mk H
    clear H
    go_wp2
    go_meet
    case rel => exact ⟨_, (((Int.tmod a1 2) == 0)), (by first | rfl | (simp; done) | (simp [*]; done)), H', ⟨by first | omega | exact Nat.le_refl _⟩, ⟨blx⟩⟩
 case rest =>
  clear HC3
  try clear p2
  try clear c4
  try clear c4b0
  try clear c5
  try clear c5b0
  obtain ⟨kq, x25_2, rfl, HA, HJ2, HB⟩ := hcut
  cases kq with
  | zero => exact absurd HA.out (by simp [levyref17_Smooth.j0])
  | succ kj2 =>
   have H := HA.out
   clear HA
   simp only [levyref17_Smooth.j0] at H
   by_cases c6 : x25_2 = true
   ·subst c6
    have H1 : (some (([] : List (S38)), 173)) = some (r1, r2) := by rw [if_pos rfl] at H; exact H
    clear H
    have H := H1
    clear H1
    simp only [Option.some.injEq, Prod.mk.injEq] at H
    obtain ⟨rfl, rfl⟩ := H
    go_wp2
    go_ret2
    exact ⟨_, by first | rfl | (simp [errW_none, errW_some] <;> rfl) | (simp [*, errW_none, errW_some] <;> rfl), by first | exact Kd.R_nil _ _ _ _ _ | exact Kd.N_nil _ _ _ _ _ | exact Kd.V_nil _ _ _ _ _ | exact Kd.Q_nil _ _ _ _ _ | exact Kd.S_nil _ _ _ _ _, blx⟩
   ·replace c6 := Bool.eq_false_iff.mpr c6
    subst c6
    have H1 : ((levyref17_Ordered.f kj2 l0).bind fun t186 => (if t186 = true then (levyref17_Smooth.l0 kj2 l0 ([] : List (S38)) (wrap64 (Int.tdiv (wrap64 (a1 - 1)) 2)) 0) else (some (([] : List (S38)), 172)))) = some (r1, r2) := by rw [if_neg (show ¬ (false = true) by decide)] at H; exact H
    clear H
    have H := H1
    clear H1
    replace H := Option.bind_eq_some_iff.mp H
    obtain ⟨t186, A70, H⟩ := H
    replace H : (if t186 = true then (levyref17_Smooth.l0 kj2 l0 ([] : List (S38)) (wrap64 (Int.tdiv (wrap64 (a1 - 1)) 2)) 0) else (some (([] : List (S38)), 172))) = some (r1, r2) := H
    have A7 := Aside0.mk A70
    clear A70
    by_cases c8 : t186 = true
    ·subst c8
     have H1 : (levyref17_Smooth.l0 kj2 l0 ([] : List (S38)) (wrap64 (Int.tdiv (wrap64 (a1 - 1)) 2)) 0) = some (r1, r2) := by rw [if_pos rfl] at H; exact H
     clear H
     have H := H1
     clear H1
     have H' := Aside0.mk H
     clear H
     go_wp2_with (first | ((with_reducible refine gate_callee (f := 55) rfl ?_); refine goesL_ (some 27) rfl rfl Try.func55 (by kernel_rfl) rfl #[.slice A0 l0.length c0] rfl agx ?_; (with_reducible refine (levyref17_Ordered.calls kj2 _ _ l0 true _ ?side1 ?side2 A7.out).mono ?_); (case side1 => repeat (first | exact (Kd.C_below HR0.out HB.out) | (with_reducible refine Kd.C_alloc ?_ _) | (with_reducible refine Kd.C_drewN ?_ _) | (with_reducible refine Kd.C_drew ?_))); (case side2 => exact HC0.out); rintro e w' ⟨rfl, ⟨nd, rfl⟩⟩; refine ⟨_, rfl, ?_⟩))
     go_loopg [7, 9] kj2 (fun kq v7 v9 w' => ∃ (x7_2 : List (S38)) (x9_2 : Int), v9 = .int .i64 x9_2 ∧ Aside0 (levyref17_Smooth.l0 kq l0 x7_2 (wrap64 (Int.tdiv (wrap64 (a1 - 1)) 2)) x9_2 = some (r1, r2)) ∧ Aside0 (kq ≤ kj2) ∧ Aside0 (Kd.R k38 38 w' w.heap.size (fun _ => True) v7 x7_2) ∧ Aside0 (Below w.heap.size w w'))
     case atStart => exact ⟨(([] : List (S38))), (0), (by first | rfl | (simp; done) | (simp [*]; done)), H', ⟨Nat.le_refl _⟩, ⟨by first | exact Kd.R_nil _ _ _ _ _ | exact Kd.N_nil _ _ _ _ _ | exact Kd.V_nil _ _ _ _ _ | exact Kd.Q_nil _ _ _ _ _ | exact Kd.S_nil _ _ _ _ _⟩, ⟨blx⟩⟩
     case round =>
      clear H'
      try clear p2
      try clear c4
      try clear c4b0
      try clear c5
      try clear c5b0
      try clear c6
      try clear p6
      try clear c8
      try clear p2
      obtain ⟨x7_2, x9_2, rfl, HA, HK2, HO_7, HB⟩ := hrel
      cases gk with
      | zero => exact absurd HA.out (by simp [levyref17_Smooth.l0])
      | succ k2 =>
       have H := HA.out
       clear HA
       simp only [levyref17_Smooth.l0] at H
       by_cases c9 : x9_2 < (l0.length : Int)
       ·rw [if_pos c9] at H
        have c9b0 : decide (x9_2 < (l0.length : Int)) = true := decide_eq_true c9
        clear c9
        have H' := Aside0.mk H
        clear H
        go_wp2
        go_loopg [10, 11, 12] k2 (fun kq v10 v11 v12 w' => ∃ (x10_3 : Int) (x11_3 : Int) (x12_3 : Int), v10 = .int .i64 x10_3 ∧ v11 = .int .u32 x11_3 ∧ v12 = .int .i64 x12_3 ∧ Aside0 (levyref17_Smooth.l1 kq l0 x7_2 (wrap64 (Int.tdiv (wrap64 (a1 - 1)) 2)) x9_2 x10_3 x11_3 x12_3 = some (r1, r2)) ∧ Aside0 (kq ≤ k2) ∧ Aside0 (Kd.R k38 38 w' w.heap.size (fun _ => True) u7 x7_2) ∧ Aside0 (Below w.heap.size w w'))
        case atStart => exact ⟨(0), (0), (wrap64 (x9_2 - (wrap64 (Int.tdiv (wrap64 (a1 - 1)) 2)))), (by first | rfl | (simp; done) | (simp [*]; done)), (by first | rfl | (simp; done) | (simp [*]; done)), (by first | rfl | (simp; done) | (simp [*]; done)), H', ⟨Nat.le_refl _⟩, ⟨by (with_reducible repeat (first | apply Kd.R_alloc | apply Kd.R_drewN | apply Kd.R_drew)); exact HO_7.out⟩, ⟨blx⟩⟩
        case round =>
         clear H'
         try clear p2
         try clear c4
         try clear c4b0
         try clear c5
         try clear c5b0
         try clear c6
         try clear p6
         try clear c8
         try clear c9
         try clear c9b0
         try clear p2
         try clear p6
         obtain ⟨x10_3, x11_3, x12_3, rfl, rfl, rfl, HA, HK3, HO_7, HB⟩ := hrel
         cases gk with
         | zero => exact absurd HA.out (by simp [levyref17_Smooth.l1])
         | succ k3 =>
          have H := HA.out
          clear HA
          simp only [levyref17_Smooth.l1] at H
          by_cases c10 : x12_3 ≤ (wrap64 (x9_2 + (wrap64 (Int.tdiv (wrap64 (a1 - 1)) 2))))
          ·rw [if_pos c10] at H
           have c10b0 : decide (x12_3 ≤ (wrap64 (x9_2 + (wrap64 (Int.tdiv (wrap64 (a1 - 1)) 2))))) = true := decide_eq_true c10
           clear c10
           have HC11 := Aside0.mk H
           clear H
           go_upto_region 16 with (fail)
           go_cut [56] (fun v56 wc => ∃ (kq : Nat) (x56_10 : Bool), v56 = .bool x56_10 ∧ Aside0 (levyref17_Smooth.j3 kq l0 x7_2 (wrap64 (Int.tdiv (wrap64 (a1 - 1)) 2)) x9_2 x10_3 x11_3 x12_3 x56_10 = some (r1, r2)) ∧ Aside0 (kq ≤ k3) ∧ Aside0 (Kd.R k38 38 wc w.heap.size (fun _ => True) u7 x7_2) ∧ Aside0 (Below w.heap.size w wc))
           case first =>
            have H := HC11.out
            clear HC11
            by_cases c12 : x12_3 < 0
            ·rw [if_pos c12] at H
             have c12b0 : decide (x12_3 < 0) = true := decide_eq_true c12
             clear c12
             (first | rw [c12b0] | (simp only [i64_w, i32_w]; rw [c12b0]) | skip)
             have H' := Aside0.mk H
             clear H
             go_wp2
             go_meet
             case rel => exact ⟨_, (true), (by first | rfl | (simp; done) | (simp [*]; done)), H', ⟨by have := HJ2.out; have := HK2.out; have := HK3.out; first | omega | exact Nat.le_refl _⟩, ⟨by (with_reducible repeat (first | apply Kd.R_alloc | apply Kd.R_drewN | apply Kd.R_drew)); exact HO_7.out⟩, ⟨blx⟩⟩
            ·rw [if_neg c12] at H
             have c12b0 : decide (x12_3 < 0) = false := decide_eq_false c12
             clear c12
             (first | rw [c12b0] | (simp only [i64_w, i32_w]; rw [c12b0]) | skip)
             have H' := Aside0.mk H
             clear H
             go_wp2
             go_meet
             case rel => exact ⟨_, (decide (x12_3 ≥ (l0.length : Int))), (by first | rfl | (simp; done) | (simp [*]; done)), H', ⟨by have := HJ2.out; have := HK2.out; have := HK3.out; first | omega | exact Nat.le_refl _⟩, ⟨by (with_reducible repeat (first | apply Kd.R_alloc | apply Kd.R_drewN | apply Kd.R_drew)); exact HO_7.out⟩, ⟨blx⟩⟩
           case rest =>
            clear HC11
            try clear c1
            try clear p2
            try clear c4
            try clear c4b0
            try clear c5
            try clear c5b0
            try clear c6
            try clear p6
            try clear c8
            try clear c9
            try clear c9b0
            try clear c10
            try clear c10b0
            try clear c12
            try clear c12b0
            try clear p2
            try clear p6
            obtain ⟨kq, x56_10, rfl, HA, HJ10, HO_7, HB⟩ := hcut
            cases kq with
            | zero => exact absurd HA.out (by simp [levyref17_Smooth.j3])
            | succ kj10 =>
             have H := HA.out
             clear HA
             simp only [levyref17_Smooth.j3] at H
             by_cases c13 : x56_10 = true
             ·subst c13
              have H1 : (levyref17_Smooth.l1 kj10 l0 x7_2 (wrap64 (Int.tdiv (wrap64 (a1 - 1)) 2)) x9_2 x10_3 x11_3 (wrap64 (x12_3 + 1))) = some (r1, r2) := by rw [if_pos rfl] at H; exact H
              clear H
              have H := H1
              clear H1
              have H' := Aside0.mk H
              clear H
              go_wp2
              go_roundg kj10
              case measure => have := HJ2.out; have := HK2.out; have := HK3.out; have := HJ10.out; omega
              case rel => exact ⟨(x10_3), (x11_3), (wrap64 (x12_3 + 1)), (by first | rfl | (simp; done) | (simp [*]; done)), (by first | rfl | (simp; done) | (simp [*]; done)), (by first | rfl | (simp; done) | (simp [*]; done)), H', ⟨by have := HJ2.out; have := HK2.out; have := HK3.out; have := HJ10.out; omega⟩, ⟨by (with_reducible repeat (first | apply Kd.R_alloc | apply Kd.R_drewN | apply Kd.R_drew)); exact HO_7.out⟩, ⟨blx⟩⟩
             ·replace c13 := Bool.eq_false_iff.mpr c13
              subst c13
              have H1 : (if x10_3 = 0 then (if 0 ≤ x12_3 then (if x12_3 < (l0.length : Int) then (levyref17_Smooth.l1 kj10 l0 x7_2 (wrap64 (Int.tdiv (wrap64 (a1 - 1)) 2)) x9_2 (wrap64 (x10_3 + 1)) ((rd_T38 l0 x12_3).f1) (wrap64 (x12_3 + 1))) else (none)) else (none)) else (if 0 ≤ x12_3 then (if x12_3 < (l0.length : Int) then ((levyref17_Add.f kj10 x11_3 ((rd_T38 l0 x12_3).f1)).bind fun t195 => (levyref17_Smooth.l1 kj10 l0 x7_2 (wrap64 (Int.tdiv (wrap64 (a1 - 1)) 2)) x9_2 (wrap64 (x10_3 + 1)) t195 (wrap64 (x12_3 + 1)))) else (none)) else (none))) = some (r1, r2) := by rw [if_neg (show ¬ (false = true) by decide)] at H; exact H
              clear H
              have H := H1
              clear H1
              by_cases c14 : x10_3 = 0
              ·rw [if_pos c14] at H
               have c14b0 : (x10_3 == 0) = true := beq_iff_eq.mpr c14
               have c14b1 : (x10_3 != 0) = false := bne_eq_false_iff_eq.mpr c14
               clear c14
               by_cases c15 : 0 ≤ x12_3
               ·rw [if_pos c15] at H
                have c15b0 : decide (0 ≤ x12_3) = true := decide_eq_true c15
                clear c15
                by_cases c16 : x12_3 < (l0.length : Int)
                ·rw [if_pos c16] at H
                 have c16b0 : decide (x12_3 < (l0.length : Int)) = true := decide_eq_true c16
                 clear c16
                 have H' := Aside0.mk H
                 clear H
                 have p193 : 0 ≤ (x12_3 : Int) := odx
                 have q193 : x12_3 < (l0.length : Int) := odx
                 obtain ⟨ad193, e193, hx193_0, hx193_1⟩ := at_T38 HR0.out x12_3 p193 q193
                 cases e193
                 replace hx193_0 := (HB.out.cell (World.block_lt_of_cell? w _ hx193_0)).trans hx193_0
                 replace hx193_1 := (HB.out.cell (World.block_lt_of_cell? w _ hx193_1)).trans hx193_1
                 replace p193 := eq_true p193
                 replace q193 := eq_true q193
                 go_wp2
                 go_roundg kj10
                 case measure => have := HJ2.out; have := HK2.out; have := HK3.out; have := HJ10.out; omega
                 case rel => exact ⟨(wrap64 (x10_3 + 1)), ((rd_T38 l0 x12_3).f1), (wrap64 (x12_3 + 1)), (by first | rfl | (simp; done) | (simp [*]; done)), (by first | rfl | (simp; done) | (simp [*]; done)), (by first | rfl | (simp; done) | (simp [*]; done)), H', ⟨by have := HJ2.out; have := HK2.out; have := HK3.out; have := HJ10.out; omega⟩, ⟨by (with_reducible repeat (first | apply Kd.R_alloc | apply Kd.R_drewN | apply Kd.R_drew)); exact HO_7.out⟩, ⟨blx⟩⟩
                ·rw [if_neg c16] at H
                 exact absurd H (by simp)
               ·rw [if_neg c15] at H
                exact absurd H (by simp)
              ·rw [if_neg c14] at H
               have c14b0 : (x10_3 == 0) = false := beq_eq_false_iff_ne.mpr c14
               have c14b1 : (x10_3 != 0) = true := bne_iff_ne.mpr c14
               by_cases c17 : 0 ≤ x12_3
               ·rw [if_pos c17] at H
                have c17b0 : decide (0 ≤ x12_3) = true := decide_eq_true c17
                clear c17
                by_cases c18 : x12_3 < (l0.length : Int)
                ·rw [if_pos c18] at H
                 have c18b0 : decide (x12_3 < (l0.length : Int)) = true := decide_eq_true c18
                 clear c18
                 replace H := Option.bind_eq_some_iff.mp H
                 obtain ⟨t195, A190, H⟩ := H
                 replace H : (levyref17_Smooth.l1 kj10 l0 x7_2 (wrap64 (Int.tdiv (wrap64 (a1 - 1)) 2)) x9_2 (wrap64 (x10_3 + 1)) t195 (wrap64 (x12_3 + 1))) = some (r1, r2) := H
                 have A19 := Aside0.mk A190
                 clear A190
                 have H' := Aside0.mk H
                 clear H
                 have p194 : 0 ≤ (x12_3 : Int) := odx
                 have q194 : x12_3 < (l0.length : Int) := odx
                 obtain ⟨ad194, e194, hx194_0, hx194_1⟩ := at_T38 HR0.out x12_3 p194 q194
                 cases e194
                 replace hx194_0 := (HB.out.cell (World.block_lt_of_cell? w _ hx194_0)).trans hx194_0
                 replace hx194_1 := (HB.out.cell (World.block_lt_of_cell? w _ hx194_1)).trans hx194_1
                 replace p194 := eq_true p194
                 replace q194 := eq_true q194
                 go_wp2_with (first | ((with_reducible refine gate_callee (f := 60) rfl ?_); refine goesL_ (some 70) rfl rfl Try.func60 (by kernel_rfl) rfl #[.int .u32 x11_3, .int .u32 ((rd_T38 l0 x12_3).f1)] rfl agx ?_; (with_reducible refine (levyref17_Add.calls kj10 x11_3 ((rd_T38 l0 x12_3).f1) t195 _ A19.out).mono ?_); rintro e w' ⟨rfl, ⟨nd, rfl⟩⟩; refine ⟨_, rfl, ?_⟩))
                 go_roundg kj10
                 case measure => have := HJ2.out; have := HK2.out; have := HK3.out; have := HJ10.out; omega
                 case rel => exact ⟨(wrap64 (x10_3 + 1)), (t195), (wrap64 (x12_3 + 1)), (by first | rfl | (simp; done) | (simp [*]; done)), (by first | rfl | (simp; done) | (simp [*]; done)), (by first | rfl | (simp; done) | (simp [*]; done)), H', ⟨by have := HJ2.out; have := HK2.out; have := HK3.out; have := HJ10.out; omega⟩, ⟨by (with_reducible repeat (first | apply Kd.R_alloc | apply Kd.R_drewN | apply Kd.R_drew)); exact HO_7.out⟩, ⟨blx⟩⟩
                ·rw [if_neg c18] at H
                 exact absurd H (by simp)
               ·rw [if_neg c17] at H
                exact absurd H (by simp)
          ·rw [if_neg c10] at H
           have c10b0 : decide (x12_3 ≤ (wrap64 (x9_2 + (wrap64 (Int.tdiv (wrap64 (a1 - 1)) 2))))) = false := decide_eq_false c10
           clear c10
           replace H := Option.bind_eq_some_iff.mp H
           obtain ⟨t187, A200, H⟩ := H
           replace H : ((levyref17_Div.f k3 x11_3 t187).bind fun t188 => (if 0 ≤ x9_2 then (if x9_2 < (l0.length : Int) then (if x7_2.length < 8796093022208 then (levyref17_Smooth.l0 k3 l0 (x7_2 ++ [(⟨(rd_T38 l0 x9_2).f0, t188⟩ : S38)]) (wrap64 (Int.tdiv (wrap64 (a1 - 1)) 2)) (wrap64 (x9_2 + 1))) else (none)) else (none)) else (none))) = some (r1, r2) := H
           have A20 := Aside0.mk A200
           clear A200
           replace H := Option.bind_eq_some_iff.mp H
           obtain ⟨t188, A210, H⟩ := H
           replace H : (if 0 ≤ x9_2 then (if x9_2 < (l0.length : Int) then (if x7_2.length < 8796093022208 then (levyref17_Smooth.l0 k3 l0 (x7_2 ++ [(⟨(rd_T38 l0 x9_2).f0, t188⟩ : S38)]) (wrap64 (Int.tdiv (wrap64 (a1 - 1)) 2)) (wrap64 (x9_2 + 1))) else (none)) else (none)) else (none)) = some (r1, r2) := H
           have A21 := Aside0.mk A210
           clear A210
           by_cases c22 : 0 ≤ x9_2
           ·rw [if_pos c22] at H
            have c22b0 : decide (0 ≤ x9_2) = true := decide_eq_true c22
            clear c22
            by_cases c23 : x9_2 < (l0.length : Int)
            ·rw [if_pos c23] at H
             have c23b0 : decide (x9_2 < (l0.length : Int)) = true := decide_eq_true c23
             clear c23
             by_cases c24 : x7_2.length < 8796093022208
             ·rw [if_pos c24] at H
              have LMc24 := Aside0.mk c24
              clear c24
              obtain ⟨y190, hy190⟩ : ∃ y_ : List (S38), y_ = (x7_2 ++ [(⟨(rd_T38 l0 x9_2).f0, t188⟩ : S38)]) := ⟨_, rfl⟩
              replace H : (levyref17_Smooth.l0 k3 l0 y190 (wrap64 (Int.tdiv (wrap64 (a1 - 1)) 2)) (wrap64 (x9_2 + 1))) = some (r1, r2) := by first | (rw [hy190]; with_reducible exact H) | (have H2_ := (Option.bind_some _ _).symm.trans H; rw [hy190]; with_reducible exact H2_) | (have H2_ := (Option.bind_some _ _).symm.trans H; with_reducible exact H2_) | with_reducible exact H | (rw [hy190]; exact H) | exact H
              have Ny190 := Aside0.mk hy190
              clear hy190
              have H' := Aside0.mk H
              clear H
              go_wp2_with (first | ((with_reducible refine gate_callee (f := 14) rfl ?_); refine goesL_ (some 74) rfl rfl Try.func14 (by kernel_rfl) rfl #[.int .i64 x10_3] rfl agx ?_; (with_reducible refine (levyref17_Whole.calls x10_3 t187 _ A20.out).mono ?_); rintro e w' ⟨rfl, ⟨nd, rfl⟩⟩; refine ⟨_, rfl, ?_⟩) | ((with_reducible refine gate_callee (f := 57) rfl ?_); refine goesL_ (some 77) rfl rfl Try.func57 (by kernel_rfl) rfl #[.int .u32 x11_3, .int .u32 t187] rfl agx ?_; (with_reducible refine (levyref17_Div.calls k3 x11_3 t187 t188 _ A21.out).mono ?_); rintro e w' ⟨rfl, ⟨nd, rfl⟩⟩; refine ⟨_, rfl, ?_⟩; have p189 : 0 ≤ (x9_2 : Int) := odx; have q189 : x9_2 < (l0.length : Int) := odx; obtain ⟨ad189, e189, hx189_0, hx189_1⟩ := at_T38 HR0.out x9_2 p189 q189; cases e189; replace hx189_0 := (HB.out.cell (World.block_lt_of_cell? w _ hx189_0)).trans hx189_0; replace hx189_1 := (HB.out.cell (World.block_lt_of_cell? w _ hx189_1)).trans hx189_1; replace p189 := eq_true p189; replace q189 := eq_true q189) | ((with_reducible refine gate_builtin (b := .append) (xs := #[.tmp 78, .tmp 86]) rfl ?_); (try (refine gate_guard (by rfl) ?_; dsimp only)); at_builtin; refine Kd.R_append k38 (w0 := w) w.heap.size rfl (.tmp 78) (.tmp 86) 27 38 (.agg #[(.int .i64 0), (.int .u32 0)]) 16 rfl Try.underlying27 info38 rfl (by decide) (by omega) u7 x7_2 (⟨(rd_T38 l0 x9_2).f0, t188⟩ : S38) [.int .i64 ((rd_T38 l0 x9_2).f0), .int .u32 t188] (fun _ => True) (fun _ => False) rfl rfl ?aP (fun _ hk => hk.elim) ?aF ?aO ?aB ?aS ?aL ?_; (case aP => exact k38_mkM _ _ _ (⟨(rd_T38 l0 x9_2).f0, t188⟩ : S38)); (case aB => exact blx); (case aF => exact (fun _ _ => trivial)); (case aO => exact (by (with_reducible repeat (first | apply Kd.R_alloc | apply Kd.R_drewN | apply Kd.R_drew)); exact HO_7.out)); (case aS => exact (below_size blx)); (case aL => have := LMc24.out; omega); intro v191 w25 ho hb hg hat; rw [← Ny190.out] at ho; have n0_ := Aside0.mk (hb); have n1_ := Aside0.mk (ho); clear HB; clear HO_7; have HB := n0_; have HO192 := n1_; clear n0_ n1_; clear ho hb hg hat))
              go_roundg k3
              case measure => have := HJ2.out; have := HK2.out; have := HK3.out; omega
              case rel => exact ⟨(y190), (wrap64 (x9_2 + 1)), (by first | rfl | (simp; done) | (simp [*]; done)), H', ⟨by have := HJ2.out; have := HK2.out; have := HK3.out; omega⟩, ⟨by (with_reducible repeat (first | apply Kd.R_alloc | apply Kd.R_drewN | apply Kd.R_drew)); exact HO192.out⟩, ⟨blx⟩⟩
             ·rw [if_neg c24] at H
              exact absurd H (by simp)
            ·rw [if_neg c23] at H
             exact absurd H (by simp)
           ·rw [if_neg c22] at H
            exact absurd H (by simp)
       ·rw [if_neg c9] at H
        have c9b0 : decide (x9_2 < (l0.length : Int)) = false := decide_eq_false c9
        clear c9
        simp only [Option.some.injEq, Prod.mk.injEq] at H
        obtain ⟨rfl, rfl⟩ := H
        go_wp2
        go_ret2
        exact ⟨_, by first | rfl | (simp [errW_none, errW_some] <;> rfl) | (simp [*, errW_none, errW_some] <;> rfl), by (with_reducible repeat (first | apply Kd.R_alloc | apply Kd.R_drewN | apply Kd.R_drew)); exact HO_7.out, blx⟩
    ·replace c8 := Bool.eq_false_iff.mpr c8
     subst c8
     have H1 : (some (([] : List (S38)), 172)) = some (r1, r2) := by rw [if_neg (show ¬ (false = true) by decide)] at H; exact H
     clear H
     have H := H1
     clear H1
     simp only [Option.some.injEq, Prod.mk.injEq] at H
     obtain ⟨rfl, rfl⟩ := H
     go_wp2_with (first | ((with_reducible refine gate_callee (f := 55) rfl ?_); refine goesL_ (some 27) rfl rfl Try.func55 (by kernel_rfl) rfl #[.slice A0 l0.length c0] rfl agx ?_; (with_reducible refine (levyref17_Ordered.calls kj2 _ _ l0 false _ ?side1 ?side2 A7.out).mono ?_); (case side1 => repeat (first | exact (Kd.C_below HR0.out HB.out) | (with_reducible refine Kd.C_alloc ?_ _) | (with_reducible refine Kd.C_drewN ?_ _) | (with_reducible refine Kd.C_drew ?_))); (case side2 => exact HC0.out); rintro e w' ⟨rfl, ⟨nd, rfl⟩⟩; refine ⟨_, rfl, ?_⟩))
     go_ret2
     exact ⟨_, by first | rfl | (simp [errW_none, errW_some] <;> rfl) | (simp [*, errW_none, errW_some] <;> rfl), by first | exact Kd.R_nil _ _ _ _ _ | exact Kd.N_nil _ _ _ _ _ | exact Kd.V_nil _ _ _ _ _ | exact Kd.Q_nil _ _ _ _ _ | exact Kd.S_nil _ _ _ _ _, blx⟩
end Go.Proofs.Ytfhgomcfpmbhnaa.PS
end

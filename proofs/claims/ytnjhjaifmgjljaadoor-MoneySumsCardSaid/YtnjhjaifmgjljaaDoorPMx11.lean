-- Written by a program of this session's (wip/tools/myprint.py): a function's plain form and its contract.
import Derived.Test.YtnjhjaifmgjljaaDoorPMx0
import Derived.Test.YtnjhjaifmgjljaaDoorPMx2
import Derived.Test.YtnjhjaifmgjljaaDoorPMx10
namespace Go.Proofs.YtnjhjaifmgjljaaDoor.PM
open Go.RowKit Go.Proofs.YtnjhjaifmgjljaaDoorW.PrintWords Go.Proofs.YtnjhjaifmgjljaaDoorW.PrintLast Go.Proofs.YtnjhjaifmgjljaaDoorW.PrintMore
attribute [local go_sem] max2_int min2_int max_two min_two max_three min_three max_four min_four   -- for this text's walks alone
set_option linter.unusedVariables false
set_option linter.unusedSimpArgs false

/-! ### money_checked: function 60 -/
def money_checked.f (a0 : Int) (a1 : Int) : Option (Int × Int) := if 0 ≤ a0 then (if a0 < 7 then (if a1 < ((rd_T87 gtab0 a0).f0) then ((money_fault.f 1).bind fun bt140 => (some (bt140.1, bt140.2))) else (if a1 > ((rd_T87 gtab0 a0).f1) then ((money_fault.f 1).bind fun bt143 => (some (bt143.1, bt143.2))) else (some (a0, a1)))) else (none)) else (none)
set_option maxHeartbeats 8000000 in
set_option maxRecDepth 100000 in
theorem money_checked.calls (a0 : Int) (a1 : Int) (r1 : Int) (r2 : Int) (w : World) (h : money_checked.f a0 a1 = some (r1, r2)) (hg0 : Kd.C k87 w (some ⟨0, 0, none⟩) gtab0.length gtab0) :
  Calls Tryd.prog 60 #[.int .i64 a0, .int .i64 a1] w fun e w' => e = .returned (.agg #[.int .i64 r1, .int .i64 r2]) ∧ Below w.heap.size w w' := by
 have HG0 := Aside0.mk hg0
 clear hg0
 have hu23 := Tryd.underlying23
 have HB := Aside0.mk (Below.refl w.heap.size w)
 have H : (if 0 ≤ a0 then (if a0 < 7 then (if a1 < ((rd_T87 gtab0 a0).f0) then ((money_fault.f 1).bind fun bt140 => (some (bt140.1, bt140.2))) else (if a1 > ((rd_T87 gtab0 a0).f1) then ((money_fault.f 1).bind fun bt143 => (some (bt143.1, bt143.2))) else (some (a0, a1)))) else (none)) else (none)) = some (r1, r2) := h
 clear h
 by_cases c3 : 0 ≤ a0
 ·rw [if_pos c3] at H
  have c3b0 : decide (0 ≤ a0) = true := decide_eq_true c3
  clear c3
  by_cases c4 : a0 < 7
  ·rw [if_pos c4] at H
   have c4b0 : decide (a0 < 7) = true := decide_eq_true c4
   clear c4
   by_cases c5 : a1 < ((rd_T87 gtab0 a0).f0)
   ·rw [if_pos c5] at H
    have c5b0 : decide (a1 < ((rd_T87 gtab0 a0).f0)) = true := decide_eq_true c5
    clear c5
    replace H := Option.bind_eq_some_iff.mp H
    obtain ⟨⟨t140, t141⟩, A60, H⟩ := H
    replace H : (some (t140, t141)) = some (r1, r2) := H
    have A6 := Aside0.mk A60
    clear A60
    simp only [Option.some.injEq, Prod.mk.injEq] at H
    obtain ⟨rfl, rfl⟩ := H
    go_enter Tryd.func60, Tryd.ntmps60
    go_wp2_with (first | ((with_reducible refine gate_dst (N := 4) rfl ?_); refine box_event ?hg (N := 4) ?hd (cs := #[.int .i64 0, .int .i64 0]) (t := 23) ?hr ?_; (case hd => rfl); (case hg => rfl); (case hr => first | (go_simp; done) | (go_simp; rfl)); intro gb138 hg w7 hbox hb; have n0_ := Aside0.mk (below_step blx hb); have n1_ := Aside0.mk (hbox); have n2_ := Aside0.mk ((by rw [hg]; exact (below_size blx) : w.heap.size ≤ gb138)); have n3_ := Aside0.mk ((by rw [hg]; exact (below_size blx) : w.heap.size ≤ gb138)); clear HB; have HB := n0_; have BK138 := n1_; have GW138 := n2_; have GE138 := n3_; clear n0_ n1_ n2_ n3_; clear hb hbox hg; have p139 : 0 ≤ (a0 : Int) := odx; have q139 : a0 < (gtab0.length : Int) := odx; have ql139 : ((a0 : Int) < (7 : Int)) = True := eq_true (odx); obtain ⟨ad139, e139, hx139_0, hx139_1, hx139_2⟩ := at_T87 HG0.out a0 p139 q139; obtain rfl : (⟨0, 0, none⟩ : Addr) = ad139 := (by injection e139); (first | simp only [add_plain] at hx139_0 | simp only [add_at] at hx139_0 | simp only [Addr.add, Nat.zero_add] at hx139_0 | skip); (first | simp only [add_plain] at hx139_1 | simp only [add_at] at hx139_1 | simp only [Addr.add, Nat.zero_add] at hx139_1 | skip); (first | simp only [add_plain] at hx139_2 | simp only [add_at] at hx139_2 | simp only [Addr.add, Nat.zero_add] at hx139_2 | skip); replace hx139_0 := (HB.out.cell (World.block_lt_of_cell? w _ hx139_0)).trans hx139_0; replace hx139_1 := (HB.out.cell (World.block_lt_of_cell? w _ hx139_1)).trans hx139_1; replace hx139_2 := (HB.out.cell (World.block_lt_of_cell? w _ hx139_2)).trans hx139_2; replace p139 := eq_true p139; replace q139 := eq_true q139) | ((with_reducible refine gate_callee (f := 59) rfl ?_); refine goesL_ (some 19) rfl rfl Tryd.func59 (by kernel_rfl) rfl #[.int .i64 1] rfl agx ?_; (with_reducible refine (money_fault.calls 1 t140 t141 _ A6.out).mono ?_); rintro e w8 ⟨rfl, hb⟩; refine ⟨_, rfl, ?_⟩; have n0_ := Aside0.mk (blk_below (g := gb138) (o := .cells #[.int .i64 0, .int .i64 0] 23 (0, 0)) bkx hb); have n1_ := Aside0.mk (below_step blx hb); clear BK138; clear HB; have BK138 := n0_; have HB := n1_; clear n0_ n1_; (try clear hb); (try clear hb2); (try clear hk); (try clear hi); have hcz9_0 : w8.cell? ⟨gb138, 0, none⟩ = some (.int .i64 0) := (blk_cell BK138.out 0).trans rfl; have hcz9_1 : w8.cell? ⟨gb138, 1, none⟩ = some (.int .i64 0) := (blk_cell BK138.out 1).trans rfl; have hfz9_0 := blk_frozen BK138.out 0; have hfz9_1 := blk_frozen BK138.out 1))
    refine bodyPost_ret (results_cell_row rfl _ _ gb138 23 #[.int .i64 t140, .int .i64 t141] (0, 0) _ rfl (by (with_reducible repeat (first | refine blk_drewN ?_ _ | refine blk_drew ?_ | refine blk_alloc ?_ _)); refine blk_put (cs := #[.int .i64 t140, .int .i64 0]) ?_ 1 _ rfl; (with_reducible repeat (first | refine blk_drewN ?_ _ | refine blk_drew ?_ | refine blk_alloc ?_ _)); refine blk_put (cs := #[.int .i64 0, .int .i64 0]) ?_ 0 _ rfl; (with_reducible repeat (first | refine blk_drewN ?_ _ | refine blk_drew ?_ | refine blk_alloc ?_ _)); exact BK138.out) Tryd.underlying23 rfl (by kernel_rfl)) rfl ?_
    exact ⟨by first | rfl | (simp [errW_none, errW_some] <;> rfl) | (simp [*, errW_none, errW_some] <;> rfl), blx⟩
   ·rw [if_neg c5] at H
    have c5b0 : decide (a1 < ((rd_T87 gtab0 a0).f0)) = false := decide_eq_false c5
    clear c5
    by_cases c10 : a1 > ((rd_T87 gtab0 a0).f1)
    ·rw [if_pos c10] at H
     have c10b0 : decide (((rd_T87 gtab0 a0).f1) < a1) = true := decide_eq_true c10
     clear c10
     replace H := Option.bind_eq_some_iff.mp H
     obtain ⟨⟨t143, t144⟩, A110, H⟩ := H
     replace H : (some (t143, t144)) = some (r1, r2) := H
     have A11 := Aside0.mk A110
     clear A110
     simp only [Option.some.injEq, Prod.mk.injEq] at H
     obtain ⟨rfl, rfl⟩ := H
     go_enter Tryd.func60, Tryd.ntmps60
     go_wp2_with (first | ((with_reducible refine gate_dst (N := 4) rfl ?_); refine box_event ?hg (N := 4) ?hd (cs := #[.int .i64 0, .int .i64 0]) (t := 23) ?hr ?_; (case hd => rfl); (case hg => rfl); (case hr => first | (go_simp; done) | (go_simp; rfl)); intro gb138 hg w12 hbox hb; have n0_ := Aside0.mk (below_step blx hb); have n1_ := Aside0.mk (hbox); have n2_ := Aside0.mk ((by rw [hg]; exact (below_size blx) : w.heap.size ≤ gb138)); have n3_ := Aside0.mk ((by rw [hg]; exact (below_size blx) : w.heap.size ≤ gb138)); clear HB; have HB := n0_; have BK138 := n1_; have GW138 := n2_; have GE138 := n3_; clear n0_ n1_ n2_ n3_; clear hb hbox hg; have p139 : 0 ≤ (a0 : Int) := odx; have q139 : a0 < (gtab0.length : Int) := odx; have ql139 : ((a0 : Int) < (7 : Int)) = True := eq_true (odx); obtain ⟨ad139, e139, hx139_0, hx139_1, hx139_2⟩ := at_T87 HG0.out a0 p139 q139; obtain rfl : (⟨0, 0, none⟩ : Addr) = ad139 := (by injection e139); (first | simp only [add_plain] at hx139_0 | simp only [add_at] at hx139_0 | simp only [Addr.add, Nat.zero_add] at hx139_0 | skip); (first | simp only [add_plain] at hx139_1 | simp only [add_at] at hx139_1 | simp only [Addr.add, Nat.zero_add] at hx139_1 | skip); (first | simp only [add_plain] at hx139_2 | simp only [add_at] at hx139_2 | simp only [Addr.add, Nat.zero_add] at hx139_2 | skip); replace hx139_0 := (HB.out.cell (World.block_lt_of_cell? w _ hx139_0)).trans hx139_0; replace hx139_1 := (HB.out.cell (World.block_lt_of_cell? w _ hx139_1)).trans hx139_1; replace hx139_2 := (HB.out.cell (World.block_lt_of_cell? w _ hx139_2)).trans hx139_2; replace p139 := eq_true p139; replace q139 := eq_true q139; have p142 : 0 ≤ (a0 : Int) := odx; have q142 : a0 < (gtab0.length : Int) := odx; have ql142 : ((a0 : Int) < (7 : Int)) = True := eq_true (odx); obtain ⟨ad142, e142, hx142_0, hx142_1, hx142_2⟩ := at_T87 HG0.out a0 p142 q142; obtain rfl : (⟨0, 0, none⟩ : Addr) = ad142 := (by injection e142); (first | simp only [add_plain] at hx142_0 | simp only [add_at] at hx142_0 | simp only [Addr.add, Nat.zero_add] at hx142_0 | skip); (first | simp only [add_plain] at hx142_1 | simp only [add_at] at hx142_1 | simp only [Addr.add, Nat.zero_add] at hx142_1 | skip); (first | simp only [add_plain] at hx142_2 | simp only [add_at] at hx142_2 | simp only [Addr.add, Nat.zero_add] at hx142_2 | skip); replace hx142_0 := (HB.out.cell (World.block_lt_of_cell? w _ hx142_0)).trans hx142_0; replace hx142_1 := (HB.out.cell (World.block_lt_of_cell? w _ hx142_1)).trans hx142_1; replace hx142_2 := (HB.out.cell (World.block_lt_of_cell? w _ hx142_2)).trans hx142_2; replace p142 := eq_true p142; replace q142 := eq_true q142) | ((with_reducible refine gate_callee (f := 59) rfl ?_); refine goesL_ (some 19) rfl rfl Tryd.func59 (by kernel_rfl) rfl #[.int .i64 1] rfl agx ?_; (with_reducible refine (money_fault.calls 1 t143 t144 _ A11.out).mono ?_); rintro e w13 ⟨rfl, hb⟩; refine ⟨_, rfl, ?_⟩; have n0_ := Aside0.mk (blk_below (g := gb138) (o := .cells #[.int .i64 0, .int .i64 0] 23 (0, 0)) bkx hb); have n1_ := Aside0.mk (below_step blx hb); clear BK138; clear HB; have BK138 := n0_; have HB := n1_; clear n0_ n1_; (try clear hb); (try clear hb2); (try clear hk); (try clear hi); have hcz14_0 : w13.cell? ⟨gb138, 0, none⟩ = some (.int .i64 0) := (blk_cell BK138.out 0).trans rfl; have hcz14_1 : w13.cell? ⟨gb138, 1, none⟩ = some (.int .i64 0) := (blk_cell BK138.out 1).trans rfl; have hfz14_0 := blk_frozen BK138.out 0; have hfz14_1 := blk_frozen BK138.out 1))
     refine bodyPost_ret (results_cell_row rfl _ _ gb138 23 #[.int .i64 t143, .int .i64 t144] (0, 0) _ rfl (by (with_reducible repeat (first | refine blk_drewN ?_ _ | refine blk_drew ?_ | refine blk_alloc ?_ _)); refine blk_put (cs := #[.int .i64 t143, .int .i64 0]) ?_ 1 _ rfl; (with_reducible repeat (first | refine blk_drewN ?_ _ | refine blk_drew ?_ | refine blk_alloc ?_ _)); refine blk_put (cs := #[.int .i64 0, .int .i64 0]) ?_ 0 _ rfl; (with_reducible repeat (first | refine blk_drewN ?_ _ | refine blk_drew ?_ | refine blk_alloc ?_ _)); exact BK138.out) Tryd.underlying23 rfl (by kernel_rfl)) rfl ?_
     exact ⟨by first | rfl | (simp [errW_none, errW_some] <;> rfl) | (simp [*, errW_none, errW_some] <;> rfl), blx⟩
    ·rw [if_neg c10] at H
     have c10b0 : decide (((rd_T87 gtab0 a0).f1) < a1) = false := decide_eq_false c10
     clear c10
     simp only [Option.some.injEq, Prod.mk.injEq] at H
     obtain ⟨rfl, rfl⟩ := H
     go_enter Tryd.func60, Tryd.ntmps60
     go_wp2_with (first | ((with_reducible refine gate_dst (N := 4) rfl ?_); refine box_event ?hg (N := 4) ?hd (cs := #[.int .i64 0, .int .i64 0]) (t := 23) ?hr ?_; (case hd => rfl); (case hg => rfl); (case hr => first | (go_simp; done) | (go_simp; rfl)); intro gb138 hg w15 hbox hb; have n0_ := Aside0.mk (below_step blx hb); have n1_ := Aside0.mk (hbox); have n2_ := Aside0.mk ((by rw [hg]; exact (below_size blx) : w.heap.size ≤ gb138)); have n3_ := Aside0.mk ((by rw [hg]; exact (below_size blx) : w.heap.size ≤ gb138)); clear HB; have HB := n0_; have BK138 := n1_; have GW138 := n2_; have GE138 := n3_; clear n0_ n1_ n2_ n3_; clear hb hbox hg; have p139 : 0 ≤ (a0 : Int) := odx; have q139 : a0 < (gtab0.length : Int) := odx; have ql139 : ((a0 : Int) < (7 : Int)) = True := eq_true (odx); obtain ⟨ad139, e139, hx139_0, hx139_1, hx139_2⟩ := at_T87 HG0.out a0 p139 q139; obtain rfl : (⟨0, 0, none⟩ : Addr) = ad139 := (by injection e139); (first | simp only [add_plain] at hx139_0 | simp only [add_at] at hx139_0 | simp only [Addr.add, Nat.zero_add] at hx139_0 | skip); (first | simp only [add_plain] at hx139_1 | simp only [add_at] at hx139_1 | simp only [Addr.add, Nat.zero_add] at hx139_1 | skip); (first | simp only [add_plain] at hx139_2 | simp only [add_at] at hx139_2 | simp only [Addr.add, Nat.zero_add] at hx139_2 | skip); replace hx139_0 := (HB.out.cell (World.block_lt_of_cell? w _ hx139_0)).trans hx139_0; replace hx139_1 := (HB.out.cell (World.block_lt_of_cell? w _ hx139_1)).trans hx139_1; replace hx139_2 := (HB.out.cell (World.block_lt_of_cell? w _ hx139_2)).trans hx139_2; replace p139 := eq_true p139; replace q139 := eq_true q139; have p142 : 0 ≤ (a0 : Int) := odx; have q142 : a0 < (gtab0.length : Int) := odx; have ql142 : ((a0 : Int) < (7 : Int)) = True := eq_true (odx); obtain ⟨ad142, e142, hx142_0, hx142_1, hx142_2⟩ := at_T87 HG0.out a0 p142 q142; obtain rfl : (⟨0, 0, none⟩ : Addr) = ad142 := (by injection e142); (first | simp only [add_plain] at hx142_0 | simp only [add_at] at hx142_0 | simp only [Addr.add, Nat.zero_add] at hx142_0 | skip); (first | simp only [add_plain] at hx142_1 | simp only [add_at] at hx142_1 | simp only [Addr.add, Nat.zero_add] at hx142_1 | skip); (first | simp only [add_plain] at hx142_2 | simp only [add_at] at hx142_2 | simp only [Addr.add, Nat.zero_add] at hx142_2 | skip); replace hx142_0 := (HB.out.cell (World.block_lt_of_cell? w _ hx142_0)).trans hx142_0; replace hx142_1 := (HB.out.cell (World.block_lt_of_cell? w _ hx142_1)).trans hx142_1; replace hx142_2 := (HB.out.cell (World.block_lt_of_cell? w _ hx142_2)).trans hx142_2; replace p142 := eq_true p142; replace q142 := eq_true q142; have hcz16_0 : w15.cell? ⟨gb138, 0, none⟩ = some (.int .i64 0) := (blk_cell BK138.out 0).trans rfl; have hcz16_1 : w15.cell? ⟨gb138, 1, none⟩ = some (.int .i64 0) := (blk_cell BK138.out 1).trans rfl; have hfz16_0 := blk_frozen BK138.out 0; have hfz16_1 := blk_frozen BK138.out 1))
     refine bodyPost_ret (results_cell_row rfl _ _ gb138 23 #[.int .i64 a0, .int .i64 a1] (0, 0) _ rfl (by (with_reducible repeat (first | refine blk_drewN ?_ _ | refine blk_drew ?_ | refine blk_alloc ?_ _)); refine blk_put (cs := #[.int .i64 a0, .int .i64 0]) ?_ 1 _ rfl; (with_reducible repeat (first | refine blk_drewN ?_ _ | refine blk_drew ?_ | refine blk_alloc ?_ _)); refine blk_put (cs := #[.int .i64 0, .int .i64 0]) ?_ 0 _ rfl; (with_reducible repeat (first | refine blk_drewN ?_ _ | refine blk_drew ?_ | refine blk_alloc ?_ _)); exact BK138.out) Tryd.underlying23 rfl (by kernel_rfl)) rfl ?_
     exact ⟨by first | rfl | (simp [errW_none, errW_some] <;> rfl) | (simp [*, errW_none, errW_some] <;> rfl), blx⟩
  ·rw [if_neg c4] at H
   exact absurd H (by simp)
 ·rw [if_neg c3] at H
  exact absurd H (by simp)

end Go.Proofs.YtnjhjaifmgjljaaDoor.PM

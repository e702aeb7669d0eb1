-- Written by a program of this session's (wip/tools/myprint.py): a function's plain form and its contract.
import Derived.Test.YtnjhjaifmgjljaaDoorPMx0
import Derived.Test.YtnjhjaifmgjljaaDoorPMx5
import Derived.Test.YtnjhjaifmgjljaaDoorPMx7
namespace Go.Proofs.YtnjhjaifmgjljaaDoor.PM
open Go.RowKit Go.Proofs.YtnjhjaifmgjljaaDoorW.PrintWords Go.Proofs.YtnjhjaifmgjljaaDoorW.PrintLast Go.Proofs.YtnjhjaifmgjljaaDoorW.PrintMore
attribute [local go_sem] max2_int min2_int max_two min_two max_three min_three max_four min_four   -- for this text's walks alone
set_option linter.unusedVariables false
set_option linter.unusedSimpArgs false

/-! ### levyref1_looked: function 63 -/
def levyref1_looked.l0 : Nat → List (S23) → Int → Option (Int × Int × Bool)
 | 0, _, _ => none
 | k + 1, x0, x4 => if x4 < (x0.length : Int) then (if 0 ≤ x4 then ((levyref1_Valid.f ((rd_T23 x0 x4).f0) ((rd_T23 x0 x4).f1)).bind fun t185 => (if t185 = true then (if ((rd_T23 x0 x4).f0) = 6 then (some ((rd_T23 x0 x4).f0, (rd_T23 x0 x4).f1, true)) else (if ((rd_T23 x0 x4).f0) = 0 then ((levyref1_bad.f 3).bind fun bt191 => (some (bt191.1, bt191.2, true))) else (levyref1_looked.l0 k x0 (wrap64 (x4 + 1))))) else ((levyref1_bad.f 5).bind fun bt186 => (some (bt186.1, bt186.2, true))))) else (none)) else (some (0, 0, false))
def levyref1_looked.f (k : Nat) (l0 : List (S23)) : Option (Int × Int × Bool) := levyref1_looked.l0 k l0 0
theorem levyref1_looked.mono_l : ∀ k, (∀ y0 y1, LeO (levyref1_looked.l0 k y0 y1) (levyref1_looked.l0 (k + 1) y0 y1))
 | 0 => fun _ _ r h => by simp [levyref1_looked.l0] at h
 | k + 1 => by
  have ih0 := levyref1_looked.mono_l k
  ·intro y0 y1
   unfold levyref1_looked.l0
   repeat' first
   | (with_reducible exact ih0 _ _)
   | (with_reducible exact LeO.refl _)
   | (with_reducible exact LeO.none _)
   | (with_reducible refine LeO.ite ?_ ?_)
   | (with_reducible refine LeO.bind ?_ (fun _ => ?_))
   | exact ih0 _ _
   | exact LeO.none _
   | refine LeO.ite ?_ ?_
   | refine LeO.bind ?_ (fun _ => ?_)
theorem levyref1_looked.mono : ∀ a0 k, LeO (levyref1_looked.f k a0) (levyref1_looked.f (k + 1) a0) := by
 intro a0 k
 have ih0 := levyref1_looked.mono_l k
 unfold levyref1_looked.f
 repeat' first
   | (with_reducible exact ih0 _ _)
   | (with_reducible exact LeO.refl _)
   | (with_reducible exact LeO.none _)
   | (with_reducible refine LeO.ite ?_ ?_)
   | (with_reducible refine LeO.bind ?_ (fun _ => ?_))
   | exact ih0 _ _
   | exact LeO.none _
   | refine LeO.ite ?_ ?_
   | refine LeO.bind ?_ (fun _ => ?_)
set_option maxHeartbeats 8000000 in
set_option maxRecDepth 100000 in
theorem levyref1_looked.calls (k : Nat) (A0 : Option Addr) (c0 : Nat) (l0 : List (S23)) (r1 : Int) (r2 : Int) (r3 : Bool) (w : World) (hr0 : Kd.C k23 w A0 l0.length l0) (hc0 : l0.length ≤ c0) (h : levyref1_looked.f k l0 = some (r1, r2, r3)) :
  Calls Tryd.prog 63 #[.slice A0 l0.length c0] w fun e w' => e = .returned (.tuple #[.agg #[.int .i64 r1, .int .i64 r2], .bool r3]) ∧ Below w.heap.size w w' := by
 have hu23 := Tryd.underlying23
 have HR0 := Aside0.mk hr0
 have HC0 := Aside0.mk hc0
 clear hr0 hc0
 have HB := Aside0.mk (Below.refl w.heap.size w)
 have H : (levyref1_looked.l0 k l0 0) = some (r1, r2, r3) := h
 clear h
 have H' := Aside0.mk H
 clear H
 go_enter Tryd.func63, Tryd.ntmps63
 go_wp2_with (first | ((with_reducible refine gate_dst (N := 2) rfl ?_); refine box_event ?hg (N := 2) ?hd (cs := #[.int .i64 0, .int .i64 0]) (t := 23) ?hr ?_; (case hd => rfl); (case hg => rfl); (case hr => first | (go_simp; done) | (go_simp; rfl)); intro gb183 hg w2 hbox hb; have n0_ := Aside0.mk (below_step blx hb); have n1_ := Aside0.mk (hbox); have n2_ := Aside0.mk ((by rw [hg]; exact (below_size blx) : w.heap.size ≤ gb183)); have n3_ := Aside0.mk ((by rw [hg]; exact (below_size blx) : w.heap.size ≤ gb183)); clear HB; have HB := n0_; have BK183 := n1_; have GW183 := n2_; have GE183 := n3_; clear n0_ n1_ n2_ n3_; clear hb hbox hg))
 go_loopg [4] k (fun kq v4 w' => ∃ (x4_1 : Int) (x184000_1 : Int) (x184001_1 : Int), v4 = .int .i64 x4_1 ∧ Aside0 (levyref1_looked.l0 kq l0 x4_1 = some (r1, r2, r3)) ∧ Aside0 (kq ≤ k) ∧ Aside0 (w'.heap[gb183]? = some (.cells #[.int .i64 x184000_1, .int .i64 x184001_1] 23 (0, 0))) ∧ Aside0 (Below w.heap.size w w'))
 case atStart => exact ⟨(0), (0), (0), (by first | rfl | (simp; done) | (simp [*]; done)), H', ⟨Nat.le_refl _⟩, ⟨bkx⟩, ⟨blx⟩⟩
 case round =>
  clear H'
  try clear p2
  obtain ⟨x4_1, x184000_1, x184001_1, rfl, HA, HK1, BK183, HB⟩ := hrel
  cases gk with
  | zero => exact absurd HA.out (by simp [levyref1_looked.l0])
  | succ k1 =>
   have H := HA.out
   clear HA
   simp only [levyref1_looked.l0] at H
   by_cases c3 : x4_1 < (l0.length : Int)
   ·rw [if_pos c3] at H
    have c3b0 : decide (x4_1 < (l0.length : Int)) = true := decide_eq_true c3
    clear c3
    by_cases c4 : 0 ≤ x4_1
    ·rw [if_pos c4] at H
     have c4b0 : decide (0 ≤ x4_1) = true := decide_eq_true c4
     clear c4
     replace H := Option.bind_eq_some_iff.mp H
     obtain ⟨t185, A50, H⟩ := H
     replace H : (if t185 = true then (if ((rd_T23 l0 x4_1).f0) = 6 then (some ((rd_T23 l0 x4_1).f0, (rd_T23 l0 x4_1).f1, true)) else (if ((rd_T23 l0 x4_1).f0) = 0 then ((levyref1_bad.f 3).bind fun bt191 => (some (bt191.1, bt191.2, true))) else (levyref1_looked.l0 k1 l0 (wrap64 (x4_1 + 1))))) else ((levyref1_bad.f 5).bind fun bt186 => (some (bt186.1, bt186.2, true)))) = some (r1, r2, r3) := H
     have A5 := Aside0.mk A50
     clear A50
     by_cases c6 : t185 = true
     ·subst c6
      have H1 : (if ((rd_T23 l0 x4_1).f0) = 6 then (some ((rd_T23 l0 x4_1).f0, (rd_T23 l0 x4_1).f1, true)) else (if ((rd_T23 l0 x4_1).f0) = 0 then ((levyref1_bad.f 3).bind fun bt191 => (some (bt191.1, bt191.2, true))) else (levyref1_looked.l0 k1 l0 (wrap64 (x4_1 + 1))))) = some (r1, r2, r3) := by rw [if_pos rfl] at H; exact H
      clear H
      have H := H1
      clear H1
      by_cases c7 : ((rd_T23 l0 x4_1).f0) = 6
      ·rw [if_pos c7] at H
       have c7b0 : (((rd_T23 l0 x4_1).f0) == 6) = true := beq_iff_eq.mpr c7
       have c7b1 : (((rd_T23 l0 x4_1).f0) != 6) = false := bne_eq_false_iff_eq.mpr c7
       clear c7
       simp only [Option.some.injEq, Prod.mk.injEq] at H
       obtain ⟨rfl, rfl, rfl⟩ := H
       have p184 : 0 ≤ (x4_1 : Int) := odx
       have q184 : x4_1 < (l0.length : Int) := odx
       obtain ⟨ad184, e184, hx184_0, hx184_1⟩ := at_T23 HR0.out x4_1 p184 q184
       cases e184
       replace hx184_0 := (HB.out.cell (World.block_lt_of_cell? w _ hx184_0)).trans hx184_0
       replace hx184_1 := (HB.out.cell (World.block_lt_of_cell? w _ hx184_1)).trans hx184_1
       replace p184 := eq_true p184
       replace q184 := eq_true q184
       go_wp2_with (first | ((with_reducible refine gate_callee (f := 19) rfl ?_); refine goesL_ (some 15) rfl rfl Tryd.func19 (by kernel_rfl) rfl #[.agg #[.int .i64 ((rd_T23 l0 x4_1).f0), .int .i64 ((rd_T23 l0 x4_1).f1)]] rfl agx ?_; (with_reducible refine (levyref1_Valid.calls ((rd_T23 l0 x4_1).f0) ((rd_T23 l0 x4_1).f1) true _ A5.out).mono ?_); rintro e w8 ⟨rfl, hb⟩; refine ⟨_, rfl, ?_⟩; have n0_ := Aside0.mk (blk_below (g := gb183) (o := .cells #[.int .i64 x184000_1, .int .i64 x184001_1] 23 (0, 0)) bkx hb); have n1_ := Aside0.mk (below_step blx hb); clear BK183; clear HB; have BK183 := n0_; have HB := n1_; clear n0_ n1_; (try clear hb); (try clear hb2); (try clear hk); (try clear hi); have p188 : 0 ≤ (x4_1 : Int) := odx; have q188 : x4_1 < (l0.length : Int) := odx; obtain ⟨ad188, e188, hx188_0, hx188_1⟩ := at_T23 HR0.out x4_1 p188 q188; obtain rfl : ad184 = ad188 := (by injection e188); replace hx188_0 := (HB.out.cell (World.block_lt_of_cell? w _ hx188_0)).trans hx188_0; replace hx188_1 := (HB.out.cell (World.block_lt_of_cell? w _ hx188_1)).trans hx188_1; replace p188 := eq_true p188; replace q188 := eq_true q188; have p189 : 0 ≤ (x4_1 : Int) := odx; have q189 : x4_1 < (l0.length : Int) := odx; obtain ⟨ad189, e189, hx189_0, hx189_1⟩ := at_T23 HR0.out x4_1 p189 q189; obtain rfl : ad184 = ad189 := (by injection e189); replace hx189_0 := (HB.out.cell (World.block_lt_of_cell? w _ hx189_0)).trans hx189_0; replace hx189_1 := (HB.out.cell (World.block_lt_of_cell? w _ hx189_1)).trans hx189_1; replace p189 := eq_true p189; replace q189 := eq_true q189; have hcz9_0 : w8.cell? ⟨gb183, 0, none⟩ = some (.int .i64 x184000_1) := (blk_cell BK183.out 0).trans rfl; have hcz9_1 : w8.cell? ⟨gb183, 1, none⟩ = some (.int .i64 x184001_1) := (blk_cell BK183.out 1).trans rfl; have hfz9_0 := blk_frozen BK183.out 0; have hfz9_1 := blk_frozen BK183.out 1))
       refine bodyPost_ret (results_ct rfl _ _ gb183 23 #[.int .i64 ((rd_T23 l0 x4_1).f0), .int .i64 ((rd_T23 l0 x4_1).f1)] (0, 0) _ rfl (by (with_reducible repeat (first | refine blk_drewN ?_ _ | refine blk_drew ?_ | refine blk_alloc ?_ _)); refine blk_put (cs := #[.int .i64 ((rd_T23 l0 x4_1).f0), .int .i64 x184001_1]) ?_ 1 _ rfl; (with_reducible repeat (first | refine blk_drewN ?_ _ | refine blk_drew ?_ | refine blk_alloc ?_ _)); refine blk_put (cs := #[.int .i64 x184000_1, .int .i64 x184001_1]) ?_ 0 _ rfl; (with_reducible repeat (first | refine blk_drewN ?_ _ | refine blk_drew ?_ | refine blk_alloc ?_ _)); exact BK183.out) Tryd.underlying23 rfl (by kernel_rfl)) rfl ?_
       exact ⟨by first | rfl | (simp [errW_none, errW_some] <;> rfl) | (simp [*, errW_none, errW_some] <;> rfl), blx⟩
      ·rw [if_neg c7] at H
       have c7b0 : (((rd_T23 l0 x4_1).f0) == 6) = false := beq_eq_false_iff_ne.mpr c7
       have c7b1 : (((rd_T23 l0 x4_1).f0) != 6) = true := bne_iff_ne.mpr c7
       by_cases c10 : ((rd_T23 l0 x4_1).f0) = 0
       ·rw [if_pos c10] at H
        have c10b0 : (((rd_T23 l0 x4_1).f0) == 0) = true := beq_iff_eq.mpr c10
        have c10b1 : (((rd_T23 l0 x4_1).f0) != 0) = false := bne_eq_false_iff_eq.mpr c10
        clear c10
        replace H := Option.bind_eq_some_iff.mp H
        obtain ⟨⟨t191, t192⟩, A110, H⟩ := H
        replace H : (some (t191, t192, true)) = some (r1, r2, r3) := H
        have A11 := Aside0.mk A110
        clear A110
        simp only [Option.some.injEq, Prod.mk.injEq] at H
        obtain ⟨rfl, rfl, rfl⟩ := H
        have p184 : 0 ≤ (x4_1 : Int) := odx
        have q184 : x4_1 < (l0.length : Int) := odx
        obtain ⟨ad184, e184, hx184_0, hx184_1⟩ := at_T23 HR0.out x4_1 p184 q184
        cases e184
        replace hx184_0 := (HB.out.cell (World.block_lt_of_cell? w _ hx184_0)).trans hx184_0
        replace hx184_1 := (HB.out.cell (World.block_lt_of_cell? w _ hx184_1)).trans hx184_1
        replace p184 := eq_true p184
        replace q184 := eq_true q184
        go_wp2_with (first | ((with_reducible refine gate_callee (f := 19) rfl ?_); refine goesL_ (some 15) rfl rfl Tryd.func19 (by kernel_rfl) rfl #[.agg #[.int .i64 ((rd_T23 l0 x4_1).f0), .int .i64 ((rd_T23 l0 x4_1).f1)]] rfl agx ?_; (with_reducible refine (levyref1_Valid.calls ((rd_T23 l0 x4_1).f0) ((rd_T23 l0 x4_1).f1) true _ A5.out).mono ?_); rintro e w12 ⟨rfl, hb⟩; refine ⟨_, rfl, ?_⟩; have n0_ := Aside0.mk (blk_below (g := gb183) (o := .cells #[.int .i64 x184000_1, .int .i64 x184001_1] 23 (0, 0)) bkx hb); have n1_ := Aside0.mk (below_step blx hb); clear BK183; clear HB; have BK183 := n0_; have HB := n1_; clear n0_ n1_; (try clear hb); (try clear hb2); (try clear hk); (try clear hi); have p188 : 0 ≤ (x4_1 : Int) := odx; have q188 : x4_1 < (l0.length : Int) := odx; obtain ⟨ad188, e188, hx188_0, hx188_1⟩ := at_T23 HR0.out x4_1 p188 q188; obtain rfl : ad184 = ad188 := (by injection e188); replace hx188_0 := (HB.out.cell (World.block_lt_of_cell? w _ hx188_0)).trans hx188_0; replace hx188_1 := (HB.out.cell (World.block_lt_of_cell? w _ hx188_1)).trans hx188_1; replace p188 := eq_true p188; replace q188 := eq_true q188; have p190 : 0 ≤ (x4_1 : Int) := odx; have q190 : x4_1 < (l0.length : Int) := odx; obtain ⟨ad190, e190, hx190_0, hx190_1⟩ := at_T23 HR0.out x4_1 p190 q190; obtain rfl : ad184 = ad190 := (by injection e190); replace hx190_0 := (HB.out.cell (World.block_lt_of_cell? w _ hx190_0)).trans hx190_0; replace hx190_1 := (HB.out.cell (World.block_lt_of_cell? w _ hx190_1)).trans hx190_1; replace p190 := eq_true p190; replace q190 := eq_true q190) | ((with_reducible refine gate_callee (f := 57) rfl ?_); refine goesL_ (some 34) rfl rfl Tryd.func57 (by kernel_rfl) rfl #[.int .i64 3] rfl agx ?_; (with_reducible refine (levyref1_bad.calls 3 t191 t192 _ A11.out).mono ?_); rintro e w13 ⟨rfl, hb⟩; refine ⟨_, rfl, ?_⟩; have n0_ := Aside0.mk (blk_below (g := gb183) (o := .cells #[.int .i64 x184000_1, .int .i64 x184001_1] 23 (0, 0)) bkx hb); have n1_ := Aside0.mk (below_step blx hb); clear BK183; clear HB; have BK183 := n0_; have HB := n1_; clear n0_ n1_; (try clear hb); (try clear hb2); (try clear hk); (try clear hi); have hcz14_0 : w13.cell? ⟨gb183, 0, none⟩ = some (.int .i64 x184000_1) := (blk_cell BK183.out 0).trans rfl; have hcz14_1 : w13.cell? ⟨gb183, 1, none⟩ = some (.int .i64 x184001_1) := (blk_cell BK183.out 1).trans rfl; have hfz14_0 := blk_frozen BK183.out 0; have hfz14_1 := blk_frozen BK183.out 1))
        refine bodyPost_ret (results_ct rfl _ _ gb183 23 #[.int .i64 t191, .int .i64 t192] (0, 0) _ rfl (by (with_reducible repeat (first | refine blk_drewN ?_ _ | refine blk_drew ?_ | refine blk_alloc ?_ _)); refine blk_put (cs := #[.int .i64 t191, .int .i64 x184001_1]) ?_ 1 _ rfl; (with_reducible repeat (first | refine blk_drewN ?_ _ | refine blk_drew ?_ | refine blk_alloc ?_ _)); refine blk_put (cs := #[.int .i64 x184000_1, .int .i64 x184001_1]) ?_ 0 _ rfl; (with_reducible repeat (first | refine blk_drewN ?_ _ | refine blk_drew ?_ | refine blk_alloc ?_ _)); exact BK183.out) Tryd.underlying23 rfl (by kernel_rfl)) rfl ?_
        exact ⟨by first | rfl | (simp [errW_none, errW_some] <;> rfl) | (simp [*, errW_none, errW_some] <;> rfl), blx⟩
       ·rw [if_neg c10] at H
        have c10b0 : (((rd_T23 l0 x4_1).f0) == 0) = false := beq_eq_false_iff_ne.mpr c10
        have c10b1 : (((rd_T23 l0 x4_1).f0) != 0) = true := bne_iff_ne.mpr c10
        have H' := Aside0.mk H
        clear H
        have p184 : 0 ≤ (x4_1 : Int) := odx
        have q184 : x4_1 < (l0.length : Int) := odx
        obtain ⟨ad184, e184, hx184_0, hx184_1⟩ := at_T23 HR0.out x4_1 p184 q184
        cases e184
        replace hx184_0 := (HB.out.cell (World.block_lt_of_cell? w _ hx184_0)).trans hx184_0
        replace hx184_1 := (HB.out.cell (World.block_lt_of_cell? w _ hx184_1)).trans hx184_1
        replace p184 := eq_true p184
        replace q184 := eq_true q184
        go_wp2_with (first | ((with_reducible refine gate_callee (f := 19) rfl ?_); refine goesL_ (some 15) rfl rfl Tryd.func19 (by kernel_rfl) rfl #[.agg #[.int .i64 ((rd_T23 l0 x4_1).f0), .int .i64 ((rd_T23 l0 x4_1).f1)]] rfl agx ?_; (with_reducible refine (levyref1_Valid.calls ((rd_T23 l0 x4_1).f0) ((rd_T23 l0 x4_1).f1) true _ A5.out).mono ?_); rintro e w15 ⟨rfl, hb⟩; refine ⟨_, rfl, ?_⟩; have n0_ := Aside0.mk (blk_below (g := gb183) (o := .cells #[.int .i64 x184000_1, .int .i64 x184001_1] 23 (0, 0)) bkx hb); have n1_ := Aside0.mk (below_step blx hb); clear BK183; clear HB; have BK183 := n0_; have HB := n1_; clear n0_ n1_; (try clear hb); (try clear hb2); (try clear hk); (try clear hi); have p188 : 0 ≤ (x4_1 : Int) := odx; have q188 : x4_1 < (l0.length : Int) := odx; obtain ⟨ad188, e188, hx188_0, hx188_1⟩ := at_T23 HR0.out x4_1 p188 q188; obtain rfl : ad184 = ad188 := (by injection e188); replace hx188_0 := (HB.out.cell (World.block_lt_of_cell? w _ hx188_0)).trans hx188_0; replace hx188_1 := (HB.out.cell (World.block_lt_of_cell? w _ hx188_1)).trans hx188_1; replace p188 := eq_true p188; replace q188 := eq_true q188; have p190 : 0 ≤ (x4_1 : Int) := odx; have q190 : x4_1 < (l0.length : Int) := odx; obtain ⟨ad190, e190, hx190_0, hx190_1⟩ := at_T23 HR0.out x4_1 p190 q190; obtain rfl : ad184 = ad190 := (by injection e190); replace hx190_0 := (HB.out.cell (World.block_lt_of_cell? w _ hx190_0)).trans hx190_0; replace hx190_1 := (HB.out.cell (World.block_lt_of_cell? w _ hx190_1)).trans hx190_1; replace p190 := eq_true p190; replace q190 := eq_true q190))
        go_roundg k1
        case measure => have := HK1.out; omega
        case rel => exact ⟨(wrap64 (x4_1 + 1)), (x184000_1), (x184001_1), (by first | rfl | (simp; done) | (simp [*]; done)), H', ⟨by have := HK1.out; omega⟩, ⟨bkx⟩, ⟨blx⟩⟩
     ·replace c6 := Bool.eq_false_iff.mpr c6
      subst c6
      have H1 : ((levyref1_bad.f 5).bind fun bt186 => (some (bt186.1, bt186.2, true))) = some (r1, r2, r3) := by rw [if_neg (show ¬ (false = true) by decide)] at H; exact H
      clear H
      have H := H1
      clear H1
      replace H := Option.bind_eq_some_iff.mp H
      obtain ⟨⟨t186, t187⟩, A160, H⟩ := H
      replace H : (some (t186, t187, true)) = some (r1, r2, r3) := H
      have A16 := Aside0.mk A160
      clear A160
      simp only [Option.some.injEq, Prod.mk.injEq] at H
      obtain ⟨rfl, rfl, rfl⟩ := H
      have p184 : 0 ≤ (x4_1 : Int) := odx
      have q184 : x4_1 < (l0.length : Int) := odx
      obtain ⟨ad184, e184, hx184_0, hx184_1⟩ := at_T23 HR0.out x4_1 p184 q184
      cases e184
      replace hx184_0 := (HB.out.cell (World.block_lt_of_cell? w _ hx184_0)).trans hx184_0
      replace hx184_1 := (HB.out.cell (World.block_lt_of_cell? w _ hx184_1)).trans hx184_1
      replace p184 := eq_true p184
      replace q184 := eq_true q184
      go_wp2_with (first | ((with_reducible refine gate_callee (f := 19) rfl ?_); refine goesL_ (some 15) rfl rfl Tryd.func19 (by kernel_rfl) rfl #[.agg #[.int .i64 ((rd_T23 l0 x4_1).f0), .int .i64 ((rd_T23 l0 x4_1).f1)]] rfl agx ?_; (with_reducible refine (levyref1_Valid.calls ((rd_T23 l0 x4_1).f0) ((rd_T23 l0 x4_1).f1) false _ A5.out).mono ?_); rintro e w17 ⟨rfl, hb⟩; refine ⟨_, rfl, ?_⟩; have n0_ := Aside0.mk (blk_below (g := gb183) (o := .cells #[.int .i64 x184000_1, .int .i64 x184001_1] 23 (0, 0)) bkx hb); have n1_ := Aside0.mk (below_step blx hb); clear BK183; clear HB; have BK183 := n0_; have HB := n1_; clear n0_ n1_; (try clear hb); (try clear hb2); (try clear hk); (try clear hi)) | ((with_reducible refine gate_callee (f := 57) rfl ?_); refine goesL_ (some 17) rfl rfl Tryd.func57 (by kernel_rfl) rfl #[.int .i64 5] rfl agx ?_; (with_reducible refine (levyref1_bad.calls 5 t186 t187 _ A16.out).mono ?_); rintro e w18 ⟨rfl, hb⟩; refine ⟨_, rfl, ?_⟩; have n0_ := Aside0.mk (blk_below (g := gb183) (o := .cells #[.int .i64 x184000_1, .int .i64 x184001_1] 23 (0, 0)) bkx hb); have n1_ := Aside0.mk (below_step blx hb); clear BK183; clear HB; have BK183 := n0_; have HB := n1_; clear n0_ n1_; (try clear hb); (try clear hb2); (try clear hk); (try clear hi); have hcz19_0 : w18.cell? ⟨gb183, 0, none⟩ = some (.int .i64 x184000_1) := (blk_cell BK183.out 0).trans rfl; have hcz19_1 : w18.cell? ⟨gb183, 1, none⟩ = some (.int .i64 x184001_1) := (blk_cell BK183.out 1).trans rfl; have hfz19_0 := blk_frozen BK183.out 0; have hfz19_1 := blk_frozen BK183.out 1))
      refine bodyPost_ret (results_ct rfl _ _ gb183 23 #[.int .i64 t186, .int .i64 t187] (0, 0) _ rfl (by (with_reducible repeat (first | refine blk_drewN ?_ _ | refine blk_drew ?_ | refine blk_alloc ?_ _)); refine blk_put (cs := #[.int .i64 t186, .int .i64 x184001_1]) ?_ 1 _ rfl; (with_reducible repeat (first | refine blk_drewN ?_ _ | refine blk_drew ?_ | refine blk_alloc ?_ _)); refine blk_put (cs := #[.int .i64 x184000_1, .int .i64 x184001_1]) ?_ 0 _ rfl; (with_reducible repeat (first | refine blk_drewN ?_ _ | refine blk_drew ?_ | refine blk_alloc ?_ _)); exact BK183.out) Tryd.underlying23 rfl (by kernel_rfl)) rfl ?_
      exact ⟨by first | rfl | (simp [errW_none, errW_some] <;> rfl) | (simp [*, errW_none, errW_some] <;> rfl), blx⟩
    ·rw [if_neg c4] at H
     exact absurd H (by simp)
   ·rw [if_neg c3] at H
    have c3b0 : decide (x4_1 < (l0.length : Int)) = false := decide_eq_false c3
    clear c3
    simp only [Option.some.injEq, Prod.mk.injEq] at H
    obtain ⟨rfl, rfl, rfl⟩ := H
    have hcz20_0 : wr.cell? ⟨gb183, 0, none⟩ = some (.int .i64 x184000_1) := (blk_cell BK183.out 0).trans rfl
    have hcz20_1 : wr.cell? ⟨gb183, 1, none⟩ = some (.int .i64 x184001_1) := (blk_cell BK183.out 1).trans rfl
    have hfz20_0 := blk_frozen BK183.out 0
    have hfz20_1 := blk_frozen BK183.out 1
    go_wp2
    refine bodyPost_ret (results_ct rfl _ _ gb183 23 #[.int .i64 0, .int .i64 0] (0, 0) _ rfl (by (with_reducible repeat (first | refine blk_drewN ?_ _ | refine blk_drew ?_ | refine blk_alloc ?_ _)); refine blk_put (cs := #[.int .i64 0, .int .i64 x184001_1]) ?_ 1 _ rfl; (with_reducible repeat (first | refine blk_drewN ?_ _ | refine blk_drew ?_ | refine blk_alloc ?_ _)); refine blk_put (cs := #[.int .i64 x184000_1, .int .i64 x184001_1]) ?_ 0 _ rfl; (with_reducible repeat (first | refine blk_drewN ?_ _ | refine blk_drew ?_ | refine blk_alloc ?_ _)); exact BK183.out) Tryd.underlying23 rfl (by kernel_rfl)) rfl ?_
    exact ⟨by first | rfl | (simp [errW_none, errW_some] <;> rfl) | (simp [*, errW_none, errW_some] <;> rfl), blx⟩

end Go.Proofs.YtnjhjaifmgjljaaDoor.PM

-- Part 9 of the texts of the claim PF (wrote by programs: words of the kit's print.sh, printed functions; and my own texts; joined by wip/tools/pack.py).
import Derived.Test.YtpbdkkahodaloaaPF8

section
namespace Go.Proofs.Ytpbdkkahodaloaa.J
open Go.RowKit Go.Proofs.Ytpbdkkahodaloaa.PS Go.Proofs.Ytpbdkkahodaloaa.U Go.Proofs.Ytpbdkkahodaloaa.T Go.Proofs.YtpbdkkahodaloaaW.PrintWords Go.Proofs.YtpbdkkahodaloaaW.PrintMore
set_option linter.unusedVariables false
set_option maxRecDepth 100000
def NodePost (w : World) (e : Ending) (w' : World) : Prop := ∃ k t b, e = .returned (.tuple #[.agg #[.int .i64 k, .int .i64 t], .int .i64 b]) ∧ Below w.heap.size w w'
structure NB (w w' : World) : Prop where
  below : Below w.heap.size w w'
  one : ∃ k t, w'.heap[w.heap.size]? = some (.cells #[.int .i64 k, .int .i64 t] 218 (0, 0))
theorem NB.next {w w' w2 : World} (h : NB w w') (hb : Below w'.heap.size w' w2) : NB w w2 := ⟨below_then h.below h.below.size hb, h.one.imp fun _ h => h.imp fun _ h => blk_below h hb⟩
theorem node_post {w w' : World} {k t b : Int} (hb : Below w.heap.size w w') : NodePost w (.returned (.tuple #[.agg #[.int .i64 k, .int .i64 t], .int .i64 b])) w' := ⟨k, t, b, rfl, hb⟩
def AlPost (w w1 : World) (ad : Addr) (k t : Int) (e : Ending) (w' : World) : Prop := ∃ v, e = .returned (.int .i64 v) ∧ Below w1.heap.size w1 w' ∧ w'.cell? ad = some (.int .i64 k) ∧ w'.cell? ⟨ad.block, ad.off + 1, none⟩ = some (.int .i64 t) ∧
  ∃ g0 g1, w'.heap[w.heap.size]? = some (.cells #[.int .i64 g0, .int .i64 g1] 218 (0, 0)) ∧ w'.cell? ⟨w.heap.size, 0, none⟩ = some (.int .i64 g0) ∧ w'.cell? ⟨w.heap.size, 1, none⟩ = some (.int .i64 g1) ∧ w'.frozen? ⟨w.heap.size, 0, none⟩ = false ∧ w'.frozen? ⟨w.heap.size, 1, none⟩ = false ∧ w.heap.size < w'.heap.size
set_option maxHeartbeats 16000000 in
theorem node_A (op : Int) (ho : op = 13 ∨ op = 14 ∨ op = 15 ∨ op = 19 ∨ op = 20 ∨ op = 21 ∨ op = 22) (xs : List S74) (A : Option Addr) (c : Nat) (w : World) (hC : k74.C w A xs.length xs) (hl : 1 ≤ xs.length) :
    Calls Try.prog 159 #[.int .i64 op, .slice A xs.length c] w (NodePost w) := by
  have HC := Aside0.mk hC
  have hmax : xs.length ≤ 9223372036854775807 := hC.2.1
  have hl0 : (0 : Int) < (xs.length : Int) := by omega
  obtain ⟨w1, hw1⟩ : ∃ w1, w1 = w.alloc (.cells #[.int .i64 0, .int .i64 0] 218) := ⟨_, rfl⟩
  have HB := Aside0.mk (show NB w w1 by rw [hw1]; exact ⟨bel, 0, 0, blk_new w _⟩)
  clear hC
  rcases ho with rfl | rfl | rfl | rfl | rfl | rfl | rfl
  all_goals
    go_enter Try.func159, Try.ntmps159
    go_upto_region 1 with (fail)
    rw [← hw1]
    clear hw1
    obtain ⟨ad0, hA0, q0, q1⟩ := at_T74 (Kd.C_below HC.out HB.out.below) 0 (by omega) (by omega)
    subst hA0
    have e0 : w1.cell? ad0 = _ := q0
    have e1 : w1.cell? ⟨ad0.block, ad0.off + 1, none⟩ = _ := q1
    clear q0 q1
    generalize rd_T74 xs 0 = y at e0 e1
    have HE := Aside0.mk (And.intro e0 e1)
    have HAL := Aside0.mk (fun (W : World) (hW : Below w1.heap.size w1 W) => show Calls Try.prog 163 #[.slice (some ad0) xs.length c, .bool false] W (AlPost w w1 ad0 y.f0 y.f1) from
      (alike_c xs (some ad0) c false W (Kd.C_below (Kd.C_below HC.out HB.out.below) hW)).mono (fun e W' h => by
        obtain ⟨v, rfl, _, hb⟩ := h
        have h1 := below_then hW hW.size hb
        obtain ⟨g0, g1, hg⟩ := (HB.out.next h1).one
        obtain ⟨z0, z1, f0, f1⟩ := cells2 hg
        exact ⟨v, rfl, h1, old_cell h1 HE.out.1, old_cell h1 HE.out.2, g0, g1, hg, z0, z1, f0, f1, blk_lt hg⟩))
    have hdr : Below w1.heap.size w1 w1 := Below.refl _ _
    obtain ⟨g0, g1, HG2⟩ := HB.out.one
    obtain ⟨z0, z1, f0, f1⟩ := cells2 HG2
    have zl := blk_lt HG2
    go_upto_region 9 with (fail)
    go_region_with (first | (go_at_call 163; refine (HAL.out _ (by first | assumption | exact below_drew (Below.refl _ _) | exact below_drew (by assumption))).mono ?_; rintro e w2 ⟨v, rfl, hb, q0, q1, g0', g1', hg', z0', z1', f0', f1', zl'⟩))
    all_goals
      go_wp2_with fail
      refine bodyPost_ret (results_two rfl rfl rfl (agg_218 (set2 hg') rfl)) rfl ?_
      exact node_post (below2 (HB.out.next hb).below (Nat.le_refl _))
set_option maxHeartbeats 16000000 in
theorem node_B (op : Int) (ho : op = 16 ∨ op = 23 ∨ op = 24) (xs : List S74) (A : Option Addr) (c : Nat) (w : World) (hC : k74.C w A xs.length xs) (hl : 1 ≤ xs.length) :
    Calls Try.prog 159 #[.int .i64 op, .slice A xs.length c] w (NodePost w) := by
  have HC := Aside0.mk hC
  have hmax : xs.length ≤ 9223372036854775807 := hC.2.1
  have hl0 : (0 : Int) < (xs.length : Int) := by omega
  obtain ⟨w1, hw1⟩ : ∃ w1, w1 = w.alloc (.cells #[.int .i64 0, .int .i64 0] 218) := ⟨_, rfl⟩
  have HB := Aside0.mk (show NB w w1 by rw [hw1]; exact ⟨bel, 0, 0, blk_new w _⟩)
  clear hC
  rcases ho with rfl | rfl | rfl
  all_goals
    go_enter Try.func159, Try.ntmps159
    go_upto_region 1 with (fail)
    rw [← hw1]
    clear hw1
    go_wp2_with fail
    with_reducible refine (first_c xs _ c ⟨w1.heap.size, 0, none⟩ 1 (by omega) _ (Kd.C_alloc (Kd.C_below HC.out HB.out.below) _) (by intro k hk; rcases k with _ | k; exact ⟨_, (blk_cell (blk_new _ _) 0).trans rfl⟩; omega)).mono ?_
    rintro e w2 ⟨v, rfl, _, hb⟩
    have HN2 := Aside0.mk (HB.out.next (below_then (below_alloc (Below.refl _ _) _) (by rw [World.size_alloc]; omega) hb))
    clear hb
    obtain ⟨g0, g1, HG2⟩ := HN2.out.one
    obtain ⟨z0, z1, f0, f1⟩ := cells2 HG2
    have zl := blk_lt HG2
    go_wp2_with fail
    refine bodyPost_ret (results_two rfl rfl rfl (agg_218 (set2 HG2) rfl)) rfl ?_
    exact node_post (below2 HN2.out.below (Nat.le_refl _))
set_option maxHeartbeats 16000000 in
theorem node_C (op : Int) (ho : op = 17 ∨ op = 18) (xs : List S74) (A : Option Addr) (c : Nat) (w : World) (hC : k74.C w A xs.length xs) (hl : 1 ≤ xs.length) :
    Calls Try.prog 159 #[.int .i64 op, .slice A xs.length c] w (NodePost w) := by
  have HC := Aside0.mk hC
  have hmax : xs.length ≤ 9223372036854775807 := hC.2.1
  have hl0 : (0 : Int) < (xs.length : Int) := by omega
  obtain ⟨w1, hw1⟩ : ∃ w1, w1 = w.alloc (.cells #[.int .i64 0, .int .i64 0] 218) := ⟨_, rfl⟩
  have HB := Aside0.mk (show NB w w1 by rw [hw1]; exact ⟨bel, 0, 0, blk_new w _⟩)
  clear hC
  rcases ho with rfl | rfl
  all_goals
    go_enter Try.func159, Try.ntmps159
    go_upto_region 1 with (fail)
    rw [← hw1]
    clear hw1
    go_wp2_with fail
    with_reducible refine (first_c xs _ c ⟨w1.heap.size, 0, none⟩ 2 (by omega) _ (Kd.C_alloc (Kd.C_below HC.out HB.out.below) _) (by intro k hk; rcases k with _ | k; exact ⟨_, (blk_cell (blk_new _ _) 0).trans rfl⟩; rcases k with _ | k; exact ⟨_, (blk_cell (blk_new _ _) 1).trans rfl⟩; omega)).mono ?_
    rintro e w2 ⟨v, rfl, _, hb⟩
    have HN2 := Aside0.mk (HB.out.next (below_then (below_alloc (Below.refl _ _) _) (by rw [World.size_alloc]; omega) hb))
    clear hb
    obtain ⟨g0, g1, HG2⟩ := HN2.out.one
    obtain ⟨z0, z1, f0, f1⟩ := cells2 HG2
    have zl := blk_lt HG2
    go_wp2_with fail
    refine bodyPost_ret (results_two rfl rfl rfl (agg_218 (set2 HG2) rfl)) rfl ?_
    exact node_post (below2 HN2.out.below (Nat.le_refl _))
set_option maxHeartbeats 16000000 in
theorem node_D (op : Int) (ho : op = 27 ∨ op = 28 ∨ op = 29 ∨ op = 30) (xs : List S74) (A : Option Addr) (c : Nat) (w : World) (hC : k74.C w A xs.length xs) (hl : 1 ≤ xs.length) :
    Calls Try.prog 159 #[.int .i64 op, .slice A xs.length c] w (NodePost w) := by
  have HC := Aside0.mk hC
  have hmax : xs.length ≤ 9223372036854775807 := hC.2.1
  have hl0 : (0 : Int) < (xs.length : Int) := by omega
  obtain ⟨w1, hw1⟩ : ∃ w1, w1 = w.alloc (.cells #[.int .i64 0, .int .i64 0] 218) := ⟨_, rfl⟩
  have HB := Aside0.mk (show NB w w1 by rw [hw1]; exact ⟨bel, 0, 0, blk_new w _⟩)
  clear hC
  rcases ho with rfl | rfl | rfl | rfl
  all_goals
    go_enter Try.func159, Try.ntmps159
    go_upto_region 1 with (fail)
    rw [← hw1]
    clear hw1
    go_wp2_with fail
    with_reducible refine (alike_c xs _ c true _ (Kd.C_below HC.out HB.out.below)).mono ?_
    rintro e w2 ⟨v, rfl, _, hb⟩
    have HN2 := Aside0.mk (HB.out.next hb)
    clear hb
    obtain ⟨g0, g1, HG2⟩ := HN2.out.one
    obtain ⟨z0, z1, f0, f1⟩ := cells2 HG2
    have zl := blk_lt HG2
    go_wp2_with fail
    refine bodyPost_ret (results_two rfl rfl rfl (agg_218 (set2 HG2) rfl)) rfl ?_
    exact node_post (below2 HN2.out.below (Nat.le_refl _))
set_option maxHeartbeats 16000000 in
theorem node_E (op : Int) (ho : op = 31 ∨ op = 32 ∨ op = 33) (xs : List S74) (A : Option Addr) (c : Nat) (w : World) (hC : k74.C w A xs.length xs) (hl : 1 ≤ xs.length) :
    Calls Try.prog 159 #[.int .i64 op, .slice A xs.length c] w (NodePost w) := by
  have HC := Aside0.mk hC
  have hmax : xs.length ≤ 9223372036854775807 := hC.2.1
  have hl0 : (0 : Int) < (xs.length : Int) := by omega
  obtain ⟨w1, hw1⟩ : ∃ w1, w1 = w.alloc (.cells #[.int .i64 0, .int .i64 0] 218) := ⟨_, rfl⟩
  have HB := Aside0.mk (show NB w w1 by rw [hw1]; exact ⟨bel, 0, 0, blk_new w _⟩)
  clear hC
  rcases ho with rfl | rfl | rfl
  all_goals
    go_enter Try.func159, Try.ntmps159
    go_upto_region 1 with (fail)
    rw [← hw1]
    clear hw1
    go_wp2_with fail
    with_reducible refine (first_c xs _ c ⟨w1.heap.size, 0, none⟩ 1 (by omega) _ (Kd.C_alloc (Kd.C_below HC.out HB.out.below) _) (by intro k hk; rcases k with _ | k; exact ⟨_, (blk_cell (blk_new _ _) 0).trans rfl⟩; omega)).mono ?_
    rintro e w2 ⟨v, rfl, _, hb⟩
    have HN2 := Aside0.mk (HB.out.next (below_then (below_alloc (Below.refl _ _) _) (by rw [World.size_alloc]; omega) hb))
    clear hb
    obtain ⟨g0, g1, HG2⟩ := HN2.out.one
    obtain ⟨z0, z1, f0, f1⟩ := cells2 HG2
    have zl := blk_lt HG2
    go_wp2_with fail
    refine bodyPost_ret (results_two rfl rfl rfl (agg_218 (set2 HG2) rfl)) rfl ?_
    exact node_post (below2 HN2.out.below (Nat.le_refl _))
set_option maxHeartbeats 16000000 in
theorem node_F (op : Int) (ho : op = 35) (xs : List S74) (A : Option Addr) (c : Nat) (w : World) (hC : k74.C w A xs.length xs) (hl : 1 ≤ xs.length) :
    Calls Try.prog 159 #[.int .i64 op, .slice A xs.length c] w (NodePost w) := by
  have HC := Aside0.mk hC
  have hmax : xs.length ≤ 9223372036854775807 := hC.2.1
  have hl0 : (0 : Int) < (xs.length : Int) := by omega
  obtain ⟨w1, hw1⟩ : ∃ w1, w1 = w.alloc (.cells #[.int .i64 0, .int .i64 0] 218) := ⟨_, rfl⟩
  have HB := Aside0.mk (show NB w w1 by rw [hw1]; exact ⟨bel, 0, 0, blk_new w _⟩)
  clear hC
  rcases ho with rfl
  all_goals
    go_enter Try.func159, Try.ntmps159
    go_upto_region 1 with (fail)
    rw [← hw1]
    clear hw1
    have HN2 := HB
    obtain ⟨g0, g1, HG2⟩ := HN2.out.one
    obtain ⟨z0, z1, f0, f1⟩ := cells2 HG2
    have zl := blk_lt HG2
    go_wp2_with fail
    refine bodyPost_ret (results_two rfl rfl rfl (agg_218 (set2 HG2) rfl)) rfl ?_
    exact node_post (below2 HN2.out.below (Nat.le_refl _))
set_option maxHeartbeats 16000000 in
theorem node_G (op : Int) (ho : op = 37 ∨ op = 38 ∨ op = 39 ∨ op = 41) (xs : List S74) (A : Option Addr) (c : Nat) (w : World) (hC : k74.C w A xs.length xs) (hl : 1 ≤ xs.length) :
    Calls Try.prog 159 #[.int .i64 op, .slice A xs.length c] w (NodePost w) := by
  have HC := Aside0.mk hC
  have hmax : xs.length ≤ 9223372036854775807 := hC.2.1
  have hl0 : (0 : Int) < (xs.length : Int) := by omega
  obtain ⟨w1, hw1⟩ : ∃ w1, w1 = w.alloc (.cells #[.int .i64 0, .int .i64 0] 218) := ⟨_, rfl⟩
  have HB := Aside0.mk (show NB w w1 by rw [hw1]; exact ⟨bel, 0, 0, blk_new w _⟩)
  clear hC
  rcases ho with rfl | rfl | rfl | rfl
  all_goals
    go_enter Try.func159, Try.ntmps159
    go_upto_region 1 with (fail)
    rw [← hw1]
    clear hw1
    go_wp2_with fail
    with_reducible refine (first_c xs _ c ⟨w1.heap.size, 0, none⟩ 1 (by omega) _ (Kd.C_alloc (Kd.C_below HC.out HB.out.below) _) (by intro k hk; rcases k with _ | k; exact ⟨_, (blk_cell (blk_new _ _) 0).trans rfl⟩; omega)).mono ?_
    rintro e w2 ⟨v, rfl, _, hb⟩
    have HN2 := Aside0.mk (HB.out.next (below_then (below_alloc (Below.refl _ _) _) (by rw [World.size_alloc]; omega) hb))
    clear hb
    obtain ⟨g0, g1, HG2⟩ := HN2.out.one
    obtain ⟨z0, z1, f0, f1⟩ := cells2 HG2
    have zl := blk_lt HG2
    go_wp2_with fail
    refine bodyPost_ret (results_two rfl rfl rfl (agg_218 (set2 HG2) rfl)) rfl ?_
    exact node_post (below2 HN2.out.below (Nat.le_refl _))
set_option maxHeartbeats 16000000 in
theorem node_H (op : Int) (ho : op = 40) (xs : List S74) (A : Option Addr) (c : Nat) (w : World) (hC : k74.C w A xs.length xs) (hl : 1 ≤ xs.length) :
    Calls Try.prog 159 #[.int .i64 op, .slice A xs.length c] w (NodePost w) := by
  have HC := Aside0.mk hC
  have hmax : xs.length ≤ 9223372036854775807 := hC.2.1
  have hl0 : (0 : Int) < (xs.length : Int) := by omega
  obtain ⟨w1, hw1⟩ : ∃ w1, w1 = w.alloc (.cells #[.int .i64 0, .int .i64 0] 218) := ⟨_, rfl⟩
  have HB := Aside0.mk (show NB w w1 by rw [hw1]; exact ⟨bel, 0, 0, blk_new w _⟩)
  clear hC
  rcases ho with rfl
  all_goals
    go_enter Try.func159, Try.ntmps159
    go_upto_region 1 with (fail)
    rw [← hw1]
    clear hw1
    go_wp2_with fail
    with_reducible refine (first_c xs _ c ⟨w1.heap.size, 0, none⟩ 2 (by omega) _ (Kd.C_alloc (Kd.C_below HC.out HB.out.below) _) (by intro k hk; rcases k with _ | k; exact ⟨_, (blk_cell (blk_new _ _) 0).trans rfl⟩; rcases k with _ | k; exact ⟨_, (blk_cell (blk_new _ _) 1).trans rfl⟩; omega)).mono ?_
    rintro e w2 ⟨v, rfl, _, hb⟩
    have HN2 := Aside0.mk (HB.out.next (below_then (below_alloc (Below.refl _ _) _) (by rw [World.size_alloc]; omega) hb))
    clear hb
    obtain ⟨g0, g1, HG2⟩ := HN2.out.one
    obtain ⟨z0, z1, f0, f1⟩ := cells2 HG2
    have zl := blk_lt HG2
    go_wp2_with fail
    refine bodyPost_ret (results_two rfl rfl rfl (agg_218 (set2 HG2) rfl)) rfl ?_
    exact node_post (below2 HN2.out.below (Nat.le_refl _))
set_option maxHeartbeats 16000000 in
theorem node_I (op : Int) (ho : op = 34) (xs : List S74) (A : Option Addr) (c : Nat) (w : World) (hC : k74.C w A xs.length xs) (hl : 3 ≤ xs.length) :
    Calls Try.prog 159 #[.int .i64 op, .slice A xs.length c] w (NodePost w) := by
  have HC := Aside0.mk hC
  have hmax : xs.length ≤ 9223372036854775807 := hC.2.1
  have hl0 : (0 : Int) < (xs.length : Int) := by omega
  have hl1 : (1 : Int) < (xs.length : Int) := by omega
  have hl2 : (2 : Int) < (xs.length : Int) := by omega
  obtain ⟨w1, hw1⟩ : ∃ w1, w1 = w.alloc (.cells #[.int .i64 0, .int .i64 0] 218) := ⟨_, rfl⟩
  have HB := Aside0.mk (show NB w w1 by rw [hw1]; exact ⟨bel, 0, 0, blk_new w _⟩)
  clear hC
  rcases ho with rfl
  all_goals
    go_enter Try.func159, Try.ntmps159
    go_upto_region 1 with (fail)
    rw [← hw1]
    clear hw1
    obtain ⟨ad0, hA0, q0, q1⟩ := at_T74 (Kd.C_below HC.out HB.out.below) 0 (by omega) (by omega)
    subst hA0
    have e0 : w1.cell? ad0 = _ := q0
    have e1 : w1.cell? ⟨ad0.block, ad0.off + 1, none⟩ = _ := q1
    clear q0 q1
    obtain ⟨ad1, hA1, q0, q1⟩ := at_T74 (Kd.C_below HC.out HB.out.below) 1 (by omega) (by omega)
    obtain rfl := Option.some.inj hA1
    have e2 : w1.cell? ⟨ad0.block, ad0.off + 2, none⟩ = _ := q0
    have e3 : w1.cell? ⟨ad0.block, ad0.off + 2 + 1, none⟩ = _ := q1
    clear q0 q1
    obtain ⟨ad2, hA2, q0, q1⟩ := at_T74 (Kd.C_below HC.out HB.out.below) 2 (by omega) (by omega)
    obtain rfl := Option.some.inj hA2
    have e4 : w1.cell? ⟨ad0.block, ad0.off + 4, none⟩ = _ := q0
    have e5 : w1.cell? ⟨ad0.block, ad0.off + 4 + 1, none⟩ = _ := q1
    clear q0 q1
    generalize rd_T74 xs 0 = y0 at e0 e1
    generalize rd_T74 xs 1 = y1 at e2 e3
    generalize rd_T74 xs 2 = y2 at e4 e5
    obtain ⟨g0, g1, HG2⟩ := HB.out.one
    obtain ⟨z0, z1, f0, f1⟩ := cells2 HG2
    have zl := blk_lt HG2
    by_cases h3 : y0.f0 = 3
    · have h3a : (y0.f0 == 3) = true := by simp [h3]
      have h3b : (y0.f0 != 3) = false := by simp [h3]
      by_cases hk : y1.f0 = y2.f0
      · have hka : (y1.f0 == y2.f0) = true := by simp [hk]
        have hkb : (y1.f0 != y2.f0) = false := by simp [hk]
        clear h3 hk
        go_wp2_with fail
        go_quiet (fail)
        go_wp2_with fail
        all_goals (refine bodyPost_ret (results_two rfl rfl rfl (agg_218 (set2 HG2) rfl)) rfl ?_; exact node_post (below2 (by first | exact HB.out.below | exact pw_below_drewN HB.out.below _ | (apply pw_below_drewN; exact HB.out.below)) (Nat.le_refl _)))
      · have hka : (y1.f0 == y2.f0) = false := by simp [hk]
        have hkb : (y1.f0 != y2.f0) = true := by simp [hk]
        clear h3 hk
        go_wp2_with fail
        go_quiet (fail)
        go_wp2_with fail
        all_goals (refine bodyPost_ret (results_two rfl rfl rfl (agg_218 (set2 HG2) rfl)) rfl ?_; exact node_post (below2 (by first | exact HB.out.below | exact pw_below_drewN HB.out.below _ | (apply pw_below_drewN; exact HB.out.below)) (Nat.le_refl _)))
    · have h3a : (y0.f0 == 3) = false := by simp [h3]
      have h3b : (y0.f0 != 3) = true := by simp [h3]
      clear h3
      go_wp2_with fail
      all_goals (refine bodyPost_ret (results_two rfl rfl rfl (agg_218 (set2 HG2) rfl)) rfl ?_; exact node_post (below2 (by first | exact HB.out.below | exact pw_below_drewN HB.out.below _ | (apply pw_below_drewN; exact HB.out.below)) (Nat.le_refl _)))
set_option maxHeartbeats 16000000 in
theorem node_J (op : Int) (ho : op = 25 ∨ op = 26) (xs : List S74) (A : Option Addr) (c : Nat) (w : World) (hC : k74.C w A xs.length xs) (hl : 2 ≤ xs.length) :
    Calls Try.prog 159 #[.int .i64 op, .slice A xs.length c] w (NodePost w) := by
  have HC := Aside0.mk hC
  have hmax : xs.length ≤ 9223372036854775807 := hC.2.1
  have hl0 : (0 : Int) < (xs.length : Int) := by omega
  have hl1 : (1 : Int) < (xs.length : Int) := by omega
  obtain ⟨w1, hw1⟩ : ∃ w1, w1 = w.alloc (.cells #[.int .i64 0, .int .i64 0] 218) := ⟨_, rfl⟩
  have HB := Aside0.mk (show NB w w1 by rw [hw1]; exact ⟨bel, 0, 0, blk_new w _⟩)
  clear hC
  rcases ho with rfl | rfl
  all_goals
    go_enter Try.func159, Try.ntmps159
    go_upto_region 1 with (fail)
    rw [← hw1]
    clear hw1
    obtain ⟨ad0, hA0, q0, q1⟩ := at_T74 (Kd.C_below HC.out HB.out.below) 0 (by omega) (by omega)
    subst hA0
    have e0 : w1.cell? ad0 = _ := q0
    have e1 : w1.cell? ⟨ad0.block, ad0.off + 1, none⟩ = _ := q1
    clear q0 q1
    obtain ⟨ad1, hA1, q0, q1⟩ := at_T74 (Kd.C_below HC.out HB.out.below) 1 (by omega) (by omega)
    obtain rfl := Option.some.inj hA1
    have e2 : w1.cell? ⟨ad0.block, ad0.off + 2, none⟩ = _ := q0
    have e3 : w1.cell? ⟨ad0.block, ad0.off + 2 + 1, none⟩ = _ := q1
    clear q0 q1
    generalize rd_T74 xs 0 = y0 at e0 e1
    generalize rd_T74 xs 1 = y1 at e2 e3
    obtain ⟨g0, g1, HG2⟩ := HB.out.one
    obtain ⟨z0, z1, f0, f1⟩ := cells2 HG2
    have zl := blk_lt HG2
    by_cases hk : y0.f0 = y1.f0
    · have hka : (y0.f0 == y1.f0) = true := by simp [hk]
      have hkb : (y0.f0 != y1.f0) = false := by simp [hk]
      clear hk
      go_wp2_with fail
      go_quiet (fail)
      go_wp2_with fail
      all_goals (refine bodyPost_ret (results_two rfl rfl rfl (agg_218 (set2 HG2) rfl)) rfl ?_; exact node_post (below2 (by first | exact HB.out.below | exact pw_below_drewN HB.out.below _ | (apply pw_below_drewN; exact HB.out.below)) (Nat.le_refl _)))
    · have hka : (y0.f0 == y1.f0) = false := by simp [hk]
      have hkb : (y0.f0 != y1.f0) = true := by simp [hk]
      clear hk
      go_wp2_with fail
      go_quiet (fail)
      go_wp2_with fail
      all_goals (refine bodyPost_ret (results_two rfl rfl rfl (agg_218 (set2 HG2) rfl)) rfl ?_; exact node_post (below2 (by first | exact HB.out.below | exact pw_below_drewN HB.out.below _ | (apply pw_below_drewN; exact HB.out.below)) (Nat.le_refl _)))
set_option maxHeartbeats 16000000 in
theorem node_K (op : Int) (ho : op = 36) (xs : List S74) (A : Option Addr) (c : Nat) (w : World) (hC : k74.C w A xs.length xs) (hl : 2 ≤ xs.length) :
    Calls Try.prog 159 #[.int .i64 op, .slice A xs.length c] w (NodePost w) := by
  have HC := Aside0.mk hC
  have hmax : xs.length ≤ 9223372036854775807 := hC.2.1
  have hl0 : (0 : Int) < (xs.length : Int) := by omega
  have hl1 : (1 : Int) < (xs.length : Int) := by omega
  obtain ⟨w1, hw1⟩ : ∃ w1, w1 = w.alloc (.cells #[.int .i64 0, .int .i64 0] 218) := ⟨_, rfl⟩
  have HB := Aside0.mk (show NB w w1 by rw [hw1]; exact ⟨bel, 0, 0, blk_new w _⟩)
  clear hC
  rcases ho with rfl
  all_goals
    go_enter Try.func159, Try.ntmps159
    go_upto_region 1 with (fail)
    rw [← hw1]
    clear hw1
    obtain ⟨ad0, hA0, q0, q1⟩ := at_T74 (Kd.C_below HC.out HB.out.below) 0 (by omega) (by omega)
    subst hA0
    have e0 : w1.cell? ad0 = _ := q0
    have e1 : w1.cell? ⟨ad0.block, ad0.off + 1, none⟩ = _ := q1
    clear q0 q1
    obtain ⟨ad1, hA1, q0, q1⟩ := at_T74 (Kd.C_below HC.out HB.out.below) 1 (by omega) (by omega)
    obtain rfl := Option.some.inj hA1
    have e2 : w1.cell? ⟨ad0.block, ad0.off + 2, none⟩ = _ := q0
    have e3 : w1.cell? ⟨ad0.block, ad0.off + 2 + 1, none⟩ = _ := q1
    clear q0 q1
    generalize rd_T74 xs 0 = y0 at e0 e1
    generalize rd_T74 xs 1 = y1 at e2 e3
    obtain ⟨g0, g1, HG2⟩ := HB.out.one
    obtain ⟨z0, z1, f0, f1⟩ := cells2 HG2
    have zl := blk_lt HG2
    by_cases hk : y0.f0 = y1.f0
    · have hka : (y0.f0 == y1.f0) = true := by simp [hk]
      have hkb : (y0.f0 != y1.f0) = false := by simp [hk]
      clear hk
      go_wp2_with fail
      go_quiet (fail)
      go_wp2_with fail
      all_goals (refine bodyPost_ret (results_two rfl rfl rfl (agg_218 (set2 HG2) rfl)) rfl ?_; exact node_post (below2 (by first | exact HB.out.below | exact pw_below_drewN HB.out.below _ | (apply pw_below_drewN; exact HB.out.below)) (Nat.le_refl _)))
    · have hka : (y0.f0 == y1.f0) = false := by simp [hk]
      have hkb : (y0.f0 != y1.f0) = true := by simp [hk]
      clear hk
      go_wp2_with fail
      go_quiet (fail)
      go_wp2_with fail
      all_goals (refine bodyPost_ret (results_two rfl rfl rfl (agg_218 (set2 HG2) rfl)) rfl ?_; exact node_post (below2 (by first | exact HB.out.below | exact pw_below_drewN HB.out.below _ | (apply pw_below_drewN; exact HB.out.below)) (Nat.le_refl _)))
theorem node_c (op : Int) (xs : List S74) (A : Option Addr) (c : Nat) (w : World) (hC : k74.C w A xs.length xs) (ho : 13 ≤ op ∧ op ≤ 41 ∧ 1 ≤ xs.length ∧ (op = 25 ∨ op = 26 ∨ op = 36 → 2 ≤ xs.length) ∧ (op = 34 → 3 ≤ xs.length)) :
    Calls Try.prog 159 #[.int .i64 op, .slice A xs.length c] w (NodePost w) := by
  obtain ⟨h1, h2, h3, h4, h5⟩ := ho
  by_cases hqA : op = 13 ∨ op = 14 ∨ op = 15 ∨ op = 19 ∨ op = 20 ∨ op = 21 ∨ op = 22
  · exact node_A op hqA xs A c w hC (by omega)
  by_cases hqB : op = 16 ∨ op = 23 ∨ op = 24
  · exact node_B op hqB xs A c w hC (by omega)
  by_cases hqC : op = 17 ∨ op = 18
  · exact node_C op hqC xs A c w hC (by omega)
  by_cases hqD : op = 27 ∨ op = 28 ∨ op = 29 ∨ op = 30
  · exact node_D op hqD xs A c w hC (by omega)
  by_cases hqE : op = 31 ∨ op = 32 ∨ op = 33
  · exact node_E op hqE xs A c w hC (by omega)
  by_cases hqF : op = 35
  · exact node_F op hqF xs A c w hC (by omega)
  by_cases hqG : op = 37 ∨ op = 38 ∨ op = 39 ∨ op = 41
  · exact node_G op hqG xs A c w hC (by omega)
  by_cases hqH : op = 40
  · exact node_H op hqH xs A c w hC (by omega)
  by_cases hqI : op = 34
  · exact node_I op hqI xs A c w hC (by omega)
  by_cases hqJ : op = 25 ∨ op = 26
  · exact node_J op hqJ xs A c w hC (by omega)
  by_cases hqK : op = 36
  · exact node_K op hqK xs A c w hC (by omega)
  omega
end Go.Proofs.Ytpbdkkahodaloaa.J
end

section
namespace Go.Proofs.Ytpbdkkahodaloaa.J
open Go.RowKit Go.Proofs.Ytpbdkkahodaloaa.PS Go.Proofs.Ytpbdkkahodaloaa.U Go.Proofs.Ytpbdkkahodaloaa.T Go.Proofs.YtpbdkkahodaloaaW.PrintWords Go.Proofs.YtpbdkkahodaloaaW.PrintMore
set_option linter.unusedVariables false
set_option maxRecDepth 100000
def wk (u : Value) (grp nd : Int) : Array Value := match u with
  | .agg cs => (cs.push (.int .i64 grp)).push (.int .i64 nd)
  | _ => #[]
structure Wk (w0 : World) (u : Value) (q : Nat) (w : World) : Prop where
  below : Below w0.heap.size w0 w
  low : w0.heap.size ≤ q
  box : ∃ grp nd, w.heap[q]? = some (.cells (wk u grp nd) 241 (0, 0))
theorem Wk.lt {w0 w : World} {u : Value} {q : Nat} (h : Wk w0 u q w) : q < w.heap.size := by obtain ⟨_, _, h⟩ := h.box; exact blk_lt h
theorem Wk.next {w0 w w2 : World} {u : Value} {q : Nat} (h : Wk w0 u q w) (hb : Below w.heap.size w w2) : Wk w0 u q w2 := ⟨below_then h.below h.below.size hb, h.low, h.box.imp fun _ h => h.imp fun _ h => blk_below h hb⟩
theorem cellsW {w : World} {q : Nat} {v0 v1 v2 v3 v4 v5 v6 v7 v8 : Value} {t : TypeId} (h : w.heap[q]? = some (.cells #[v0, v1, v2, v3, v4, v5, v6, v7, v8] t (0, 0))) :
    (w.cell? ⟨q, 0, none⟩ = some v0 ∧ w.cell? ⟨q, 1, none⟩ = some v1 ∧ w.cell? ⟨q, 2, none⟩ = some v2 ∧ w.cell? ⟨q, 3, none⟩ = some v3 ∧ w.cell? ⟨q, 4, none⟩ = some v4 ∧ w.cell? ⟨q, 5, none⟩ = some v5 ∧ w.cell? ⟨q, 6, none⟩ = some v6) ∧ w.cell? ⟨q, 7, none⟩ = some v7 ∧ w.cell? ⟨q, 8, none⟩ = some v8 ∧ w.frozen? ⟨q, 8, none⟩ = false :=
  ⟨⟨(blk_cell h 0).trans rfl, (blk_cell h 1).trans rfl, (blk_cell h 2).trans rfl, (blk_cell h 3).trans rfl, (blk_cell h 4).trans rfl, (blk_cell h 5).trans rfl, (blk_cell h 6).trans rfl⟩, (blk_cell h 7).trans rfl, (blk_cell h 8).trans rfl, blk_frozen h 8⟩
set_option maxHeartbeats 8000000 in
theorem there_else (e0 e1 e2 e3 : Int) (l : List S80) (ho : ¬ (e0 = 5 ∨ e0 = 6 ∨ e0 = 7 ∨ e0 = 8 ∨ e0 = 9 ∨ e0 = 10 ∨ e0 = 11 ∨ e0 = 12 ∨ e0 = 24)) (A : Option Addr) (c : Nat) (w0 w : World) (u : Value) (p : Pk) (hp : Lies w0 u p) (hty : ∀ x ∈ p.lines, 1 ≤ x.f3) (q : Nat) (hk : Wk w0 u q w) :
    Calls Try.prog 157 #[.pointer (some ⟨q, 0, none⟩), .agg #[.int .i64 e0, .int .i64 e1, .int .i64 e2, .int .i64 e3, .slice A l.length c]] w (BoolPost True w) := by
  have HL := Aside0.mk hp
  have HK := Aside0.mk hk
  have HT := Aside0.mk hty
  obtain ⟨A2, c2, A3, c3, A4, c4, A5, c5, A6, c6, rfl, hx2, hx3, hx4, hx5, hx6, _⟩ := hp
  obtain ⟨grp, nd, hbox⟩ := hk.box
  obtain ⟨⟨a0, a1, a2, a3, a4, a5, a6⟩, a7, a8, a9⟩ := cellsW hbox
  have hq := hk.lt
  have m2 : p.options.length ≤ 9223372036854775807 := hx2.2.1
  have m3 : p.tables.length ≤ 9223372036854775807 := hx3.2.1
  have m4 : p.groups.length ≤ 9223372036854775807 := hx4.2.1
  have HX2 := Aside0.mk hx2
  clear hx2 hx3 hx4 hx5 hx6 hk hty hbox a9
  have q5 : (e0 == 5) = false := by simp; omega
  have q6 : (e0 == 6) = false := by simp; omega
  have q7 : (e0 == 7) = false := by simp; omega
  have q8 : (e0 == 8) = false := by simp; omega
  have q9 : (e0 == 9) = false := by simp; omega
  have q10 : (e0 == 10) = false := by simp; omega
  have q11 : (e0 == 11) = false := by simp; omega
  have q12 : (e0 == 12) = false := by simp; omega
  have q24 : (e0 == 24) = false := by simp; omega
  clear ho
  go_enter Try.func157, Try.ntmps157
  go_wp2_with fail
  all_goals (go_ret; exact ⟨_, rfl, (fun _ => trivial), bel⟩)
set_option maxHeartbeats 8000000 in
theorem there_range (e0 e1 e2 e3 : Int) (l : List S80) (ho : e0 = 8 ∨ e0 = 24) (A : Option Addr) (c : Nat) (w0 w : World) (u : Value) (p : Pk) (hp : Lies w0 u p) (hty : ∀ x ∈ p.lines, 1 ≤ x.f3) (q : Nat) (hk : Wk w0 u q w) :
    Calls Try.prog 157 #[.pointer (some ⟨q, 0, none⟩), .agg #[.int .i64 e0, .int .i64 e1, .int .i64 e2, .int .i64 e3, .slice A l.length c]] w (BoolPost True w) := by
  have HL := Aside0.mk hp
  have HK := Aside0.mk hk
  have HT := Aside0.mk hty
  obtain ⟨A2, c2, A3, c3, A4, c4, A5, c5, A6, c6, rfl, hx2, hx3, hx4, hx5, hx6, _⟩ := hp
  obtain ⟨grp, nd, hbox⟩ := hk.box
  obtain ⟨⟨a0, a1, a2, a3, a4, a5, a6⟩, a7, a8, a9⟩ := cellsW hbox
  have hq := hk.lt
  have m2 : p.options.length ≤ 9223372036854775807 := hx2.2.1
  have m3 : p.tables.length ≤ 9223372036854775807 := hx3.2.1
  have m4 : p.groups.length ≤ 9223372036854775807 := hx4.2.1
  have HX2 := Aside0.mk hx2
  clear hx2 hx3 hx4 hx5 hx6 hk hty hbox a9
  rcases ho with rfl | rfl
  all_goals
    go_enter Try.func157, Try.ntmps157
    go_wp2_with fail
    all_goals (go_ret; exact ⟨_, rfl, (fun _ => trivial), bel⟩)
set_option maxHeartbeats 8000000 in
theorem there_sum (e0 e1 e2 e3 : Int) (l : List S80) (ho : e0 = 7 ∨ e0 = 9 ∨ e0 = 10 ∨ e0 = 11 ∨ e0 = 12) (A : Option Addr) (c : Nat) (w0 w : World) (u : Value) (p : Pk) (hp : Lies w0 u p) (hty : ∀ x ∈ p.lines, 1 ≤ x.f3) (q : Nat) (hk : Wk w0 u q w) :
    Calls Try.prog 157 #[.pointer (some ⟨q, 0, none⟩), .agg #[.int .i64 e0, .int .i64 e1, .int .i64 e2, .int .i64 e3, .slice A l.length c]] w (BoolPost True w) := by
  have HL := Aside0.mk hp
  have HK := Aside0.mk hk
  have HT := Aside0.mk hty
  obtain ⟨A2, c2, A3, c3, A4, c4, A5, c5, A6, c6, rfl, hx2, hx3, hx4, hx5, hx6, _⟩ := hp
  obtain ⟨grp, nd, hbox⟩ := hk.box
  obtain ⟨⟨a0, a1, a2, a3, a4, a5, a6⟩, a7, a8, a9⟩ := cellsW hbox
  have hq := hk.lt
  have m2 : p.options.length ≤ 9223372036854775807 := hx2.2.1
  have m3 : p.tables.length ≤ 9223372036854775807 := hx3.2.1
  have m4 : p.groups.length ≤ 9223372036854775807 := hx4.2.1
  have HX2 := Aside0.mk hx2
  clear hx2 hx3 hx4 hx5 hx6 hk hty hbox a9
  rcases ho with rfl | rfl | rfl | rfl | rfl
  all_goals
    go_enter Try.func157, Try.ntmps157
    go_wp2_with fail
    with_reducible refine (line_c _ _ p (HL.out.below (below_then HK.out.below HK.out.below.size (bel (w := w)))) HT.out e1).mono ?_
    rintro e w2 ⟨s, x1, x2, x3, x4, x5, B, n, d, v, rfl, hb⟩
    have HB := Aside0.mk (below_then (bel (w := w)) (by simp only [World.size_alloc]; omega) hb)
    have HK2 := HK.out.next HB.out
    obtain ⟨grp2, nd2, hbox⟩ := HK2.box
    obtain ⟨⟨b0, b1, b2, b3, b4, b5, b6⟩, b7, b8, b9⟩ := cellsW hbox
    have hq2 := HK2.lt
    clear hb HK2 hbox b0 b1 b2 b3 b4 b5 b6 b8 b9
    cases v
    all_goals
      go_wp2_with fail
      all_goals (go_ret; exact ⟨_, rfl, (fun _ => trivial), below_alloc HB.out _⟩)
set_option maxHeartbeats 8000000 in
theorem there_line (e0 e1 e2 e3 : Int) (l : List S80) (ho : e0 = 6) (A : Option Addr) (c : Nat) (w0 w : World) (u : Value) (p : Pk) (hp : Lies w0 u p) (hty : ∀ x ∈ p.lines, 1 ≤ x.f3) (q : Nat) (hk : Wk w0 u q w) :
    Calls Try.prog 157 #[.pointer (some ⟨q, 0, none⟩), .agg #[.int .i64 e0, .int .i64 e1, .int .i64 e2, .int .i64 e3, .slice A l.length c]] w (BoolPost True w) := by
  have HL := Aside0.mk hp
  have HK := Aside0.mk hk
  have HT := Aside0.mk hty
  obtain ⟨A2, c2, A3, c3, A4, c4, A5, c5, A6, c6, rfl, hx2, hx3, hx4, hx5, hx6, _⟩ := hp
  obtain ⟨grp, nd, hbox⟩ := hk.box
  obtain ⟨⟨a0, a1, a2, a3, a4, a5, a6⟩, a7, a8, a9⟩ := cellsW hbox
  have hq := hk.lt
  have m2 : p.options.length ≤ 9223372036854775807 := hx2.2.1
  have m3 : p.tables.length ≤ 9223372036854775807 := hx3.2.1
  have m4 : p.groups.length ≤ 9223372036854775807 := hx4.2.1
  have HX2 := Aside0.mk hx2
  clear hx2 hx3 hx4 hx5 hx6 hk hty hbox a9
  subst ho
  go_enter Try.func157, Try.ntmps157
  go_wp2_with fail
  with_reducible refine (line_c _ _ p (HL.out.below (below_then HK.out.below HK.out.below.size (bel (w := w)))) HT.out e1).mono ?_
  rintro e w2 ⟨s, x1, x2, x3, x4, x5, B, n, d, v, rfl, hb⟩
  have HB := Aside0.mk (below_then (bel (w := w)) (by simp only [World.size_alloc]; omega) hb)
  have HK2 := HK.out.next HB.out
  obtain ⟨grp2, nd2, hbox⟩ := HK2.box
  obtain ⟨⟨b0, b1, b2, b3, b4, b5, b6⟩, b7, b8, b9⟩ := cellsW hbox
  have hq2 := HK2.lt
  clear hb HK2 hbox b0 b1 b2 b3 b4 b5 b6 b8 b9
  by_cases hg : x5 = -1
  · have g1 : (x5 == -1) = true := by simp [hg]
    clear hg
    cases v
    all_goals
      go_wp2_with fail
      go_quiet (fail)
      go_wp2_with fail
      all_goals (go_ret; exact ⟨_, rfl, (fun _ => trivial), pw_below_drewN (below_alloc HB.out _) _⟩)
  · have g1 : (x5 == -1) = false := by simp [hg]
    clear hg
    cases v
    all_goals
      go_wp2_with fail
      go_quiet (fail)
      go_wp2_with fail
      all_goals (go_ret; exact ⟨_, rfl, (fun _ => trivial), pw_below_drewN (below_alloc HB.out _) _⟩)
set_option maxHeartbeats 8000000 in
theorem there_choice (e0 e1 e2 e3 : Int) (l : List S80) (ho : e0 = 5) (A : Option Addr) (c : Nat) (w0 w : World) (u : Value) (p : Pk) (hp : Lies w0 u p) (hty : ∀ x ∈ p.lines, 1 ≤ x.f3) (q : Nat) (hk : Wk w0 u q w) :
    Calls Try.prog 157 #[.pointer (some ⟨q, 0, none⟩), .agg #[.int .i64 e0, .int .i64 e1, .int .i64 e2, .int .i64 e3, .slice A l.length c]] w (BoolPost True w) := by
  have HL := Aside0.mk hp
  have HK := Aside0.mk hk
  have HT := Aside0.mk hty
  obtain ⟨A2, c2, A3, c3, A4, c4, A5, c5, A6, c6, rfl, hx2, hx3, hx4, hx5, hx6, _⟩ := hp
  obtain ⟨grp, nd, hbox⟩ := hk.box
  obtain ⟨⟨a0, a1, a2, a3, a4, a5, a6⟩, a7, a8, a9⟩ := cellsW hbox
  have hq := hk.lt
  have m2 : p.options.length ≤ 9223372036854775807 := hx2.2.1
  have m3 : p.tables.length ≤ 9223372036854775807 := hx3.2.1
  have m4 : p.groups.length ≤ 9223372036854775807 := hx4.2.1
  have HX2 := Aside0.mk hx2
  clear hx2 hx3 hx4 hx5 hx6 hk hty hbox a9
  subst ho
  go_enter Try.func157, Try.ntmps157
  by_cases h0 : 0 ≤ e2
  · have d0 : decide (0 ≤ e2) = true := decide_eq_true h0
    by_cases h1 : e2 < (p.options.length : Int)
    · have d1 : decide (e2 < (p.options.length : Int)) = true := decide_eq_true h1
      by_cases h2 : 0 ≤ e1
      · have d2 : decide (0 ≤ e1) = true := decide_eq_true h2
        obtain ⟨i, rfl⟩ : ∃ i : Nat, e2 = i := ⟨e2.toNat, by omega⟩
        obtain ⟨ad, B, d, hA, g0, g1, l1, gC⟩ := at_T97 (Kd.C_below HX2.out HK.out.below) (i : Int) (by omega) (by omega)
        subst hA
        rw [Int.toNat_natCast] at g0 g1
        have p1 := World.block_lt_of_cell? w _ g1
        clear l1 gC
        go_wp2_with fail
        go_quiet (fail)
        go_wp2_with fail
        all_goals (go_ret; exact ⟨_, rfl, (fun _ => trivial), pw_below_drewN bel _⟩)
      · have d2 : decide (0 ≤ e1) = false := decide_eq_false h2
        go_wp2_with fail
        go_quiet (fail)
        go_wp2_with fail
        all_goals (go_ret; exact ⟨_, rfl, (fun _ => trivial), pw_below_drewN bel _⟩)
    · have d1 : decide (e2 < (p.options.length : Int)) = false := decide_eq_false h1
      go_wp2_with fail
      go_quiet (fail)
      go_wp2_with fail
      all_goals (go_ret; exact ⟨_, rfl, (fun _ => trivial), pw_below_drewN bel _⟩)
  · have d0 : decide (0 ≤ e2) = false := decide_eq_false h0
    go_wp2_with fail
    go_quiet (fail)
    go_wp2_with fail
    all_goals (go_ret; exact ⟨_, rfl, (fun _ => trivial), pw_below_drewN bel _⟩)
theorem there_c (e : S80) (A : Option Addr) (c : Nat) (w0 w : World) (u : Value) (p : Pk) (hp : Lies w0 u p) (hty : ∀ x ∈ p.lines, 1 ≤ x.f3) (q : Nat) (hk : Wk w0 u q w) :
    Calls Try.prog 157 #[.pointer (some ⟨q, 0, none⟩), .agg #[.int .i64 e.f0, .int .i64 e.f1, .int .i64 e.f2, .int .i64 e.f3, .slice A e.f4.length c]] w (BoolPost True w) := by
  obtain ⟨e0, e1, e2, e3, l⟩ := e
  by_cases k1 : e0 = 5
  · exact there_choice e0 e1 e2 e3 l k1 A c w0 w u p hp hty q hk
  by_cases k2 : e0 = 6
  · exact there_line e0 e1 e2 e3 l k2 A c w0 w u p hp hty q hk
  by_cases k3 : e0 = 8 ∨ e0 = 24
  · exact there_range e0 e1 e2 e3 l k3 A c w0 w u p hp hty q hk
  by_cases k4 : e0 = 7 ∨ e0 = 9 ∨ e0 = 10 ∨ e0 = 11 ∨ e0 = 12
  · exact there_sum e0 e1 e2 e3 l k4 A c w0 w u p hp hty q hk
  exact there_else e0 e1 e2 e3 l (by omega) A c w0 w u p hp hty q hk
end Go.Proofs.Ytpbdkkahodaloaa.J
end

section
namespace Go.Proofs.Ytpbdkkahodaloaa.J
open Go.RowKit Go.Proofs.Ytpbdkkahodaloaa.PS Go.Proofs.Ytpbdkkahodaloaa.U Go.Proofs.Ytpbdkkahodaloaa.T Go.Proofs.YtpbdkkahodaloaaW.PrintWords Go.Proofs.YtpbdkkahodaloaaW.PrintMore
set_option linter.unusedVariables false
set_option maxRecDepth 100000
theorem below_a {wa W : World} {o : Obj} (h : Below (wa.alloc o).heap.size (wa.alloc o) W) : Below wa.heap.size wa W := by
  have h1 : Below wa.heap.size wa (wa.alloc o) := below_alloc (Below.refl _ _) _
  exact below_then h1 h1.size h
abbrev line0 : Array Value := #[.string ⟨#[]⟩, .bool false, .bool false, .int .i64 0, .int .i64 0, .int .i64 0, .slice none 0 0]
def LeafPost (w : World) (e : Ending) (w' : World) : Prop := ∃ k t b, e = .returned (.tuple #[.agg #[.int .i64 k, .int .i64 t], .bool b]) ∧ Below w.heap.size w w'
structure LF (w : World) (es ls : Array Value) (gl : Nat) (w' : World) : Prop where
  below : Below w.heap.size w w'
  ebox : w'.heap[w.heap.size]? = some (.cells es 80 (0, 0))
  rbox : ∃ k t, w'.heap[w.heap.size + 1]? = some (.cells #[.int .i64 k, .int .i64 t] 218 (0, 0))
  lbox : w'.heap[gl]? = some (.cells ls 77 (0, 0))
theorem LF.next {w w' w2 : World} {es ls : Array Value} {gl : Nat} (h : LF w es ls gl w') (hb : Below w'.heap.size w' w2) : LF w es ls gl w2 :=
  ⟨below_then h.below h.below.size hb, blk_below h.ebox hb, h.rbox.imp fun _ h => h.imp fun _ h => blk_below h hb, blk_below h.lbox hb⟩
def LnPost (w wa : World) (es : Array Value) (e : Ending) (w' : World) : Prop := ∃ (s : ByteArray) (x1 x2 : Bool) (x3 x4 x5 : Int) (B : Option Addr) (n d : Nat) (v : Bool), e = .returned (.tuple #[.agg #[.string s, .bool x1, .bool x2, .int .i64 x3, .int .i64 x4, .int .i64 x5, .slice B n d], .bool v]) ∧
  Below wa.heap.size wa w' ∧ Below w.heap.size w w' ∧ w'.heap[w.heap.size]? = some (.cells es 80 (0, 0)) ∧ w'.heap[w.heap.size + 1]? = some (.cells #[.int .i64 0, .int .i64 0] 218 (0, 0))
def LnPost2 (w wa : World) (es : Array Value) (g : Nat) (e : Ending) (w' : World) : Prop := ∃ (s : ByteArray) (x1 x2 : Bool) (x3 x4 x5 : Int) (B : Option Addr) (n d : Nat) (v : Bool), e = .returned (.tuple #[.agg #[.string s, .bool x1, .bool x2, .int .i64 x3, .int .i64 x4, .int .i64 x5, .slice B n d], .bool v]) ∧
  Below wa.heap.size wa w' ∧ Below w.heap.size w w' ∧ w'.heap[w.heap.size]? = some (.cells es 80 (0, 0)) ∧ w'.heap[w.heap.size + 1]? = some (.cells #[.int .i64 0, .int .i64 0] 218 (0, 0)) ∧ g < w'.heap.size ∧ w'.heap[g]? = some (.cells line0 77 (0, 0)) ∧
  (w'.cell? ⟨g, 0, none⟩ = some (.string ⟨#[]⟩) ∧ w'.cell? ⟨g, 1, none⟩ = some (.bool false) ∧ w'.cell? ⟨g, 2, none⟩ = some (.bool false) ∧ w'.cell? ⟨g, 3, none⟩ = some (.int .i64 0) ∧ w'.cell? ⟨g, 4, none⟩ = some (.int .i64 0) ∧ w'.cell? ⟨g, 5, none⟩ = some (.int .i64 0) ∧ w'.cell? ⟨g, 6, none⟩ = some (.slice none 0 0)) ∧
  w'.frozen? ⟨g, 0, none⟩ = false ∧ w'.frozen? ⟨g, 1, none⟩ = false ∧ w'.frozen? ⟨g, 2, none⟩ = false ∧ w'.frozen? ⟨g, 3, none⟩ = false ∧ w'.frozen? ⟨g, 4, none⟩ = false ∧ w'.frozen? ⟨g, 5, none⟩ = false ∧ w'.frozen? ⟨g, 6, none⟩ = false
theorem lf_new {w w2 : World} {es : Array Value} (ls : Array Value) (hB : Below w.heap.size w w2) (hE : w2.heap[w.heap.size]? = some (.cells es 80 (0, 0))) (hR : w2.heap[w.heap.size + 1]? = some (.cells #[.int .i64 0, .int .i64 0] 218 (0, 0))) : LF w es ls w2.heap.size (w2.alloc (.cells ls 77)) :=
  ⟨below_alloc hB _, blk_alloc hE _, ⟨0, 0, blk_alloc hR _⟩, blk_new w2 _⟩
theorem lf_set {w w2 : World} {es : Array Value} {g : Nat} {v0 v1 v2 v3 v4 v5 v6 : Value} (hg : w.heap.size + 1 < g) (hB : Below w.heap.size w w2) (hE : w2.heap[w.heap.size]? = some (.cells es 80 (0, 0))) (hR : w2.heap[w.heap.size + 1]? = some (.cells #[.int .i64 0, .int .i64 0] 218 (0, 0)))
    (hL : w2.heap[g]? = some (.cells line0 77 (0, 0))) : LF w es #[v0, v1, v2, v3, v4, v5, v6] g (((((((w2.setCell ⟨g, 0, none⟩ v0).setCell ⟨g, 1, none⟩ v1).setCell ⟨g, 2, none⟩ v2).setCell ⟨g, 3, none⟩ v3).setCell ⟨g, 4, none⟩ v4).setCell ⟨g, 5, none⟩ v5).setCell ⟨g, 6, none⟩ v6) := by
  have hne : ∀ k, k < g → (((((((w2.setCell ⟨g, 0, none⟩ v0).setCell ⟨g, 1, none⟩ v1).setCell ⟨g, 2, none⟩ v2).setCell ⟨g, 3, none⟩ v3).setCell ⟨g, 4, none⟩ v4).setCell ⟨g, 5, none⟩ v5).setCell ⟨g, 6, none⟩ v6).heap[k]? = w2.heap[k]? := fun k hk => by
    have h : k ≠ g := by omega
    rw [Below.heap_setCell _ _ _ k h, Below.heap_setCell _ _ _ k h, Below.heap_setCell _ _ _ k h, Below.heap_setCell _ _ _ k h, Below.heap_setCell _ _ _ k h, Below.heap_setCell _ _ _ k h, Below.heap_setCell _ _ _ k h]
  refine ⟨?_, (hne _ (by omega)).trans hE, ⟨0, 0, (hne _ (by omega)).trans hR⟩, V.sets_all (cs := [v0, v1, v2, v3, v4, v5, v6]) hL rfl⟩
  refine below_set (below_set (below_set (below_set (below_set (below_set (below_set hB ?_) ?_) ?_) ?_) ?_) ?_) ?_ <;> first | omega | (dsimp only; omega)
def OfPost (w : World) (es ls : Array Value) (gl : Nat) (x3 : Int) (wb : World) (e : Ending) (w' : World) : Prop := ∃ k t, e = .returned (.agg #[.int .i64 k, .int .i64 t]) ∧ Below wb.heap.size wb w' ∧ LF w es ls gl w' ∧ w'.cell? ⟨gl, 3, none⟩ = some (.int .i64 x3) ∧
  ∃ g0 g1, w'.heap[w.heap.size + 1]? = some (.cells #[.int .i64 g0, .int .i64 g1] 218 (0, 0)) ∧ w'.cell? ⟨w.heap.size + 1, 0, none⟩ = some (.int .i64 g0) ∧ w'.cell? ⟨w.heap.size + 1, 1, none⟩ = some (.int .i64 g1) ∧ w'.frozen? ⟨w.heap.size + 1, 0, none⟩ = false ∧ w'.frozen? ⟨w.heap.size + 1, 1, none⟩ = false ∧ w.heap.size + 1 < w'.heap.size
theorem of_post {w wb : World} {es : Array Value} {s : ByteArray} {x1 x2 : Bool} {x3 x4 x5 : Int} {B : Option Addr} {n d gl : Nat} (h : LF w es #[.string s, .bool x1, .bool x2, .int .i64 x3, .int .i64 x4, .int .i64 x5, .slice B n d] gl wb) (W : World) (hW : Below wb.heap.size wb W) :
    Calls Try.prog 138 #[.agg #[.string s, .bool x1, .bool x2, .int .i64 x3, .int .i64 x4, .int .i64 x5, .slice B n d]] W (OfPost w es #[.string s, .bool x1, .bool x2, .int .i64 x3, .int .i64 x4, .int .i64 x5, .slice B n d] gl x3 wb) :=
  (of_c s x1 x2 x3 x4 x5 B n d W).mono (fun e W' hp => by
    obtain ⟨k, t, rfl, hb⟩ := hp
    have h1 := below_then hW hW.size hb
    have h2 := h.next h1
    obtain ⟨g0, g1, hg⟩ := h2.rbox
    obtain ⟨z0, z1, f0, f1⟩ := cells2 hg
    exact ⟨k, t, rfl, h1, h2, (blk_cell h2.lbox 3).trans rfl, g0, g1, hg, z0, z1, f0, f1, blk_lt hg⟩)
abbrev LfS (gl : Nat) (s : ByteArray) (x1 x2 : Bool) (x3 x4 x5 : Int) (B : Option Addr) (n d : Nat) (w' : World) : Prop := w'.cell? ⟨gl, 0, none⟩ = some (.string s) ∧ w'.cell? ⟨gl, 1, none⟩ = some (.bool x1) ∧ w'.cell? ⟨gl, 2, none⟩ = some (.bool x2) ∧ w'.cell? ⟨gl, 3, none⟩ = some (.int .i64 x3) ∧ w'.cell? ⟨gl, 4, none⟩ = some (.int .i64 x4) ∧ w'.cell? ⟨gl, 5, none⟩ = some (.int .i64 x5) ∧ w'.cell? ⟨gl, 6, none⟩ = some (.slice B n d)
theorem LfS.next {gl : Nat} {s : ByteArray} {x1 x2 : Bool} {x3 x4 x5 : Int} {B : Option Addr} {n d : Nat} {w1 w2 : World} (h : LfS gl s x1 x2 x3 x4 x5 B n d w1) (hb : Below w1.heap.size w1 w2) : LfS gl s x1 x2 x3 x4 x5 B n d w2 := by
  obtain ⟨l0, l1, l2, l3, l4, l5, l6⟩ := h
  exact ⟨old_cell hb l0, old_cell hb l1, old_cell hb l2, old_cell hb l3, old_cell hb l4, old_cell hb l5, old_cell hb l6⟩
theorem LfS.store {w : World} {gl : Nat} {s : ByteArray} {x1 x2 : Bool} {x3 x4 x5 : Int} {B : Option Addr} {n d : Nat} {w1 : World} (h : LfS gl s x1 x2 x3 x4 x5 B n d w1) (hne : gl ≠ w.heap.size + 1) (y0 y1 : Value) : LfS gl s x1 x2 x3 x4 x5 B n d ((w1.setCell ⟨w.heap.size + 1, 0, none⟩ y0).setCell ⟨w.heap.size + 1, 1, none⟩ y1) := by
  obtain ⟨l0, l1, l2, l3, l4, l5, l6⟩ := h
  have hk : KeepBut w1 ((w1.setCell ⟨w.heap.size + 1, 0, none⟩ y0).setCell ⟨w.heap.size + 1, 1, none⟩ y1) (w.heap.size + 1) none := ((KeepBut.refl w1 (w.heap.size + 1) none).set_ 0 _).set_ 1 _
  exact ⟨keep_cell hk l0 hne, keep_cell hk l1 hne, keep_cell hk l2 hne, keep_cell hk l3 hne, keep_cell hk l4 hne, keep_cell hk l5 hne, keep_cell hk l6 hne⟩
set_option maxHeartbeats 16000000 in
theorem leaf_c (e0 e1 e2 e3 : Int) (l : List S80) (ho : 1 ≤ e0 ∧ e0 ≤ 12) (A : Option Addr) (c : Nat) (w0 w : World) (u : Value) (p : Pk) (hp : Lies w0 u p) (hty : ∀ x ∈ p.lines, 1 ≤ x.f3) (q : Nat) (hk : Wk w0 u q w) :
    Calls Try.prog 158 #[.pointer (some ⟨q, 0, none⟩), .agg #[.int .i64 e0, .int .i64 e1, .int .i64 e2, .int .i64 e3, .slice A l.length c]] w (LeafPost w) := by
  have HO := Aside0.mk ho
  have HL := Aside0.mk hp
  have HK := Aside0.mk hk
  have HT := Aside0.mk hty
  obtain ⟨A2, c2, A3, c3, A4, c4, A5, c5, A6, c6, rfl, hx2, hx3, hx4, hx5, hx6, _⟩ := hp
  obtain ⟨grp, nd, hbox⟩ := hk.box
  obtain ⟨⟨a0, a1, a2, a3, a4, a5, a6⟩, a7, a8, a9⟩ := cellsW hbox
  have hq := hk.lt
  clear hx2 hx3 hx4 hx5 hx6 hk hty hbox a9 a7 a8 ho
  obtain ⟨wa, hwa⟩ : ∃ wa, wa = (w.alloc (.cells #[.int .i64 e0, .int .i64 e1, .int .i64 e2, .int .i64 e3, .slice A l.length c] 80)).alloc (.cells #[.int .i64 0, .int .i64 0] 218) := ⟨_, rfl⟩
  have HA := Aside0.mk (show Below w.heap.size w wa ∧ wa.heap[w.heap.size]? = some (.cells #[.int .i64 e0, .int .i64 e1, .int .i64 e2, .int .i64 e3, .slice A l.length c] 80 (0, 0)) ∧ wa.heap[w.heap.size + 1]? = some (.cells #[.int .i64 0, .int .i64 0] 218 (0, 0)) ∧ w.heap.size + 1 < wa.heap.size by
    rw [hwa]; exact ⟨bel, blk_alloc (blk_new w _) _, blk_two _ _ _, blk_lt (blk_two _ _ _)⟩)
  have HLN := Aside0.mk (fun (W : World) (hW : Below wa.heap.size wa W) => (line_c W _ p (HL.out.below (below_then HK.out.below HK.out.below.size (below_then HA.out.1 HA.out.1.size hW))) HT.out e1).mono (fun e W' (h : LinePost W e W') => (show LnPost w wa #[.int .i64 e0, .int .i64 e1, .int .i64 e2, .int .i64 e3, .slice A l.length c] e W' from by
    obtain ⟨s, x1, x2, x3, x4, x5, B, n, d, v, rfl, hb⟩ := h
    have h1 := below_then hW hW.size hb
    exact ⟨s, x1, x2, x3, x4, x5, B, n, d, v, rfl, h1, below_then HA.out.1 HA.out.1.size h1, blk_below HA.out.2.1 h1, blk_below HA.out.2.2.1 h1⟩)))
  have HLN2 := Aside0.mk (fun (W : World) (hW : Below (wa.alloc (.cells line0 77)).heap.size (wa.alloc (.cells line0 77)) W) => (line_c W _ p (HL.out.below (below_then HK.out.below HK.out.below.size (below_then HA.out.1 HA.out.1.size (below_a hW)))) HT.out e1).mono (fun e W' (h : LinePost W e W') => (show LnPost2 w wa #[.int .i64 e0, .int .i64 e1, .int .i64 e2, .int .i64 e3, .slice A l.length c] wa.heap.size e W' from by
    obtain ⟨s, x1, x2, x3, x4, x5, B, n, d, v, rfl, hb⟩ := h
    have h0 := below_then hW hW.size hb
    have h1 : Below wa.heap.size wa W' := below_a h0
    have h3 := blk_below (blk_new wa (.cells line0 77)) h0
    exact ⟨s, x1, x2, x3, x4, x5, B, n, d, v, rfl, h1, below_then HA.out.1 HA.out.1.size h1, blk_below HA.out.2.1 h1, blk_below HA.out.2.2.1 h1, blk_lt h3, h3, cells7 h3, blk_frozen h3 0, blk_frozen h3 1, blk_frozen h3 2, blk_frozen h3 3, blk_frozen h3 4, blk_frozen h3 5, blk_frozen h3 6⟩)))
  have b0 := old_cell HA.out.1 a0
  have b1 := old_cell HA.out.1 a1
  have b2 := old_cell HA.out.1 a2
  have b3 := old_cell HA.out.1 a3
  have b4 := old_cell HA.out.1 a4
  have b5 := old_cell HA.out.1 a5
  have b6 := old_cell HA.out.1 a6
  obtain ⟨d0, d1, d2, d3, d4⟩ := cells5 HA.out.2.1
  have hlt0 : w.heap.size < wa.heap.size := blk_lt HA.out.2.1
  have hltq : q < wa.heap.size := by omega
  clear a0 a1 a2 a3 a4 a5 a6
  go_enter Try.func158, Try.ntmps158
  go_upto_region 1 with (fail)
  rw [← hwa]
  clear hwa
  go_cut [6, 7] (fun v6 v7 wd => ∃ (gl : Nat) (s : ByteArray) (x1 x2 : Bool) (x3 x4 x5 : Int) (B : Option Addr) (n d : Nat) (v : Bool), v6 = .pointer (some ⟨gl, 0, none⟩) ∧ v7 = .bool v ∧ Aside0 (LF w #[.int .i64 e0, .int .i64 e1, .int .i64 e2, .int .i64 e3, .slice A l.length c] #[.string s, .bool x1, .bool x2, .int .i64 x3, .int .i64 x4, .int .i64 x5, .slice B n d] gl wd))
  case first =>
    rename_i JJ KK hJJ hKK
    have hdr : Below wa.heap.size wa wa := Below.refl _ _
    have LSH := Aside0.mk (fun (w' : World) (h : Below wa.heap.size wa w') => (show w'.cell? ⟨q, 0, none⟩ = some (.string p.name) ∧ w'.cell? ⟨q, 1, none⟩ = some (.int .i64 p.year) ∧ w'.cell? ⟨q, 2, none⟩ = some (.slice A2 p.options.length c2) ∧ w'.cell? ⟨q, 3, none⟩ = some (.slice A3 p.tables.length c3) ∧ w'.cell? ⟨q, 4, none⟩ = some (.slice A4 p.groups.length c4) ∧ w'.cell? ⟨q, 5, none⟩ = some (.slice A5 p.lines.length c5) ∧ w'.cell? ⟨q, 6, none⟩ = some (.slice A6 p.checks.length c6) ∧ w'.cell? ⟨w.heap.size, 1, none⟩ = some (.int .i64 e1) ∧ Below wa.heap.size wa w' from ⟨old_cell h b0, old_cell h b1, old_cell h b2, old_cell h b3, old_cell h b4, old_cell h b5, old_cell h b6, old_cell h d1, h⟩))
    go_region_held3 (fun w' => w'.cell? ⟨q, 0, none⟩ = some (.string p.name) ∧ w'.cell? ⟨q, 1, none⟩ = some (.int .i64 p.year) ∧ w'.cell? ⟨q, 2, none⟩ = some (.slice A2 p.options.length c2) ∧ w'.cell? ⟨q, 3, none⟩ = some (.slice A3 p.tables.length c3) ∧ w'.cell? ⟨q, 4, none⟩ = some (.slice A4 p.groups.length c4) ∧ w'.cell? ⟨q, 5, none⟩ = some (.slice A5 p.lines.length c5) ∧ w'.cell? ⟨q, 6, none⟩ = some (.slice A6 p.checks.length c6) ∧ w'.cell? ⟨w.heap.size, 1, none⟩ = some (.int .i64 e1) ∧ Below wa.heap.size wa w')
      (first | exact LSH.out _ (by repeat (first | with_reducible exact hBa | with_reducible exact Below.refl _ _ | with_reducible apply below_alloc | with_reducible apply below_drew | with_reducible apply below_drew1 | (with_reducible refine below_set ?_ (by first | omega | (dsimp only; omega))))))
      (first
      | (go_at_call 162; refine (HLN.out _ (by first | exact Below.refl _ _ | exact below_drew (Below.refl _ _) | assumption)).mono ?_; rintro e w2 ⟨s, x1, x2, x3, x4, x5, B, n, d, v, rfl, hBa, hB, hE, hR⟩)
      | (go_at_call 162; refine (HLN2.out _ (by first | exact Below.refl _ _ | exact below_drew (Below.refl _ _) | assumption)).mono ?_; rintro e w2 ⟨s, x1, x2, x3, x4, x5, B, n, d, v, rfl, hBa, hB, hE, hR, hlt2, hL, ⟨y0, y1, y2, y3, y4, y5, y6⟩, t0, t1, t2, t3, t4, t5, t6⟩))
    all_goals (go_step; refine hKK _ _ ?_; go_meet; first
      | (refine ⟨w2.heap.size, s, x1, x2, x3, x4, x5, B, n, d, v, rfl, rfl, ⟨?_⟩⟩; with_reducible exact lf_new _ hB hE hR)
      | (refine ⟨wa.heap.size, s, x1, x2, x3, x4, x5, B, n, d, v, rfl, rfl, ⟨?_⟩⟩; with_reducible exact lf_set HA.out.2.2.2 hB hE hR hL))
  case rest =>
  obtain ⟨gl, s, x1, x2, x3, x4, x5, B, n, d, v, rfl, rfl, HF⟩ := hcut
  clear b0 b1 b2 b3 b4 b5 b6 d0 d1 d2 d3 d4 HLN HLN2
  obtain ⟨g0, g1, hg⟩ := HF.out.rbox
  obtain ⟨z0, z1, f0, f1⟩ := cells2 hg
  obtain ⟨k0, k1, k2, k3, k4⟩ := cells5 HF.out.ebox
  obtain ⟨l0, l1, l2, l3, l4, l5, l6⟩ := cells7 HF.out.lbox
  have hgl := blk_lt HF.out.lbox
  have hgr := blk_lt hg
  have hge := blk_lt HF.out.ebox
  by_cases q1 : e0 = 1
  · subst q1
    clear HO HA
    go_wp2_with fail
    all_goals (refine bodyPost_ret (results_two rfl rfl rfl (agg_218 (set2 hg) rfl)) rfl ?_; exact ⟨_, _, _, rfl, below2 HF.out.below (Nat.le_succ _)⟩)
  by_cases q2 : e0 = 2
  · subst q2
    clear HO HA
    go_wp2_with fail
    all_goals (refine bodyPost_ret (results_two rfl rfl rfl (agg_218 (set2 hg) rfl)) rfl ?_; exact ⟨_, _, _, rfl, below2 HF.out.below (Nat.le_succ _)⟩)
  by_cases q3 : e0 = 3
  · subst q3
    clear HO HA
    go_wp2_with fail
    all_goals (refine bodyPost_ret (results_two rfl rfl rfl (agg_218 (set2 hg) rfl)) rfl ?_; exact ⟨_, _, _, rfl, below2 HF.out.below (Nat.le_succ _)⟩)
  by_cases q4 : e0 = 4
  · subst q4
    clear HO HA
    go_wp2_with fail
    all_goals (refine bodyPost_ret (results_two rfl rfl rfl (agg_218 (set2 hg) rfl)) rfl ?_; exact ⟨_, _, _, rfl, below2 HF.out.below (Nat.le_succ _)⟩)
  by_cases q5 : e0 = 5
  · subst q5
    clear HO HA
    go_wp2_with fail
    all_goals (refine bodyPost_ret (results_two rfl rfl rfl (agg_218 (set2 hg) rfl)) rfl ?_; exact ⟨_, _, _, rfl, below2 HF.out.below (Nat.le_succ _)⟩)
  by_cases q8 : e0 = 8
  · subst q8
    clear HO HA
    go_wp2_with fail
    all_goals (refine bodyPost_ret (results_two rfl rfl rfl (agg_218 (set2 hg) rfl)) rfl ?_; exact ⟨_, _, _, rfl, below2 HF.out.below (Nat.le_succ _)⟩)
  by_cases q6 : e0 = 6
  · subst q6
    clear HO HA
    go_wp2_with fail
    with_reducible refine (of_post HF.out _ (Below.refl _ _)).mono ?_
    rintro e w3 ⟨k, t, rfl, _, HF3, _, g0', g1', hg', z0', z1', f0', f1', zl'⟩
    go_wp2_with fail
    all_goals (refine bodyPost_ret (results_two rfl rfl rfl (agg_218 (set2 hg') rfl)) rfl ?_; exact ⟨_, _, _, rfl, below2 HF3.below (Nat.le_succ _)⟩)
  by_cases q7 : e0 = 7
  · subst q7
    clear HO HA
    by_cases hx : x3 = 1
    · subst hx
      go_wp2_with fail
      have HOF := Aside0.mk (fun (W : World) (hW : Below wc.heap.size wc W) => of_post HF.out W hW)
      clear k0 k1 k2 k3 k4 hge
      first
        | go_region_with (first | (go_at_call 138; refine (HOF.out _ (by with_reducible exact below_drew (Below.refl _ _))).mono ?_; rintro e w3 ⟨k, t, rfl, hbv, HF3, l3', g0', g1', hg', z0', z1', f0', f1', zl'⟩))
        | fail
      all_goals (try go_wp2_with fail)
      all_goals (refine bodyPost_ret (results_two rfl rfl rfl (agg_218 (set2 hg') rfl)) rfl ?_; first | exact ⟨_, _, _, rfl, below2 HF3.below (Nat.le_succ _)⟩ | exact ⟨_, _, _, rfl, below_drew (below2 HF3.below (Nat.le_succ _))⟩)
    · have hx1 : (x3 == 1) = false := by simp [hx]
      have hx2 : (x3 != 1) = true := by simp [hx]
      clear hx
      go_wp2_with fail
      have HS0 := Aside0.mk (show LfS gl s x1 x2 x3 x4 x5 B n d wc from ⟨l0, l1, l2, l3, l4, l5, l6⟩)
      have HOF := Aside0.mk (fun (W : World) (hW : Below wc.heap.size wc W) => of_post HF.out W hW)
      have hgn : gl ≠ w.heap.size + 1 := fun e => by have h1 := HF.out.lbox; rw [e, hg] at h1; cases h1
      clear k0 k1 k2 k3 k4 hge
      first
        | go_region_held3 (fun w' => w'.cell? ⟨gl, 0, none⟩ = some (.string s) ∧ w'.cell? ⟨gl, 1, none⟩ = some (.bool x1) ∧ w'.cell? ⟨gl, 2, none⟩ = some (.bool x2) ∧ w'.cell? ⟨gl, 3, none⟩ = some (.int .i64 x3) ∧ w'.cell? ⟨gl, 4, none⟩ = some (.int .i64 x4) ∧ w'.cell? ⟨gl, 5, none⟩ = some (.int .i64 x5) ∧ w'.cell? ⟨gl, 6, none⟩ = some (.slice B n d))
          (first | with_reducible assumption | with_reducible exact HS0.out | with_reducible exact HS0.out.next (below_drew (Below.refl _ _)) | with_reducible exact HS0.out.next hbv | with_reducible exact LfS.next (by assumption) hbv | with_reducible exact LfS.store (by assumption) hgn _ _ | with_reducible exact (HS0.out.store hgn _ _).next (below_drew (Below.refl _ _)))
          (first | (go_at_call 138; refine (HOF.out _ (by with_reducible exact below_drew (Below.refl _ _))).mono ?_; rintro e w3 ⟨k, t, rfl, hbv, HF3, l3', g0', g1', hg', z0', z1', f0', f1', zl'⟩))
        | fail
      all_goals (try go_wp2_with fail)
      all_goals (refine bodyPost_ret (results_two rfl rfl rfl (agg_218 (set2 hg') rfl)) rfl ?_; first | exact ⟨_, _, _, rfl, below2 HF3.below (Nat.le_succ _)⟩ | exact ⟨_, _, _, rfl, below_drew (below2 HF3.below (Nat.le_succ _))⟩)

  by_cases q9 : e0 = 9
  · subst q9
    clear HO HA
    by_cases hx : x3 = 3
    · subst hx
      go_wp2_with fail
      have HOF := Aside0.mk (fun (W : World) (hW : Below wc.heap.size wc W) => of_post HF.out W hW)
      clear k0 k1 k2 k3 k4 hge
      first
        | go_region_with (first | (go_at_call 138; refine (HOF.out _ (by with_reducible exact below_drew (Below.refl _ _))).mono ?_; rintro e w3 ⟨k, t, rfl, hbv, HF3, l3', g0', g1', hg', z0', z1', f0', f1', zl'⟩))
        | fail
      all_goals (try go_wp2_with fail)
      all_goals (refine bodyPost_ret (results_two rfl rfl rfl (agg_218 (set2 hg') rfl)) rfl ?_; first | exact ⟨_, _, _, rfl, below2 HF3.below (Nat.le_succ _)⟩ | exact ⟨_, _, _, rfl, below_drew (below2 HF3.below (Nat.le_succ _))⟩)
    · have hx1 : (x3 == 3) = false := by simp [hx]
      have hx2 : (x3 != 3) = true := by simp [hx]
      clear hx
      go_wp2_with fail
      have HS0 := Aside0.mk (show LfS gl s x1 x2 x3 x4 x5 B n d wc from ⟨l0, l1, l2, l3, l4, l5, l6⟩)
      have HOF := Aside0.mk (fun (W : World) (hW : Below wc.heap.size wc W) => of_post HF.out W hW)
      have hgn : gl ≠ w.heap.size + 1 := fun e => by have h1 := HF.out.lbox; rw [e, hg] at h1; cases h1
      clear k0 k1 k2 k3 k4 hge
      first
        | go_region_held3 (fun w' => w'.cell? ⟨gl, 0, none⟩ = some (.string s) ∧ w'.cell? ⟨gl, 1, none⟩ = some (.bool x1) ∧ w'.cell? ⟨gl, 2, none⟩ = some (.bool x2) ∧ w'.cell? ⟨gl, 3, none⟩ = some (.int .i64 x3) ∧ w'.cell? ⟨gl, 4, none⟩ = some (.int .i64 x4) ∧ w'.cell? ⟨gl, 5, none⟩ = some (.int .i64 x5) ∧ w'.cell? ⟨gl, 6, none⟩ = some (.slice B n d))
          (first | with_reducible assumption | with_reducible exact HS0.out | with_reducible exact HS0.out.next (below_drew (Below.refl _ _)) | with_reducible exact HS0.out.next hbv | with_reducible exact LfS.next (by assumption) hbv | with_reducible exact LfS.store (by assumption) hgn _ _ | with_reducible exact (HS0.out.store hgn _ _).next (below_drew (Below.refl _ _)))
          (first | (go_at_call 138; refine (HOF.out _ (by with_reducible exact below_drew (Below.refl _ _))).mono ?_; rintro e w3 ⟨k, t, rfl, hbv, HF3, l3', g0', g1', hg', z0', z1', f0', f1', zl'⟩))
        | fail
      all_goals (try go_wp2_with fail)
      all_goals (refine bodyPost_ret (results_two rfl rfl rfl (agg_218 (set2 hg') rfl)) rfl ?_; first | exact ⟨_, _, _, rfl, below2 HF3.below (Nat.le_succ _)⟩ | exact ⟨_, _, _, rfl, below_drew (below2 HF3.below (Nat.le_succ _))⟩)

  by_cases q10 : e0 = 10
  · subst q10
    clear HO HA
    by_cases hx : x3 = 3
    · subst hx
      go_wp2_with fail
      have HOF := Aside0.mk (fun (W : World) (hW : Below wc.heap.size wc W) => of_post HF.out W hW)
      clear k0 k1 k2 k3 k4 hge
      first
        | go_region_with (first | (go_at_call 138; refine (HOF.out _ (by with_reducible exact below_drew (Below.refl _ _))).mono ?_; rintro e w3 ⟨k, t, rfl, hbv, HF3, l3', g0', g1', hg', z0', z1', f0', f1', zl'⟩))
        | fail
      all_goals (try go_wp2_with fail)
      all_goals (refine bodyPost_ret (results_two rfl rfl rfl (agg_218 (set2 hg') rfl)) rfl ?_; first | exact ⟨_, _, _, rfl, below2 HF3.below (Nat.le_succ _)⟩ | exact ⟨_, _, _, rfl, below_drew (below2 HF3.below (Nat.le_succ _))⟩)
    · have hx1 : (x3 == 3) = false := by simp [hx]
      have hx2 : (x3 != 3) = true := by simp [hx]
      clear hx
      go_wp2_with fail
      have HS0 := Aside0.mk (show LfS gl s x1 x2 x3 x4 x5 B n d wc from ⟨l0, l1, l2, l3, l4, l5, l6⟩)
      have HOF := Aside0.mk (fun (W : World) (hW : Below wc.heap.size wc W) => of_post HF.out W hW)
      have hgn : gl ≠ w.heap.size + 1 := fun e => by have h1 := HF.out.lbox; rw [e, hg] at h1; cases h1
      clear k0 k1 k2 k3 k4 hge
      first
        | go_region_held3 (fun w' => w'.cell? ⟨gl, 0, none⟩ = some (.string s) ∧ w'.cell? ⟨gl, 1, none⟩ = some (.bool x1) ∧ w'.cell? ⟨gl, 2, none⟩ = some (.bool x2) ∧ w'.cell? ⟨gl, 3, none⟩ = some (.int .i64 x3) ∧ w'.cell? ⟨gl, 4, none⟩ = some (.int .i64 x4) ∧ w'.cell? ⟨gl, 5, none⟩ = some (.int .i64 x5) ∧ w'.cell? ⟨gl, 6, none⟩ = some (.slice B n d))
          (first | with_reducible assumption | with_reducible exact HS0.out | with_reducible exact HS0.out.next (below_drew (Below.refl _ _)) | with_reducible exact HS0.out.next hbv | with_reducible exact LfS.next (by assumption) hbv | with_reducible exact LfS.store (by assumption) hgn _ _ | with_reducible exact (HS0.out.store hgn _ _).next (below_drew (Below.refl _ _)))
          (first | (go_at_call 138; refine (HOF.out _ (by with_reducible exact below_drew (Below.refl _ _))).mono ?_; rintro e w3 ⟨k, t, rfl, hbv, HF3, l3', g0', g1', hg', z0', z1', f0', f1', zl'⟩))
        | fail
      all_goals (try go_wp2_with fail)
      all_goals (refine bodyPost_ret (results_two rfl rfl rfl (agg_218 (set2 hg') rfl)) rfl ?_; first | exact ⟨_, _, _, rfl, below2 HF3.below (Nat.le_succ _)⟩ | exact ⟨_, _, _, rfl, below_drew (below2 HF3.below (Nat.le_succ _))⟩)

  by_cases q11 : e0 = 11
  · subst q11
    clear HO HA
    go_wp2_with fail
    have HS0 := Aside0.mk (show LfS gl s x1 x2 x3 x4 x5 B n d wc from ⟨l0, l1, l2, l3, l4, l5, l6⟩)
    have HOF := Aside0.mk (fun (W : World) (hW : Below wc.heap.size wc W) => of_post HF.out W hW)
    have hgn : gl ≠ w.heap.size + 1 := fun e => by have h1 := HF.out.lbox; rw [e, hg] at h1; cases h1
    clear k0 k1 k2 k3 k4 hge
    first
      | go_region_held3 (fun w' => w'.cell? ⟨gl, 0, none⟩ = some (.string s) ∧ w'.cell? ⟨gl, 1, none⟩ = some (.bool x1) ∧ w'.cell? ⟨gl, 2, none⟩ = some (.bool x2) ∧ w'.cell? ⟨gl, 3, none⟩ = some (.int .i64 x3) ∧ w'.cell? ⟨gl, 4, none⟩ = some (.int .i64 x4) ∧ w'.cell? ⟨gl, 5, none⟩ = some (.int .i64 x5) ∧ w'.cell? ⟨gl, 6, none⟩ = some (.slice B n d))
        (first | with_reducible assumption | with_reducible exact HS0.out | with_reducible exact HS0.out.next (below_drew (Below.refl _ _)) | with_reducible exact HS0.out.next hbv | with_reducible exact LfS.next (by assumption) hbv | with_reducible exact LfS.store (by assumption) hgn _ _ | with_reducible exact (HS0.out.store hgn _ _).next (below_drew (Below.refl _ _)))
        (first | (go_at_call 138; refine (HOF.out _ (by with_reducible exact below_drew (Below.refl _ _))).mono ?_; rintro e w3 ⟨k, t, rfl, hbv, HF3, l3', g0', g1', hg', z0', z1', f0', f1', zl'⟩))
      | fail
    all_goals (try go_wp2_with fail)
    all_goals (refine bodyPost_ret (results_two rfl rfl rfl (agg_218 (set2 hg) rfl)) rfl ?_; first | exact ⟨_, _, _, rfl, below2 HF.out.below (Nat.le_succ _)⟩ | exact ⟨_, _, _, rfl, below_drew (below2 HF.out.below (Nat.le_succ _))⟩)
  by_cases q12 : e0 = 12
  · subst q12
    clear HO HA
    go_wp2_with fail
    have HS0 := Aside0.mk (show LfS gl s x1 x2 x3 x4 x5 B n d wc from ⟨l0, l1, l2, l3, l4, l5, l6⟩)
    have HOF := Aside0.mk (fun (W : World) (hW : Below wc.heap.size wc W) => of_post HF.out W hW)
    have hgn : gl ≠ w.heap.size + 1 := fun e => by have h1 := HF.out.lbox; rw [e, hg] at h1; cases h1
    clear k0 k1 k2 k3 k4 hge
    first
      | go_region_held3 (fun w' => w'.cell? ⟨gl, 0, none⟩ = some (.string s) ∧ w'.cell? ⟨gl, 1, none⟩ = some (.bool x1) ∧ w'.cell? ⟨gl, 2, none⟩ = some (.bool x2) ∧ w'.cell? ⟨gl, 3, none⟩ = some (.int .i64 x3) ∧ w'.cell? ⟨gl, 4, none⟩ = some (.int .i64 x4) ∧ w'.cell? ⟨gl, 5, none⟩ = some (.int .i64 x5) ∧ w'.cell? ⟨gl, 6, none⟩ = some (.slice B n d))
        (first | with_reducible assumption | with_reducible exact HS0.out | with_reducible exact HS0.out.next (below_drew (Below.refl _ _)) | with_reducible exact HS0.out.next hbv | with_reducible exact LfS.next (by assumption) hbv | with_reducible exact LfS.store (by assumption) hgn _ _ | with_reducible exact (HS0.out.store hgn _ _).next (below_drew (Below.refl _ _)))
        (first | (go_at_call 138; refine (HOF.out _ (by with_reducible exact below_drew (Below.refl _ _))).mono ?_; rintro e w3 ⟨k, t, rfl, hbv, HF3, l3', g0', g1', hg', z0', z1', f0', f1', zl'⟩))
      | fail
    all_goals (try go_wp2_with fail)
    all_goals (refine bodyPost_ret (results_two rfl rfl rfl (agg_218 (set2 hg) rfl)) rfl ?_; first | exact ⟨_, _, _, rfl, below2 HF.out.below (Nat.le_succ _)⟩ | exact ⟨_, _, _, rfl, below_drew (below2 HF.out.below (Nat.le_succ _))⟩)
  have := HO.out
  omega
end Go.Proofs.Ytpbdkkahodaloaa.J
end

section
namespace Go.Proofs.Ytpbdkkahodaloaa.U
open Go.RowKit Go.Lib Go.Proofs.Ytpbdkkahodaloaa.PS Go.Proofs.YtpbdkkahodaloaaW.PrintWords Go.Proofs.YtpbdkkahodaloaaW.PrintMore
set_option linter.unusedVariables false
set_option maxRecDepth 100000
set_option maxHeartbeats 1000000 in
theorem band_calls (base : World) (g r : Nat) (xs : List Int) (d : Bool) (x : S74) (w : World) (h : Wr w base g r xs d) (ok : i64 x.f0 ∧ i64 x.f1) (hl : (xs ++ (encInt x.f0 ++ encInt x.f1)).length ≤ LIM) :
    Calls Try.prog 50 #[.pointer (some ⟨g, 0, none⟩), .agg #[.int .i64 x.f0, .int .i64 x.f1]] w (WPost base g r (xs ++ (encInt x.f0 ++ encInt x.f1)) (d || false) w) := by
  have H0 := Aside0.mk (St.alloc (St.refl h) (.cells #[.int .i64 x.f0, .int .i64 x.f1] 74))
  have HB := Aside0.mk (Cap.new h #[.int .i64 x.f0, .int .i64 x.f1] 74)
  have HL := Aside0.mk hl
  have OK := Aside0.mk ok
  clear h hl ok
  go_enter Try.func50, Try.ntmps50
  go_wp2_with fail
  go_at_call 43
  with_reducible refine (int_c H0.out OK.out.1 (lim_left HL.out)).mono ?_
  intro e w1 hp
  obtain ⟨rfl, r1, hs, ht⟩ := H0.out.next hp
  have H1 := Aside0.mk ht
  have HB1 := Aside0.mk (HB.out.st hs)
  clear hp hs ht
  have c1 := HB1.out.cell 1 rfl
  have hlt := HB1.out.lt
  go_wp2_with fail
  go_at_call 43
  with_reducible refine (int_c H1.out OK.out.2 (lim_right HL.out)).mono ?_
  intro e w2 hp
  obtain ⟨rfl, r2, hs, ht⟩ := H1.out.next hp
  have H2 := Aside0.mk ht
  clear hp hs ht
  go_wp2_with fail
  go_end0
  exact H2.out.post (List.append_assoc _ _ _) (by simp)
end Go.Proofs.Ytpbdkkahodaloaa.U
end

/- The contract of money.Sum over a method value whose receiver counts: the walk. -/
import Derived.Test.YtnjhjaifmgjljaaDoorPMx0
import Derived.Test.YtnjhjaifmgjljaaDoorPMx2
import Derived.Test.YtnjhjaifmgjljaaDoorPMx3
import Derived.Test.YtnjhjaifmgjljaaDoorPMx10
import Derived.Test.YtnjhjaifmgjljaaDoorPMx11
import Derived.Test.YtnjhjaifmgjljaaDoorYd
namespace Go.Proofs.YtnjhjaifmgjljaaDoor.Y
open Go.RowKit Go.Shelf Go.Proofs.YtnjhjaifmgjljaaDoor.PM Go.Proofs.YtnjhjaifmgjljaaDoor.Q Go.Proofs.YtnjhjaifmgjljaaDoorW.PrintWords
set_option linter.unusedVariables false
attribute [local go_sem] Oper.semAt_some
set_option maxRecDepth 100000 in
set_option maxHeartbeats 8000000 in
theorem sum_calls (gb : Nat) (A : Option Addr) (cap : Nat) (xs : List S23) (hx : xs.length ≤ 1000000) (kind : Int) (hkind : kind = 1 ∨ kind = 2) (w : World) (hgb : gb < w.heap.size) (hgb0 : 0 < gb)
    (hne : 0 < xs.length → ∀ ad, A = some ad → ad.block ≠ gb) (hh : Held gb A cap xs 0 w) (hg0 : Kd.C k87 w (some ⟨0, 0, none⟩) gtab0.length gtab0) :
    Calls Tryd.prog 22 #[.int .i64 kind, .func (.func 21) #[.pointer (some ⟨gb, 0, none⟩)] #[]] w fun e w' =>
      (∃ h lo, runs kind xs = some (h, lo) ∧ e = .returned (.agg #[.int .i64 (fin kind h lo).1, .int .i64 (fin kind h lo).2]) ∧ But w.heap.size gb w w' ∧ Held gb A cap xs xs.length w') ∨
      (∃ pre x h lo a, pre ++ [x] <+: xs ∧ runs kind pre = some (h, lo) ∧ sumStep kind h lo x = .inr a ∧ e = .returned (.agg #[.int .i64 a.1, .int .i64 a.2]) ∧ But w.heap.size gb w w' ∧ Held gb A cap xs (pre.length + 1) w') := by
  have hnil : ∀ W : World, Sem.run Tryd.prog (binOp BinOp.eql 91 (Value.func (Fn.func 21) #[Value.pointer (some { block := gb, off := 0 })] #[]) Value.nilFunc) W = Result.ok (.bool false) W := fun W => rfl
  have hT : ∀ W, But w.heap.size gb w W → Kd.C k87 W (some ⟨0, 0, none⟩) gtab0.length gtab0 := fun W hb => C_but k87_flat hg0 hb (fun _ ad e => by cases e; simp only; omega)
  have hL : ∀ W, But w.heap.size gb w W → Kd.C k23 W A xs.length xs := fun W hb => C_but k23_flat hh.2 hb hne
  refine (callsIn_wide (n := 8)).1 ?_
  refine callsIn_of_wp_marks Tryd.func22 rfl trivial ?_ rfl
  simp only [Tryd.ntmps22, List.size_toArray, List.length_cons, List.length_nil, Nat.reduceAdd, Nat.reduceSub, Array.replicate_succ, Array.replicate_zero, List.push_toArray, List.append_toArray, List.nil_append, List.cons_append]
  have hks : (kind != 1) = false ∨ ((kind != 1) = true ∧ (kind != 2) = false) := by rcases hkind with h | h <;> subst h <;> decide
  obtain ⟨W0, hW0⟩ : ∃ W0, ((((w.alloc (Obj.cells #[Value.int IntKind.i64 kind] 3)).alloc (Obj.cells #[Value.int IntKind.i64 0, Value.int IntKind.i64 0] 23)).alloc (Obj.cells #[Value.int IntKind.i64 0] 2)).alloc (Obj.cells #[Value.int IntKind.i64 0] 2)) = W0 := ⟨_, rfl⟩
  have hs0 : St w gb (.slice A xs.length cap) kind 0 0 0 W0 := by
    rw [← hW0]
    have o4 : ∀ (W : World) (o : Obj) (b : Nat) (r : Option Obj), b < W.heap.size → W.heap[b]? = r → (W.alloc o).heap[b]? = r := fun W o b r hb h => (Below.heap_alloc W o b hb).trans h
    have n4 : ∀ (W : World) (o : Obj) (b : Nat), W.heap.size = b → (W.alloc o).heap[b]? = some o := fun W o b hb => by subst hb; exact World.alloc_heap_new W o
    refine ⟨?_, by simp, ?_, ?_, ?_, ?_, ?_⟩
    · exact (((But.alloc w (Nat.le_refl _) _).trans (But.alloc _ (by simp) _)).trans (But.alloc _ (by simp; omega) _)).trans (But.alloc _ (by simp; omega) _)
    · exact o4 _ _ _ _ (by simp; omega) (o4 _ _ _ _ (by simp; omega) (o4 _ _ _ _ (by simp) (n4 _ _ _ rfl)))
    · exact o4 _ _ _ _ (by simp) (o4 _ _ _ _ (by simp) (n4 _ _ _ (by simp)))
    · exact o4 _ _ _ _ (by simp) (n4 _ _ _ (by simp))
    · exact n4 _ _ _ (by simp)
    · exact o4 _ _ _ _ (by simp; omega) (o4 _ _ _ _ (by simp; omega) (o4 _ _ _ _ (by simp; omega) (o4 _ _ _ _ hgb hh.1)))
  have hsz : W0.heap.size = w.heap.size + 4 := by rw [← hW0]; simp
  have hIo : ∀ f : List S23 → Nat, OwnFrom W0.heap.size (fun (pre : List S23) W => ∃ h lo, runs kind pre = some (h, lo) ∧ St w gb (.slice A xs.length cap) kind h lo (f pre) W) :=
    fun f pre W W' row ⟨h, lo, hr, hs⟩ hg hrow => ⟨h, lo, hr, hs.own hg (fun r e => by have := hrow r e; rw [hsz] at this; exact this)⟩
  rcases hks with hk1 | ⟨hk1, hk2⟩
  all_goals gi_wp2
  all_goals (try rw [hW0])
  all_goals
    refine range_counts (xs := xs) rfl (by decide) (gf := 21) (fa := #[.pointer (some ⟨gb, 0, none⟩)]) rfl trivial (enters_of Tryd.func21 (by kernel_rfl) rfl) (all_counts Fence.wide _ trivial rfl (by decide) gb A cap xs hx hne)
      (fun k W => KeepsOthers.setCell _ _ _) (fun _ => rfl)
      (fun pre W => ∃ h lo, runs kind pre = some (h, lo) ∧ St w gb (.slice A xs.length cap) kind h lo pre.length W)
      (fun pre W => ∃ h lo, runs kind pre = some (h, lo) ∧ St w gb (.slice A xs.length cap) kind h lo (pre.length + 1) W)
      (fun c pre W => c = .ret ∧ ∃ init x h lo a, pre = init ++ [x] ∧ runs kind init = some (h, lo) ∧ sumStep kind h lo x = .inr a ∧ Told w gb (.slice A xs.length cap) a (init.length + 1) W)
      (hIo _) (hIo _) (fun c pre W W' row ⟨hc, init, x, h, lo, a, e, hr, hs, ht⟩ hg hrow => ⟨hc, init, x, h, lo, a, e, hr, hs, ht.own hg (fun r e => by have := hrow r e; rw [hsz] at this; exact this)⟩)
      (fun pre W ⟨h, lo, hr, hs⟩ => ⟨hs.g, hL W hs.but⟩) (fun pre W _ ⟨h, lo, hr, hs⟩ => ⟨h, lo, hr, hs.count hgb⟩) ⟨0, 0, rfl, hs0⟩ (Round w gb kind)
      (fun x a' _ W W' row ⟨B7, v8, v9, v10, v11, v12, v13, v14, v15, v16, v17, v18, hB, hc, e⟩ hg hrow => ⟨B7, v8, v9, v10, v11, v12, v13, v14, v15, v16, v17, v18, hB, kept_cells hc hg (fun r e => (hrow r e).2), e⟩) ?_ ?_ ?_ ?_
    · rintro l pre x W K ⟨h, lo, hr, hs⟩ hK
      simp only [enc23]
      gi_wp2
      exact hK _ _ ((KeepsOthers.alloc _ _).from _) ⟨h, lo, hr, hs.below hgb ((Below.refl _ W).alloc hs.size _)⟩ ⟨W.heap.size, _, _, _, _, _, _, _, _, _, _, _, hs.size, World.alloc_heap_new W _, rfl⟩
    · rintro l pre x a' W hpx ⟨h, lo, hr, hs⟩ ⟨B7, v8, v9, v10, v11, v12, v13, v14, v15, v16, v17, v18, hB7, hc7, rfl⟩
      obtain ⟨x0, x1, xf0, xf1⟩ := cells_at2 hc7
      have hsz7 : B7 < W.heap.size := (Array.getElem?_eq_some_iff.1 hc7).1
      by_cases c1 : vld x.f0 x.f1 = false
      · gi_wp2_with (first
          | (refine ⟨trivial, ?_⟩; gi_at_call 18; refine (CallsIn.inRound l (callsIn_wide.2 (money_Valid.calls x.f0 x.f1 false W ((money_valid _ _).trans (by rw [c1])) (hT W hs.but)))).mono ?_; rintro e W2 ⟨rfl, hb2⟩)
          | (refine ⟨trivial, ?_⟩; gi_at_call 59; refine (CallsIn.inRound l (callsIn_wide.2 (money_fault.calls 5 6 5 _ rfl))).mono ?_; rintro e W3 ⟨rfl, hb3⟩; have hs3 := (hs.below hgb (hb2.mono hs.size)).below hgb (hb3.mono (Nat.le_trans hs.size hb2.size)); obtain ⟨k40, k41, k4f, k4g⟩ := cells_at2 hs3.b4))
        exact ⟨((kf_below hb2).trans (kf_below hb3)).trans ((kf_set _ _ _).trans (kf_set _ _ _)), rfl, pre, x, h, lo, (6, 5), rfl, hr, by unfold sumStep; rw [if_pos c1], hs3.tell hgb 6 5⟩
      · replace c1 : vld x.f0 x.f1 = true := by simpa using c1
        by_cases c2 : x.f0 = 6
        · have c2b : (x.f0 == 6) = true := beq_iff_eq.mpr c2
          have C2 := Aside0.mk c2
          clear c2
          gi_wp2_with (first | (refine ⟨trivial, ?_⟩; gi_at_call 18; refine (CallsIn.inRound l (callsIn_wide.2 (money_Valid.calls x.f0 x.f1 true W ((money_valid _ _).trans (by rw [c1])) (hT W hs.but)))).mono ?_; rintro e W2 ⟨rfl, hb2⟩; have hs2 := hs.below hgb (hb2.mono hs.size); have hc72 := (hb2.block _ hsz7).trans hc7; obtain ⟨y0, y1, yf0, yf1⟩ := cells_at2 hc72; obtain ⟨k2, k2f⟩ := cells_at hs2.b2; obtain ⟨k5, k5f⟩ := cells_at hs2.b5; obtain ⟨k6, k6f⟩ := cells_at hs2.b6; obtain ⟨k40, k41, k4f, k4g⟩ := cells_at2 hs2.b4))
          exact ⟨(kf_below hb2).trans ((kf_set _ _ _).trans (kf_set _ _ _)), rfl, pre, x, h, lo, (x.f0, x.f1), rfl, hr, by unfold sumStep; rw [if_neg (show ¬ vld x.f0 x.f1 = false by rw [c1]; decide), if_pos C2.out], hs2.tell hgb x.f0 x.f1⟩
        · have c2b : (x.f0 == 6) = false := beq_eq_false_iff_ne.mpr c2
          have C2 := Aside0.mk c2
          clear c2
          by_cases c3 : x.f0 = 0
          · have c3b : (x.f0 == 0) = true := beq_iff_eq.mpr c3
            have C3 := Aside0.mk c3
            clear c3
            gi_wp2_with (first | (refine ⟨trivial, ?_⟩; gi_at_call 18; refine (CallsIn.inRound l (callsIn_wide.2 (money_Valid.calls x.f0 x.f1 true W ((money_valid _ _).trans (by rw [c1])) (hT W hs.but)))).mono ?_; rintro e W2 ⟨rfl, hb2⟩; have hs2 := hs.below hgb (hb2.mono hs.size); have hc72 := (hb2.block _ hsz7).trans hc7; obtain ⟨y0, y1, yf0, yf1⟩ := cells_at2 hc72; obtain ⟨k2, k2f⟩ := cells_at hs2.b2; obtain ⟨k5, k5f⟩ := cells_at hs2.b5; obtain ⟨k6, k6f⟩ := cells_at hs2.b6; obtain ⟨k40, k41, k4f, k4g⟩ := cells_at2 hs2.b4))
            exact ⟨kf_below hb2, h, lo, by rw [runs_snoc, hr]; simp only [Option.bind_some]; unfold sumStep; rw [if_neg (show ¬ vld x.f0 x.f1 = false by rw [c1]; decide), if_neg C2.out, if_pos C3.out], by simpa using hs2⟩
          · have c3b : (x.f0 == 0) = false := beq_eq_false_iff_ne.mpr c3
            have C3 := Aside0.mk c3
            clear c3
            by_cases c4 : x.f0 = kind
            · have c4b : (x.f0 != kind) = false := bne_eq_false_iff_eq.mpr c4
              have C4 := Aside0.mk c4
              clear c4
              by_cases c5 : wrap64 (lo + x.f1) ≥ 1000000000000000000
              · have c5b : decide (1000000000000000000 ≤ wrap64 (lo + x.f1)) = true := decide_eq_true c5
                have C5 := Aside0.mk c5
                clear c5
                gi_wp2_with (first | (refine ⟨trivial, ?_⟩; gi_at_call 18; refine (CallsIn.inRound l (callsIn_wide.2 (money_Valid.calls x.f0 x.f1 true W ((money_valid _ _).trans (by rw [c1])) (hT W hs.but)))).mono ?_; rintro e W2 ⟨rfl, hb2⟩; have hs2 := hs.below hgb (hb2.mono hs.size); have hc72 := (hb2.block _ hsz7).trans hc7; obtain ⟨y0, y1, yf0, yf1⟩ := cells_at2 hc72; obtain ⟨k2, k2f⟩ := cells_at hs2.b2; obtain ⟨k5, k5f⟩ := cells_at hs2.b5; obtain ⟨k6, k6f⟩ := cells_at hs2.b6; obtain ⟨k40, k41, k4f, k4g⟩ := cells_at2 hs2.b4))
                exact ⟨(kf_below hb2).trans ((kf_set _ _ _).trans ((kf_set _ _ _).trans (kf_set _ _ _))), _, _, by rw [runs_snoc, hr]; simp only [Option.bind_some]; unfold sumStep; rw [if_neg (show ¬ vld x.f0 x.f1 = false by rw [c1]; decide), if_neg C2.out, if_neg C3.out, if_neg (fun hh => hh C4.out), if_pos C5.out], by rw [List.length_append]; exact ((hs2.set6 hgb _).set5 hgb _).set6 hgb _⟩
              · have c5b : decide (1000000000000000000 ≤ wrap64 (lo + x.f1)) = false := decide_eq_false c5
                have C5 := Aside0.mk c5
                clear c5
                by_cases c6 : wrap64 (lo + x.f1) ≤ -1000000000000000000
                · have c6b : decide (wrap64 (lo + x.f1) ≤ -1000000000000000000) = true := decide_eq_true c6
                  have C6 := Aside0.mk c6
                  clear c6
                  gi_wp2_with (first | (refine ⟨trivial, ?_⟩; gi_at_call 18; refine (CallsIn.inRound l (callsIn_wide.2 (money_Valid.calls x.f0 x.f1 true W ((money_valid _ _).trans (by rw [c1])) (hT W hs.but)))).mono ?_; rintro e W2 ⟨rfl, hb2⟩; have hs2 := hs.below hgb (hb2.mono hs.size); have hc72 := (hb2.block _ hsz7).trans hc7; obtain ⟨y0, y1, yf0, yf1⟩ := cells_at2 hc72; obtain ⟨k2, k2f⟩ := cells_at hs2.b2; obtain ⟨k5, k5f⟩ := cells_at hs2.b5; obtain ⟨k6, k6f⟩ := cells_at hs2.b6; obtain ⟨k40, k41, k4f, k4g⟩ := cells_at2 hs2.b4))
                  exact ⟨(kf_below hb2).trans ((kf_set _ _ _).trans ((kf_set _ _ _).trans (kf_set _ _ _))), _, _, by rw [runs_snoc, hr]; simp only [Option.bind_some]; unfold sumStep; rw [if_neg (show ¬ vld x.f0 x.f1 = false by rw [c1]; decide), if_neg C2.out, if_neg C3.out, if_neg (fun hh => hh C4.out), if_neg (by have := C5.out; omega), if_pos C6.out], by rw [List.length_append]; exact ((hs2.set6 hgb _).set5 hgb _).set6 hgb _⟩
                · have c6b : decide (wrap64 (lo + x.f1) ≤ -1000000000000000000) = false := decide_eq_false c6
                  have C6 := Aside0.mk c6
                  clear c6
                  gi_wp2_with (first | (refine ⟨trivial, ?_⟩; gi_at_call 18; refine (CallsIn.inRound l (callsIn_wide.2 (money_Valid.calls x.f0 x.f1 true W ((money_valid _ _).trans (by rw [c1])) (hT W hs.but)))).mono ?_; rintro e W2 ⟨rfl, hb2⟩; have hs2 := hs.below hgb (hb2.mono hs.size); have hc72 := (hb2.block _ hsz7).trans hc7; obtain ⟨y0, y1, yf0, yf1⟩ := cells_at2 hc72; obtain ⟨k2, k2f⟩ := cells_at hs2.b2; obtain ⟨k5, k5f⟩ := cells_at hs2.b5; obtain ⟨k6, k6f⟩ := cells_at hs2.b6; obtain ⟨k40, k41, k4f, k4g⟩ := cells_at2 hs2.b4))
                  exact ⟨(kf_below hb2).trans (kf_set _ _ _), _, _, by rw [runs_snoc, hr]; simp only [Option.bind_some]; unfold sumStep; rw [if_neg (show ¬ vld x.f0 x.f1 = false by rw [c1]; decide), if_neg C2.out, if_neg C3.out, if_neg (fun hh => hh C4.out), if_neg (by have := C5.out; omega), if_neg (by have := C6.out; omega)], by rw [List.length_append]; exact hs2.set6 hgb _⟩
            · have c4b : (x.f0 != kind) = true := bne_iff_ne.mpr c4
              have C4 := Aside0.mk c4
              clear c4
              gi_wp2_with (first
                | (refine ⟨trivial, ?_⟩; gi_at_call 18; refine (CallsIn.inRound l (callsIn_wide.2 (money_Valid.calls x.f0 x.f1 true W ((money_valid _ _).trans (by rw [c1])) (hT W hs.but)))).mono ?_; rintro e W2 ⟨rfl, hb2⟩; have hs2 := hs.below hgb (hb2.mono hs.size); have hc72 := (hb2.block _ hsz7).trans hc7; obtain ⟨y0, y1, yf0, yf1⟩ := cells_at2 hc72; obtain ⟨k2, k2f⟩ := cells_at hs2.b2; obtain ⟨k5, k5f⟩ := cells_at hs2.b5; obtain ⟨k6, k6f⟩ := cells_at hs2.b6; obtain ⟨k40, k41, k4f, k4g⟩ := cells_at2 hs2.b4)
                | (refine ⟨trivial, ?_⟩; gi_at_call 59; refine (CallsIn.inRound l (callsIn_wide.2 (money_fault.calls 5 6 5 _ rfl))).mono ?_; rintro e W3 ⟨rfl, hb3⟩; have hs3 := hs2.below hgb (hb3.mono hs2.size); obtain ⟨k40', k41', k4f', k4g'⟩ := cells_at2 hs3.b4))
              exact ⟨((kf_below hb2).trans (kf_below hb3)).trans ((kf_set _ _ _).trans (kf_set _ _ _)), rfl, pre, x, h, lo, (6, 5), rfl, hr, by unfold sumStep; rw [if_neg (show ¬ vld x.f0 x.f1 = false by rw [c1]; decide), if_neg C2.out, if_neg C3.out, if_pos C4.out], hs3.tell hgb 6 5⟩
    · rintro D W hD ⟨h, lo, hr, hs⟩ hK
      obtain ⟨k2, k2f⟩ := cells_at hs.b2
      obtain ⟨k5, k5f⟩ := cells_at hs.b5
      obtain ⟨k6, k6f⟩ := cells_at hs.b6
      obtain ⟨k40, k41, k4f, k4g⟩ := cells_at2 hs.b4
      have hDlt : D < W.heap.size := (Array.getElem?_eq_some_iff.1 hK).1
      have hDg : w.heap.size + 4 ≤ D := by rw [hsz] at hD; exact hD
      have hk0 : 0 ≤ kind := by rcases hkind with e | e <;> omega
      have hk6 : kind ≤ 6 := by rcases hkind with e | e <;> omega
      obtain ⟨b1, b2, hb12⟩ : ∃ b1 b2, boundS kind (wrap64 (wrap64 (h * 1000000000000000000) + lo)) = (b1, b2) := ⟨_, _, rfl⟩
      by_cases c1 : h = 0
      · have hb1 : (h != 0) = false := bne_eq_false_iff_eq.mpr c1
        have C1 := Aside0.mk c1
        clear c1
        have hf : fin kind h lo = (b1, b2) := by unfold fin; rw [if_neg (fun hh => hh.1 C1.out), hb12]
        gi_wp2_with (first | (refine ⟨trivial, ?_⟩; gi_at_call 60; refine (callsIn_wide.2 (money_checked.calls kind (wrap64 (wrap64 (h * 1000000000000000000) + lo)) b1 b2 W ((checked_is kind _ hk0 hk6).trans (by rw [hb12])) (hT W hs.but))).mono ?_; rintro e W3 ⟨rfl, hb3⟩; have hs3 := hs.below hgb (hb3.mono hs.size); obtain ⟨k40', k41', k4f', k4g'⟩ := cells_at2 hs3.b4))
        have hK3 := (hb3.block D hDlt).trans hK
        have hK4 := ((KeepsOthers.setCell W3 ⟨w.heap.size + 1, 0, none⟩ (.int .i64 b1)).trans (KeepsOthers.setCell _ ⟨w.heap.size + 1, 1, none⟩ (.int .i64 b2))).same D _ hK3 rfl
        refine ⟨by simp, .inl ⟨_, _, rfl, run_takeDeferred hK4, ?_⟩⟩
        have ht' := (hs3.tell hgb b1 b2).own (grownBy_putObj' _ D (.deferred none)) (fun r e => by cases e; exact ⟨hDg, _, hK4, rfl⟩)
        obtain ⟨q0, q1, q0f, q1f⟩ := cells_at2 ht'.b4
        refine ⟨.agg #[.int .i64 b1, .int .i64 b2], ?_, .inl ⟨h, lo, hr, by rw [hf], ht'.but, ht'.g, hL _ ht'.but⟩⟩
        simp [results, Tryd.f22, go_sem, q0, q1]
      · have hb1 : (h != 0) = true := bne_iff_ne.mpr c1
        have C1 := Aside0.mk c1
        clear c1
        by_cases c2 : h > 1
        · have hb2 : decide (1 < h) = true := decide_eq_true c2
          have C2 := Aside0.mk c2
          clear c2
          have hf : fin kind h lo = (6, 1) := by unfold fin; rw [if_pos ⟨C1.out, Or.inl C2.out⟩]
          gi_wp2_with (first | (refine ⟨trivial, ?_⟩; gi_at_call 59; refine (callsIn_wide.2 (money_fault.calls 1 6 1 _ rfl)).mono ?_; rintro e W3 ⟨rfl, hb3⟩; have hs3 := hs.below hgb (hb3.mono hs.size); obtain ⟨k40', k41', k4f', k4g'⟩ := cells_at2 hs3.b4))
          have hK3 := (hb3.block D hDlt).trans hK
          have hK4 := ((KeepsOthers.setCell W3 ⟨w.heap.size + 1, 0, none⟩ (.int .i64 (6))).trans (KeepsOthers.setCell _ ⟨w.heap.size + 1, 1, none⟩ (.int .i64 (1)))).same D _ hK3 rfl
          refine ⟨by simp, .inl ⟨_, _, rfl, run_takeDeferred hK4, ?_⟩⟩
          have ht' := (hs3.tell hgb (6) (1)).own (grownBy_putObj' _ D (.deferred none)) (fun r e => by cases e; exact ⟨hDg, _, hK4, rfl⟩)
          obtain ⟨q0, q1, q0f, q1f⟩ := cells_at2 ht'.b4
          refine ⟨.agg #[.int .i64 (6), .int .i64 (1)], ?_, .inl ⟨h, lo, hr, by rw [hf], ht'.but, ht'.g, hL _ ht'.but⟩⟩
          simp [results, Tryd.f22, go_sem, q0, q1]
        · have hb2 : decide (1 < h) = false := decide_eq_false c2
          have C2 := Aside0.mk c2
          clear c2
          by_cases c3 : h < -1
          · have hbc : decide (h < -1) = true := decide_eq_true c3
            have C3 := Aside0.mk c3
            clear c3
            have hf : fin kind h lo = (6, 1) := by unfold fin; rw [if_pos ⟨C1.out, Or.inr C3.out⟩]
            gi_wp2_with (first | (refine ⟨trivial, ?_⟩; gi_at_call 59; refine (callsIn_wide.2 (money_fault.calls 1 6 1 _ rfl)).mono ?_; rintro e W3 ⟨rfl, hb3⟩; have hs3 := hs.below hgb (hb3.mono hs.size); obtain ⟨k40', k41', k4f', k4g'⟩ := cells_at2 hs3.b4))
            have hK3 := (hb3.block D hDlt).trans hK
            have hK4 := ((KeepsOthers.setCell W3 ⟨w.heap.size + 1, 0, none⟩ (.int .i64 (6))).trans (KeepsOthers.setCell _ ⟨w.heap.size + 1, 1, none⟩ (.int .i64 (1)))).same D _ hK3 rfl
            refine ⟨by simp, .inl ⟨_, _, rfl, run_takeDeferred hK4, ?_⟩⟩
            have ht' := (hs3.tell hgb (6) (1)).own (grownBy_putObj' _ D (.deferred none)) (fun r e => by cases e; exact ⟨hDg, _, hK4, rfl⟩)
            obtain ⟨q0, q1, q0f, q1f⟩ := cells_at2 ht'.b4
            refine ⟨.agg #[.int .i64 (6), .int .i64 (1)], ?_, .inl ⟨h, lo, hr, by rw [hf], ht'.but, ht'.g, hL _ ht'.but⟩⟩
            simp [results, Tryd.f22, go_sem, q0, q1]
          · have hbc : decide (h < -1) = false := decide_eq_false c3
            have C3 := Aside0.mk c3
            clear c3
            have hf : fin kind h lo = (b1, b2) := by unfold fin; rw [if_neg (fun hh => hh.2.elim C2.out C3.out), hb12]
            gi_wp2_with (first | (refine ⟨trivial, ?_⟩; gi_at_call 60; refine (callsIn_wide.2 (money_checked.calls kind (wrap64 (wrap64 (h * 1000000000000000000) + lo)) b1 b2 W ((checked_is kind _ hk0 hk6).trans (by rw [hb12])) (hT W hs.but))).mono ?_; rintro e W3 ⟨rfl, hb3⟩; have hs3 := hs.below hgb (hb3.mono hs.size); obtain ⟨k40', k41', k4f', k4g'⟩ := cells_at2 hs3.b4))
            have hK3 := (hb3.block D hDlt).trans hK
            have hK4 := ((KeepsOthers.setCell W3 ⟨w.heap.size + 1, 0, none⟩ (.int .i64 b1)).trans (KeepsOthers.setCell _ ⟨w.heap.size + 1, 1, none⟩ (.int .i64 b2))).same D _ hK3 rfl
            refine ⟨by simp, .inl ⟨_, _, rfl, run_takeDeferred hK4, ?_⟩⟩
            have ht' := (hs3.tell hgb b1 b2).own (grownBy_putObj' _ D (.deferred none)) (fun r e => by cases e; exact ⟨hDg, _, hK4, rfl⟩)
            obtain ⟨q0, q1, q0f, q1f⟩ := cells_at2 ht'.b4
            refine ⟨.agg #[.int .i64 b1, .int .i64 b2], ?_, .inl ⟨h, lo, hr, by rw [hf], ht'.but, ht'.g, hL _ ht'.but⟩⟩
            simp [results, Tryd.f22, go_sem, q0, q1]
    · rintro D c pre W hD hpre ⟨rfl, init, x, h, lo, a, rfl, hr, hst, ht⟩ hK
      have hDg : w.heap.size + 4 ≤ D := by rw [hsz] at hD; exact hD
      gi_wp2
      refine ⟨by simp, .inl ⟨_, _, rfl, run_takeDeferred hK, ?_⟩⟩
      have ht' := ht.own (grownBy_putObj' W D (.deferred none)) (fun r e => by cases e; exact ⟨hDg, _, hK, rfl⟩)
      obtain ⟨q0, q1, q0f, q1f⟩ := cells_at2 ht'.b4
      refine ⟨.agg #[.int .i64 a.1, .int .i64 a.2], ?_, .inr ⟨init, x, h, lo, a, hpre, hr, hst, rfl, ht'.but, ht'.g, hL _ ht'.but⟩⟩
      simp [results, Tryd.f22, go_sem, q0, q1]
end Go.Proofs.YtnjhjaifmgjljaaDoor.Y

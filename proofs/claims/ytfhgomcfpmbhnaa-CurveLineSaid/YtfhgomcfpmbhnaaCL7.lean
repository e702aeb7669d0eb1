-- Part 7 of the texts of the claim CL (wrote by programs: words of the kit's print.sh, printed functions; and my own texts; joined by wip/tools/pack.py).
import Derived.Test.YtfhgomcfpmbhnaaCL6
import Derived.Laws.AppendOwn

section
namespace Go.Proofs.Ytfhgomcfpmbhnaa.Y
open Go.RowKit Go.Proofs.Ytfhgomcfpmbhnaa.PS Go.Proofs.Ytfhgomcfpmbhnaa.F Go.Proofs.YtfhgomcfpmbhnaaW.PrintWords Go.Proofs.YtfhgomcfpmbhnaaW.PrintMore Go.Proofs.YtfhgomcfpmbhnaaW.Fits
attribute [local go_sem] frun_store frun_bits frun_from
set_option linter.unusedVariables false
set_option maxRecDepth 100000
def two {α : Type} (f1 f2 : α → Value) (l : List α) : List Value := l.flatMap fun x => [f1 x, f2 x]
theorem two_len {α : Type} (f1 f2 : α → Value) (l : List α) : (two f1 f2 l).length = l.length * 2 := by
  unfold two
  induction l with
  | nil => rfl
  | cons d t ih => rw [List.flatMap_cons, List.length_append, ih]; simp; omega
theorem two_at {α : Type} (f1 f2 : α → Value) : ∀ (l : List α) (j : Nat), (two f1 f2 l)[j * 2]? = l[j]?.map f1 ∧ (two f1 f2 l)[j * 2 + 1]? = l[j]?.map f2
  | [], j => by simp [two]
  | x :: t, 0 => by simp [two]
  | x :: t, j + 1 => by
    have ih := two_at f1 f2 t j
    have e : two f1 f2 (x :: t) = f1 x :: f2 x :: two f1 f2 t := rfl
    rw [e, show (j + 1) * 2 = j * 2 + 1 + 1 by omega, show (j * 2 + 1 + 1 + 1) = (j * 2 + 1) + 1 + 1 by omega]
    simp only [List.getElem?_cons_succ]
    exact ih
def pntv (l : List S58) : List Value := two (fun d => .int .i64 d.f0) (fun d => .float .f32 d.f1) l
theorem C_pnt {w : World} {g n : Nat} {l : List S58} (hn : n = l.length) (hmax : n ≤ 9223372036854775807) (h : ∀ j u, (pntv l)[j]? = some u → w.cell? ⟨g, j, none⟩ = some u) : Kd.C k58 w (some ⟨g, 0, none⟩) n l := by
  subst hn
  refine ⟨rfl, hmax, fun _ => ⟨_, rfl, fun j p hj => ?_⟩⟩
  refine ⟨_, rfl, k58_mk w p, fun i u hu => ?_⟩
  rw [add_at]
  refine h _ u ?_
  obtain ⟨h0, h1⟩ := two_at (fun d : S58 => .int .i64 d.f0) (fun d => .float .f32 d.f1) l j
  rw [hj] at h0 h1
  unfold pntv
  match i, hu with
  | 0, hu => rw [show 0 + (j * k58.sz + 0) = j * 2 by show 0 + (j * 2 + 0) = _; omega, h0]; exact hu
  | 1, hu => rw [show 0 + (j * k58.sz + 1) = j * 2 + 1 by show 0 + (j * 2 + 1) = _; omega, h1]; exact hu
  | i + 2, hu => simp at hu
structure InRow (w : World) (g : Nat) (l : List S58) : Prop where
  cell : ∀ j u, (pntv l)[j]? = some u → w.cell? ⟨g, j, none⟩ = some u
  m0 : w.cell? ⟨g, l.length * 2, none⟩ = some (.int .i64 (-7701))
  m1 : w.cell? ⟨g, (l.length + 1) * 2, none⟩ = some (.int .i64 (-7702))
  fr : ∀ j, w.frozen? ⟨g, j, none⟩ = false
theorem InRow.keep {w w' : World} {g : Nat} {l : List S58} (h : InRow w g l) (hb : w'.heap[g]? = w.heap[g]?) : InRow w' g l :=
  ⟨fun j u hu => (World.cell?_of_block (a := ⟨g, j, none⟩) hb).trans (h.cell j u hu), (World.cell?_of_block (a := ⟨g, _, none⟩) hb).trans h.m0, (World.cell?_of_block (a := ⟨g, _, none⟩) hb).trans h.m1, fun j => (World.frozen?_of_block (a := ⟨g, j, none⟩) hb).trans (h.fr j)⟩
theorem InRow.C {w : World} {g : Nat} {l : List S58} (h : InRow w g l) (hmax : l.length ≤ 9223372036854775807) : Kd.C k58 w (some ⟨g, 0, none⟩) l.length l := C_pnt rfl hmax h.cell
def setY (l : List S73) (i : Nat) (y : Int) : List S73 := l.set i ⟨(l.getD i z73).f0, y⟩
theorem setY_len (l : List S73) (i : Nat) (y : Int) : (setY l i y).length = l.length := by simp [setY]
theorem two_set {α : Type} (f1 f2 : α → Value) : ∀ (l : List α) (i : Nat) (x y : α), l[i]? = some x → f1 y = f1 x → (two f1 f2 l).set (i * 2 + 1) (f2 y) = two f1 f2 (l.set i y)
  | [], i, x, y, h, _ => by simp at h
  | z :: t, 0, x, y, h, e => by
    obtain rfl : z = x := by simpa using h
    simp [two, e]
  | z :: t, i + 1, x, y, h, e => by
    have ih := two_set f1 f2 t i x y (by simpa using h) e
    have e1 : two f1 f2 (z :: t) = f1 z :: f2 z :: two f1 f2 t := rfl
    have e2 : two f1 f2 ((z :: t).set (i + 1) y) = f1 z :: f2 z :: two f1 f2 (t.set i y) := rfl
    rw [e1, e2, show (i + 1) * 2 + 1 = (i * 2 + 1) + 1 + 1 by omega, List.set_cons_succ, List.set_cons_succ, ih]
theorem pntv_set (l : List S73) (i : Nat) (y : Nat) (hi : i < l.length) : (pntv (l.map dP)).set (i * 2 + 1) (.float .f32 y) = pntv ((setY l i y).map dP) := by
  unfold pntv setY
  rw [List.getD_eq_getElem?_getD, List.getElem?_eq_getElem hi, List.map_set]
  exact two_set (fun d : S58 => .int .i64 d.f0) (fun d => .float .f32 d.f1) (l.map dP) i (dP l[i]) (dP ⟨l[i].f0, y⟩) (by rw [List.getElem?_map, List.getElem?_eq_getElem hi]; rfl) rfl
theorem InRow.set {w : World} {g : Nat} {l : List S73} (h : InRow w g (l.map dP)) (i : Nat) (y : Nat) (hi : i < l.length) : InRow (w.setCell ⟨g, i * 2 + 1, none⟩ (.float .f32 y)) g ((setY l i y).map dP) := by
  have hlt : i * 2 + 1 < (pntv (l.map dP)).length := by unfold pntv; rw [two_len, List.length_map]; omega
  have hother : ∀ j, j ≠ i * 2 + 1 → (w.setCell ⟨g, i * 2 + 1, none⟩ (.float .f32 y)).cell? ⟨g, j, none⟩ = w.cell? ⟨g, j, none⟩ := fun j hj => World.cell?_setCell_other w _ _ _ (fun e => hj (by injection e with _ e2 _; exact e2.symm))
  have hm0 := h.m0
  have hm1 := h.m1
  rw [List.length_map] at hm0 hm1
  refine ⟨fun j u hu => ?_, ?_, ?_, fun j => ?_⟩
  · rw [← pntv_set l i y hi] at hu
    by_cases hj : j = i * 2 + 1
    · subst hj
      rw [List.getElem?_set_self hlt] at hu
      obtain rfl := Option.some.inj hu
      exact World.cell?_setCell_same w _ _ (h.cell _ _ (List.getElem?_eq_getElem hlt))
    · rw [List.getElem?_set_ne (fun e => hj e.symm)] at hu
      rw [hother j hj]
      exact h.cell j u hu
  · rw [List.length_map, setY_len, hother _ (by omega)]; exact hm0
  · rw [List.length_map, setY_len, hother _ (by omega)]; exact hm1
  · rw [World.frozen?_setCell]; exact h.fr j
end Go.Proofs.Ytfhgomcfpmbhnaa.Y
end

section
namespace Go.Proofs.Ytfhgomcfpmbhnaa.PS
open Go.RowKit Go.Proofs.YtfhgomcfpmbhnaaW.PrintWords Go.Proofs.YtfhgomcfpmbhnaaW.PrintLast Go.Proofs.YtfhgomcfpmbhnaaW.PrintMore
attribute [local go_sem] frun_add frun_sub frun_mul frun_quo frun_neg frun_of frun_same frun_store frun_bits frun_from
attribute [local go_sem] max2_int min2_int max_two min_two max_three min_three max_four min_four
set_option linter.unusedVariables false
set_option linter.unusedSimpArgs false
theorem i64_wrap (n : Int) : IntKind.i64.wrap n = wrap64 n := by
 unfold wrap64
 simp [IntKind.wrap, IntKind.bits, IntKind.signed]
 omega
def curve_At.l0 : Nat → List (S58) → Int → List (S58) → Int → Int → Option (Nat × Int)
 | 0, _, _, _, _, _ => none
 | k + 1, x0, x1, x14, x15, x16 => if x16 < x15 then (if 0 ≤ x16 then (if x16 < (x14.length : Int) then (if ((rd_T58 x14 x16).f0) = x1 then (some ((rd_T58 x14 x16).f1, 0)) else (if ((rd_T58 x14 x16).f0) > x1 then (if x16 = 0 then (some ((0 : Nat), 175)) else (if 0 ≤ (wrap64 (x16 - 1)) then (if (wrap64 (x16 - 1)) < (x0.length : Int) then ((curve_whole.f (wrap64 (x1 - ((rd_T58 x0 (wrap64 (x16 - 1))).f0)))).bind fun t285 => ((curve_whole.f (wrap64 (((rd_T58 x14 x16).f0) - ((rd_T58 x0 (wrap64 (x16 - 1))).f0)))).bind fun t286 => (if fk_quo t285 t286 = true then (if fk_sub ((rd_T58 x14 x16).f1) ((rd_T58 x0 (wrap64 (x16 - 1))).f1) = true then (if fk_mul (fl_sub ((rd_T58 x14 x16).f1) ((rd_T58 x0 (wrap64 (x16 - 1))).f1)) (fl_quo t285 t286) = true then (if fk_add ((rd_T58 x0 (wrap64 (x16 - 1))).f1) (fl_mul (fl_sub ((rd_T58 x14 x16).f1) ((rd_T58 x0 (wrap64 (x16 - 1))).f1)) (fl_quo t285 t286)) = true then (some (fl_add ((rd_T58 x0 (wrap64 (x16 - 1))).f1) (fl_mul (fl_sub ((rd_T58 x14 x16).f1) ((rd_T58 x0 (wrap64 (x16 - 1))).f1)) (fl_quo t285 t286)), 0)) else (none)) else (none)) else (none)) else (none)))) else (none)) else (none))) else (curve_At.l0 k x0 x1 x14 x15 (wrap64 (x16 + 1))))) else (none)) else (none)) else (some ((0 : Nat), 175))
def curve_At.f (k : Nat) (l0 : List (S58)) (a1 : Int) : Option (Nat × Int) := (curve_ordered.f k l0).bind fun t280 => (if t280 = true then (curve_At.l0 k l0 a1 l0 (l0.length : Int) 0) else (some ((0 : Nat), 172)))
theorem curve_At.mono_l : ∀ k, (∀ y0 y1 y2 y3 y4, LeO (curve_At.l0 k y0 y1 y2 y3 y4) (curve_At.l0 (k + 1) y0 y1 y2 y3 y4))
 | 0 => fun _ _ _ _ _ r h => by simp [curve_At.l0] at h
 | k + 1 => by
  have ih0 := curve_At.mono_l k
  ·intro y0 y1 y2 y3 y4
   unfold curve_At.l0
   repeat' first
   | (with_reducible exact ih0 _ _ _ _ _)
   | (with_reducible exact curve_ordered.mono _ _)
   | (with_reducible exact LeO.refl _)
   | (with_reducible exact LeO.none _)
   | (with_reducible refine LeO.ite ?_ ?_)
   | (with_reducible refine LeO.bind ?_ (fun _ => ?_))
   | exact ih0 _ _ _ _ _
   | exact curve_ordered.mono _ _
   | exact LeO.none _
   | refine LeO.ite ?_ ?_
   | refine LeO.bind ?_ (fun _ => ?_)
theorem curve_At.mono : ∀ a0 a1 k, LeO (curve_At.f k a0 a1) (curve_At.f (k + 1) a0 a1) := by
 intro a0 a1 k
 have ih0 := curve_At.mono_l k
 unfold curve_At.f
 repeat' first
   | (with_reducible exact ih0 _ _ _ _ _)
   | (with_reducible exact curve_ordered.mono _ _)
   | (with_reducible exact LeO.refl _)
   | (with_reducible exact LeO.none _)
   | (with_reducible refine LeO.ite ?_ ?_)
   | (with_reducible refine LeO.bind ?_ (fun _ => ?_))
   | exact ih0 _ _ _ _ _
   | exact curve_ordered.mono _ _
   | exact LeO.none _
   | refine LeO.ite ?_ ?_
   | refine LeO.bind ?_ (fun _ => ?_)
set_option maxHeartbeats 8000000 in
set_option maxRecDepth 100000 in
theorem curve_At.calls (k : Nat) (A0 : Option Addr) (c0 : Nat) (l0 : List (S58)) (a1 : Int) (r1 : Nat) (r2 : Int) (w : World) (hr0 : Kd.C k58 w A0 l0.length l0) (hc0 : l0.length ≤ c0) (h : curve_At.f k l0 a1 = some (r1, r2)) :
  Calls Try.prog 31 #[.slice A0 l0.length c0, .int .i64 a1] w fun e w' => e = .returned (.tuple #[.float .f32 r1, .int .i64 r2]) ∧ Below w.heap.size w w' := by
 have hu58 := Try.underlying58
 have HR0 := Aside0.mk hr0
 have HC0 := Aside0.mk hc0
 clear hr0 hc0
 have HB := Aside0.mk (Below.refl w.heap.size w)
 have H : ((curve_ordered.f k l0).bind fun t280 => (if t280 = true then (curve_At.l0 k l0 a1 l0 (l0.length : Int) 0) else (some ((0 : Nat), 172)))) = some (r1, r2) := h
 clear h
 replace H := Option.bind_eq_some_iff.mp H
 obtain ⟨t280, A30, H⟩ := H
 replace H : (if t280 = true then (curve_At.l0 k l0 a1 l0 (l0.length : Int) 0) else (some ((0 : Nat), 172))) = some (r1, r2) := H
 have A3 := Aside0.mk A30
 clear A30
 by_cases c4 : t280 = true
 ·subst c4
  have H1 : (curve_At.l0 k l0 a1 l0 (l0.length : Int) 0) = some (r1, r2) := by rw [if_pos rfl] at H; exact H
  clear H
  have H := H1
  clear H1
  have H' := Aside0.mk H
  clear H
  go_enter Try.func31, Try.ntmps31
  go_wp2_with (first | (go_at_call 48; (with_reducible refine (curve_ordered.calls k _ _ l0 true _ ?side1 ?side2 A3.out).mono ?_); (case side1 => repeat (first | exact HR0.out | (with_reducible refine Kd.C_alloc ?_ _) | (with_reducible refine Kd.C_drewN ?_ _) | (with_reducible refine Kd.C_drew ?_))); (case side2 => exact HC0.out); rintro e w5 ⟨rfl, hb⟩; have n0_ := Aside0.mk (below_step blx hb); clear HB; have HB := n0_; clear n0_; (try clear hb); (try clear hb2); (try clear hk); (try clear hi)))
  repeat (go_quiet (first | (go_at_call 48; (with_reducible refine (curve_ordered.calls k _ _ l0 true _ ?side1 ?side2 A3.out).mono ?_); (case side1 => repeat (first | exact HR0.out | (with_reducible refine Kd.C_alloc ?_ _) | (with_reducible refine Kd.C_drewN ?_ _) | (with_reducible refine Kd.C_drew ?_))); (case side2 => exact HC0.out); rintro e w5 ⟨rfl, hb⟩; have n0_ := Aside0.mk (below_step blx hb); clear HB; have HB := n0_; clear n0_; (try clear hb); (try clear hb2); (try clear hk); (try clear hi))); try go_wp2_with (first | (go_at_call 48; (with_reducible refine (curve_ordered.calls k _ _ l0 true _ ?side1 ?side2 A3.out).mono ?_); (case side1 => repeat (first | exact HR0.out | (with_reducible refine Kd.C_alloc ?_ _) | (with_reducible refine Kd.C_drewN ?_ _) | (with_reducible refine Kd.C_drew ?_))); (case side2 => exact HC0.out); rintro e w5 ⟨rfl, hb⟩; have n0_ := Aside0.mk (below_step blx hb); clear HB; have HB := n0_; clear n0_; (try clear hb); (try clear hb2); (try clear hk); (try clear hi))))
  go_loopg [16] k (fun kq v16 w' => ∃ (x16_1 : Int), v16 = .int .i64 x16_1 ∧ Aside0 (curve_At.l0 kq l0 a1 l0 (l0.length : Int) x16_1 = some (r1, r2)) ∧ Aside0 (kq ≤ k) ∧ Aside0 (Below w.heap.size w w'))
  case atStart => exact ⟨(0), (by first | rfl | (simp; done) | (simp [*]; done)), H', ⟨Nat.le_refl _⟩, ⟨blx⟩⟩
  case round =>
   clear H'
   try clear p2
   try clear c3
   try clear c4
   obtain ⟨x16_1, rfl, HA, HK1, HB⟩ := hrel
   cases gk with
   | zero => exact absurd HA.out (by simp [curve_At.l0])
   | succ k1 =>
    have H := HA.out
    clear HA
    simp only [curve_At.l0] at H
    by_cases c6 : x16_1 < (l0.length : Int)
    ·rw [if_pos c6] at H
     have c6b0 : decide (x16_1 < (l0.length : Int)) = true := decide_eq_true c6
     clear c6
     by_cases c7 : 0 ≤ x16_1
     ·rw [if_pos c7] at H
      have c7b0 : decide (0 ≤ x16_1) = true := decide_eq_true c7
      clear c7
      by_cases c8 : x16_1 < (l0.length : Int)
      ·rw [if_pos c8] at H
       have c8b0 : decide (x16_1 < (l0.length : Int)) = true := decide_eq_true c8
       clear c8
       by_cases c9 : ((rd_T58 l0 x16_1).f0) = a1
       ·rw [if_pos c9] at H
        have c9b0 : (((rd_T58 l0 x16_1).f0) == a1) = true := beq_iff_eq.mpr c9
        have c9b1 : (((rd_T58 l0 x16_1).f0) != a1) = false := bne_eq_false_iff_eq.mpr c9
        clear c9
        simp only [Option.some.injEq, Prod.mk.injEq] at H
        obtain ⟨rfl, rfl⟩ := H
        have p281 : 0 ≤ (x16_1 : Int) := odx
        have q281 : x16_1 < (l0.length : Int) := odx
        obtain ⟨ad281, e281, hx281_0, hx281_1⟩ := at_T58 HR0.out x16_1 p281 q281
        cases e281
        replace hx281_0 := (HB.out.cell (World.block_lt_of_cell? w _ hx281_0)).trans hx281_0
        replace hx281_1 := (HB.out.cell (World.block_lt_of_cell? w _ hx281_1)).trans hx281_1
        replace p281 := eq_true p281
        replace q281 := eq_true q281
        go_wp2_with (first | ((with_reducible refine gate_dst (N := 7) rfl ?_); refine box_event ?hg (N := 7) ?hd (cs := #[.int .i64 0, .float .f32 (0 : Nat)]) (t := 58) ?hr ?_; (case hd => rfl); (case hg => rfl); (case hr => first | (go_simp; done) | (go_simp; rfl)); intro gb282 hg w10 hbox hb; have n0_ := Aside0.mk (below_step blx hb); have n1_ := Aside0.mk (hbox); have n2_ := Aside0.mk ((by rw [hg]; exact (below_size blx) : w.heap.size ≤ gb282)); have n3_ := Aside0.mk ((by rw [hg]; exact (below_size blx) : w.heap.size ≤ gb282)); clear HB; have HB := n0_; have BK282 := n1_; have GW282 := n2_; have GE282 := n3_; clear n0_ n1_ n2_ n3_; clear hb hbox hg; have hcz11_0 : w10.cell? ⟨gb282, 0, none⟩ = some (.int .i64 0) := (blk_cell BK282.out 0).trans rfl; have hcz11_1 : w10.cell? ⟨gb282, 1, none⟩ = some (.float .f32 (0 : Nat)) := (blk_cell BK282.out 1).trans rfl; have hfz11_0 := blk_frozen BK282.out 0; have hfz11_1 := blk_frozen BK282.out 1))
        repeat (go_quiet (first | ((with_reducible refine gate_dst (N := 7) rfl ?_); refine box_event ?hg (N := 7) ?hd (cs := #[.int .i64 0, .float .f32 (0 : Nat)]) (t := 58) ?hr ?_; (case hd => rfl); (case hg => rfl); (case hr => first | (go_simp; done) | (go_simp; rfl)); intro gb282 hg w10 hbox hb; have n0_ := Aside0.mk (below_step blx hb); have n1_ := Aside0.mk (hbox); have n2_ := Aside0.mk ((by rw [hg]; exact (below_size blx) : w.heap.size ≤ gb282)); have n3_ := Aside0.mk ((by rw [hg]; exact (below_size blx) : w.heap.size ≤ gb282)); clear HB; have HB := n0_; have BK282 := n1_; have GW282 := n2_; have GE282 := n3_; clear n0_ n1_ n2_ n3_; clear hb hbox hg; have hcz11_0 : w10.cell? ⟨gb282, 0, none⟩ = some (.int .i64 0) := (blk_cell BK282.out 0).trans rfl; have hcz11_1 : w10.cell? ⟨gb282, 1, none⟩ = some (.float .f32 (0 : Nat)) := (blk_cell BK282.out 1).trans rfl; have hfz11_0 := blk_frozen BK282.out 0; have hfz11_1 := blk_frozen BK282.out 1)); try go_wp2_with (first | ((with_reducible refine gate_dst (N := 7) rfl ?_); refine box_event ?hg (N := 7) ?hd (cs := #[.int .i64 0, .float .f32 (0 : Nat)]) (t := 58) ?hr ?_; (case hd => rfl); (case hg => rfl); (case hr => first | (go_simp; done) | (go_simp; rfl)); intro gb282 hg w10 hbox hb; have n0_ := Aside0.mk (below_step blx hb); have n1_ := Aside0.mk (hbox); have n2_ := Aside0.mk ((by rw [hg]; exact (below_size blx) : w.heap.size ≤ gb282)); have n3_ := Aside0.mk ((by rw [hg]; exact (below_size blx) : w.heap.size ≤ gb282)); clear HB; have HB := n0_; have BK282 := n1_; have GW282 := n2_; have GE282 := n3_; clear n0_ n1_ n2_ n3_; clear hb hbox hg; have hcz11_0 : w10.cell? ⟨gb282, 0, none⟩ = some (.int .i64 0) := (blk_cell BK282.out 0).trans rfl; have hcz11_1 : w10.cell? ⟨gb282, 1, none⟩ = some (.float .f32 (0 : Nat)) := (blk_cell BK282.out 1).trans rfl; have hfz11_0 := blk_frozen BK282.out 0; have hfz11_1 := blk_frozen BK282.out 1)))
        go_ret2
        exact ⟨by first | rfl | (simp [errW_none, errW_some] <;> rfl) | (simp [*, errW_none, errW_some] <;> rfl), blx⟩
       ·rw [if_neg c9] at H
        have c9b0 : (((rd_T58 l0 x16_1).f0) == a1) = false := beq_eq_false_iff_ne.mpr c9
        have c9b1 : (((rd_T58 l0 x16_1).f0) != a1) = true := bne_iff_ne.mpr c9
        by_cases c12 : ((rd_T58 l0 x16_1).f0) > a1
        ·rw [if_pos c12] at H
         have c12b0 : decide (a1 < ((rd_T58 l0 x16_1).f0)) = true := decide_eq_true c12
         clear c12
         by_cases c13 : x16_1 = 0
         ·rw [if_pos c13] at H
          have c13b0 : (x16_1 == 0) = true := beq_iff_eq.mpr c13
          have c13b1 : (x16_1 != 0) = false := bne_eq_false_iff_eq.mpr c13
          clear c13
          simp only [Option.some.injEq, Prod.mk.injEq] at H
          obtain ⟨rfl, rfl⟩ := H
          have p281 : 0 ≤ (x16_1 : Int) := odx
          have q281 : x16_1 < (l0.length : Int) := odx
          obtain ⟨ad281, e281, hx281_0, hx281_1⟩ := at_T58 HR0.out x16_1 p281 q281
          cases e281
          replace hx281_0 := (HB.out.cell (World.block_lt_of_cell? w _ hx281_0)).trans hx281_0
          replace hx281_1 := (HB.out.cell (World.block_lt_of_cell? w _ hx281_1)).trans hx281_1
          replace p281 := eq_true p281
          replace q281 := eq_true q281
          go_wp2_with (first | ((with_reducible refine gate_dst (N := 7) rfl ?_); refine box_event ?hg (N := 7) ?hd (cs := #[.int .i64 0, .float .f32 (0 : Nat)]) (t := 58) ?hr ?_; (case hd => rfl); (case hg => rfl); (case hr => first | (go_simp; done) | (go_simp; rfl)); intro gb282 hg w14 hbox hb; have n0_ := Aside0.mk (below_step blx hb); have n1_ := Aside0.mk (hbox); have n2_ := Aside0.mk ((by rw [hg]; exact (below_size blx) : w.heap.size ≤ gb282)); have n3_ := Aside0.mk ((by rw [hg]; exact (below_size blx) : w.heap.size ≤ gb282)); clear HB; have HB := n0_; have BK282 := n1_; have GW282 := n2_; have GE282 := n3_; clear n0_ n1_ n2_ n3_; clear hb hbox hg; have hcz15_0 : w14.cell? ⟨gb282, 0, none⟩ = some (.int .i64 0) := (blk_cell BK282.out 0).trans rfl; have hcz15_1 : w14.cell? ⟨gb282, 1, none⟩ = some (.float .f32 (0 : Nat)) := (blk_cell BK282.out 1).trans rfl; have hfz15_0 := blk_frozen BK282.out 0; have hfz15_1 := blk_frozen BK282.out 1))
          repeat (go_quiet (first | ((with_reducible refine gate_dst (N := 7) rfl ?_); refine box_event ?hg (N := 7) ?hd (cs := #[.int .i64 0, .float .f32 (0 : Nat)]) (t := 58) ?hr ?_; (case hd => rfl); (case hg => rfl); (case hr => first | (go_simp; done) | (go_simp; rfl)); intro gb282 hg w14 hbox hb; have n0_ := Aside0.mk (below_step blx hb); have n1_ := Aside0.mk (hbox); have n2_ := Aside0.mk ((by rw [hg]; exact (below_size blx) : w.heap.size ≤ gb282)); have n3_ := Aside0.mk ((by rw [hg]; exact (below_size blx) : w.heap.size ≤ gb282)); clear HB; have HB := n0_; have BK282 := n1_; have GW282 := n2_; have GE282 := n3_; clear n0_ n1_ n2_ n3_; clear hb hbox hg; have hcz15_0 : w14.cell? ⟨gb282, 0, none⟩ = some (.int .i64 0) := (blk_cell BK282.out 0).trans rfl; have hcz15_1 : w14.cell? ⟨gb282, 1, none⟩ = some (.float .f32 (0 : Nat)) := (blk_cell BK282.out 1).trans rfl; have hfz15_0 := blk_frozen BK282.out 0; have hfz15_1 := blk_frozen BK282.out 1)); try go_wp2_with (first | ((with_reducible refine gate_dst (N := 7) rfl ?_); refine box_event ?hg (N := 7) ?hd (cs := #[.int .i64 0, .float .f32 (0 : Nat)]) (t := 58) ?hr ?_; (case hd => rfl); (case hg => rfl); (case hr => first | (go_simp; done) | (go_simp; rfl)); intro gb282 hg w14 hbox hb; have n0_ := Aside0.mk (below_step blx hb); have n1_ := Aside0.mk (hbox); have n2_ := Aside0.mk ((by rw [hg]; exact (below_size blx) : w.heap.size ≤ gb282)); have n3_ := Aside0.mk ((by rw [hg]; exact (below_size blx) : w.heap.size ≤ gb282)); clear HB; have HB := n0_; have BK282 := n1_; have GW282 := n2_; have GE282 := n3_; clear n0_ n1_ n2_ n3_; clear hb hbox hg; have hcz15_0 : w14.cell? ⟨gb282, 0, none⟩ = some (.int .i64 0) := (blk_cell BK282.out 0).trans rfl; have hcz15_1 : w14.cell? ⟨gb282, 1, none⟩ = some (.float .f32 (0 : Nat)) := (blk_cell BK282.out 1).trans rfl; have hfz15_0 := blk_frozen BK282.out 0; have hfz15_1 := blk_frozen BK282.out 1)))
          go_ret2
          exact ⟨by first | rfl | (simp [errW_none, errW_some] <;> rfl) | (simp [*, errW_none, errW_some] <;> rfl), blx⟩
         ·rw [if_neg c13] at H
          have c13b0 : (x16_1 == 0) = false := beq_eq_false_iff_ne.mpr c13
          have c13b1 : (x16_1 != 0) = true := bne_iff_ne.mpr c13
          obtain ⟨ji16, hji16⟩ : ∃ j_ : Int, (wrap64 (x16_1 - 1)) = j_ := ⟨_, rfl⟩
          replace H : (if 0 ≤ (ji16) then (if (ji16) < (l0.length : Int) then ((curve_whole.f (wrap64 (a1 - ((rd_T58 l0 (ji16)).f0)))).bind fun t285 => ((curve_whole.f (wrap64 (((rd_T58 l0 x16_1).f0) - ((rd_T58 l0 (ji16)).f0)))).bind fun t286 => (if fk_quo t285 t286 = true then (if fk_sub ((rd_T58 l0 x16_1).f1) ((rd_T58 l0 (ji16)).f1) = true then (if fk_mul (fl_sub ((rd_T58 l0 x16_1).f1) ((rd_T58 l0 (ji16)).f1)) (fl_quo t285 t286) = true then (if fk_add ((rd_T58 l0 (ji16)).f1) (fl_mul (fl_sub ((rd_T58 l0 x16_1).f1) ((rd_T58 l0 (ji16)).f1)) (fl_quo t285 t286)) = true then (some (fl_add ((rd_T58 l0 (ji16)).f1) (fl_mul (fl_sub ((rd_T58 l0 x16_1).f1) ((rd_T58 l0 (ji16)).f1)) (fl_quo t285 t286)), 0)) else (none)) else (none)) else (none)) else (none)))) else (none)) else (none)) = some (r1, r2) := by first | (rw [hji16] at H; exact H) | (simp only [hji16] at H ⊢; exact H)
          have hji16w : (IntKind.i64.wrap (x16_1 - 1)) = ji16 := (i64_w _).trans hji16
          by_cases c17 : 0 ≤ (ji16)
          ·rw [if_pos c17] at H
           have c17b0 : decide (0 ≤ (ji16)) = true := decide_eq_true c17
           clear c17
           by_cases c18 : (ji16) < (l0.length : Int)
           ·rw [if_pos c18] at H
            have c18b0 : decide ((ji16) < (l0.length : Int)) = true := decide_eq_true c18
            clear c18
            replace H := Option.bind_eq_some_iff.mp H
            obtain ⟨t285, A190, H⟩ := H
            replace H : ((curve_whole.f (wrap64 (((rd_T58 l0 x16_1).f0) - ((rd_T58 l0 (ji16)).f0)))).bind fun t286 => (if fk_quo t285 t286 = true then (if fk_sub ((rd_T58 l0 x16_1).f1) ((rd_T58 l0 (ji16)).f1) = true then (if fk_mul (fl_sub ((rd_T58 l0 x16_1).f1) ((rd_T58 l0 (ji16)).f1)) (fl_quo t285 t286) = true then (if fk_add ((rd_T58 l0 (ji16)).f1) (fl_mul (fl_sub ((rd_T58 l0 x16_1).f1) ((rd_T58 l0 (ji16)).f1)) (fl_quo t285 t286)) = true then (some (fl_add ((rd_T58 l0 (ji16)).f1) (fl_mul (fl_sub ((rd_T58 l0 x16_1).f1) ((rd_T58 l0 (ji16)).f1)) (fl_quo t285 t286)), 0)) else (none)) else (none)) else (none)) else (none))) = some (r1, r2) := H
            have A19 := Aside0.mk A190
            clear A190
            replace H := Option.bind_eq_some_iff.mp H
            obtain ⟨t286, A200, H⟩ := H
            replace H : (if fk_quo t285 t286 = true then (if fk_sub ((rd_T58 l0 x16_1).f1) ((rd_T58 l0 (ji16)).f1) = true then (if fk_mul (fl_sub ((rd_T58 l0 x16_1).f1) ((rd_T58 l0 (ji16)).f1)) (fl_quo t285 t286) = true then (if fk_add ((rd_T58 l0 (ji16)).f1) (fl_mul (fl_sub ((rd_T58 l0 x16_1).f1) ((rd_T58 l0 (ji16)).f1)) (fl_quo t285 t286)) = true then (some (fl_add ((rd_T58 l0 (ji16)).f1) (fl_mul (fl_sub ((rd_T58 l0 x16_1).f1) ((rd_T58 l0 (ji16)).f1)) (fl_quo t285 t286)), 0)) else (none)) else (none)) else (none)) else (none)) = some (r1, r2) := H
            have A20 := Aside0.mk A200
            clear A200
            by_cases c21 : fk_quo t285 t286 = true
            ·rw [if_pos c21] at H
             have c21b0 := eq_true c21
             have c21b1 : decide (fk_quo t285 t286 = true) = true := decide_eq_true c21
             clear c21
             by_cases c22 : fk_sub ((rd_T58 l0 x16_1).f1) ((rd_T58 l0 (ji16)).f1) = true
             ·rw [if_pos c22] at H
              have c22b0 := eq_true c22
              have c22b1 : decide (fk_sub ((rd_T58 l0 x16_1).f1) ((rd_T58 l0 (ji16)).f1) = true) = true := decide_eq_true c22
              clear c22
              by_cases c23 : fk_mul (fl_sub ((rd_T58 l0 x16_1).f1) ((rd_T58 l0 (ji16)).f1)) (fl_quo t285 t286) = true
              ·rw [if_pos c23] at H
               have c23b0 := eq_true c23
               have c23b1 : decide (fk_mul (fl_sub ((rd_T58 l0 x16_1).f1) ((rd_T58 l0 (ji16)).f1)) (fl_quo t285 t286) = true) = true := decide_eq_true c23
               clear c23
               by_cases c24 : fk_add ((rd_T58 l0 (ji16)).f1) (fl_mul (fl_sub ((rd_T58 l0 x16_1).f1) ((rd_T58 l0 (ji16)).f1)) (fl_quo t285 t286)) = true
               ·rw [if_pos c24] at H
                have c24b0 := eq_true c24
                have c24b1 : decide (fk_add ((rd_T58 l0 (ji16)).f1) (fl_mul (fl_sub ((rd_T58 l0 x16_1).f1) ((rd_T58 l0 (ji16)).f1)) (fl_quo t285 t286)) = true) = true := decide_eq_true c24
                clear c24
                simp only [Option.some.injEq, Prod.mk.injEq] at H
                obtain ⟨rfl, rfl⟩ := H
                have p281 : 0 ≤ (x16_1 : Int) := odx
                have q281 : x16_1 < (l0.length : Int) := odx
                obtain ⟨ad281, e281, hx281_0, hx281_1⟩ := at_T58 HR0.out x16_1 p281 q281
                cases e281
                replace hx281_0 := (HB.out.cell (World.block_lt_of_cell? w _ hx281_0)).trans hx281_0
                replace hx281_1 := (HB.out.cell (World.block_lt_of_cell? w _ hx281_1)).trans hx281_1
                replace p281 := eq_true p281
                replace q281 := eq_true q281
                go_wp2_with (first | ((with_reducible refine gate_dst (N := 7) rfl ?_); refine box_event ?hg (N := 7) ?hd (cs := #[.int .i64 0, .float .f32 (0 : Nat)]) (t := 58) ?hr ?_; (case hd => rfl); (case hg => rfl); (case hr => first | (go_simp; done) | (go_simp; rfl)); intro gb282 hg w25 hbox hb; have n0_ := Aside0.mk (below_step blx hb); have n1_ := Aside0.mk (hbox); have n2_ := Aside0.mk ((by rw [hg]; exact (below_size blx) : w.heap.size ≤ gb282)); have n3_ := Aside0.mk ((by rw [hg]; exact (below_size blx) : w.heap.size ≤ gb282)); clear HB; have HB := n0_; have BK282 := n1_; have GW282 := n2_; have GE282 := n3_; clear n0_ n1_ n2_ n3_; clear hb hbox hg; have hcz26_0 : w25.cell? ⟨gb282, 0, none⟩ = some (.int .i64 0) := (blk_cell BK282.out 0).trans rfl; have hcz26_1 : w25.cell? ⟨gb282, 1, none⟩ = some (.float .f32 (0 : Nat)) := (blk_cell BK282.out 1).trans rfl; have hfz26_0 := blk_frozen BK282.out 0; have hfz26_1 := blk_frozen BK282.out 1; have p283 : 0 ≤ ((ji16) : Int) := odx; have q283 : (ji16) < (l0.length : Int) := odx; obtain ⟨ad283, e283, hx283_0, hx283_1⟩ := at_T58 HR0.out (ji16) p283 q283; obtain rfl : ad281 = ad283 := (by injection e283); have hn283_0 : ad281.block ≠ gb282 := Nat.ne_of_lt (Nat.lt_of_lt_of_le (by have := World.block_lt_of_cell? _ _ hx283_0; first | rwa [add_block] at this | exact this) GW282.out); have hn283_1 : ad281.block ≠ gb282 := Nat.ne_of_lt (Nat.lt_of_lt_of_le (by have := World.block_lt_of_cell? _ _ hx283_0; first | rwa [add_block] at this | exact this) GW282.out); replace hx283_0 := (HB.out.cell (World.block_lt_of_cell? w _ hx283_0)).trans hx283_0; replace hx283_1 := (HB.out.cell (World.block_lt_of_cell? w _ hx283_1)).trans hx283_1; replace hx283_0 := (cell_far (p := ⟨gb282, 0, none⟩) (by first | (rw [add_block]; exact hn283_0) | (show (Addr.add _ _).block ≠ _; rw [add_block]; exact hn283_0) | exact hn283_0) (.int .i64 ((rd_T58 l0 x16_1).f0))).trans hx283_0; replace hx283_1 := (cell_far (p := ⟨gb282, 0, none⟩) (by first | (rw [add_block]; exact hn283_0) | (show (Addr.add _ _).block ≠ _; rw [add_block]; exact hn283_0) | exact hn283_0) (.int .i64 ((rd_T58 l0 x16_1).f0))).trans hx283_1; replace hx283_0 := (cell_far (p := ⟨gb282, 1, none⟩) (by first | (rw [add_block]; exact hn283_1) | (show (Addr.add _ _).block ≠ _; rw [add_block]; exact hn283_1) | exact hn283_1) (.float .f32 ((rd_T58 l0 x16_1).f1))).trans hx283_0; replace hx283_1 := (cell_far (p := ⟨gb282, 1, none⟩) (by first | (rw [add_block]; exact hn283_1) | (show (Addr.add _ _).block ≠ _; rw [add_block]; exact hn283_1) | exact hn283_1) (.float .f32 ((rd_T58 l0 x16_1).f1))).trans hx283_1; (try have hy283_0 := fun (n_ : Nat) => (show ((((w25.drewN n_).setCell ⟨gb282, 0, none⟩ (.int .i64 ((rd_T58 l0 x16_1).f0))).setCell ⟨gb282, 1, none⟩ (.float .f32 ((rd_T58 l0 x16_1).f1)))).cell? _ = some _ from hx283_0)); (try have hy283_1 := fun (n_ : Nat) => (show ((((w25.drewN n_).setCell ⟨gb282, 0, none⟩ (.int .i64 ((rd_T58 l0 x16_1).f0))).setCell ⟨gb282, 1, none⟩ (.float .f32 ((rd_T58 l0 x16_1).f1)))).cell? _ = some _ from hx283_1)); clear hn283_0; clear hn283_1; replace p283 := eq_true p283; replace q283 := eq_true q283) | ((with_reducible refine gate_dst (N := 8) rfl ?_); refine box_event ?hg (N := 8) ?hd (cs := #[.int .i64 0, .float .f32 (0 : Nat)]) (t := 58) ?hr ?_; (case hd => rfl); (case hg => rfl); (case hr => first | (go_simp; done) | (go_simp; rfl)); intro gb284 hg w27 hbox hb; have n0_ := Aside0.mk (blk_below (g := gb282) (o := .cells #[.int .i64 ((rd_T58 l0 x16_1).f0), .float .f32 ((rd_T58 l0 x16_1).f1)] 58 (0, 0)) (by (with_reducible repeat (first | refine blk_drewN ?_ _ | refine blk_drew ?_ | refine blk_alloc ?_ _)); refine blk_put (cs := #[.int .i64 ((rd_T58 l0 x16_1).f0), .float .f32 (0 : Nat)]) ?_ 1 _ rfl; (with_reducible repeat (first | refine blk_drewN ?_ _ | refine blk_drew ?_ | refine blk_alloc ?_ _)); refine blk_put (cs := #[.int .i64 0, .float .f32 (0 : Nat)]) ?_ 0 _ rfl; (with_reducible repeat (first | refine blk_drewN ?_ _ | refine blk_drew ?_ | refine blk_alloc ?_ _)); exact BK282.out) hb); have n1_ := Aside0.mk (below_step blx hb); have n2_ := Aside0.mk (hbox); have n3_ := Aside0.mk ((by rw [hg]; exact (below_size blx) : w.heap.size ≤ gb284)); have n4_ := Aside0.mk ((by rw [hg]; exact (below_size blx) : w.heap.size ≤ gb284)); have n5_ := Aside0.mk ((by rw [hg]; exact Nat.ne_of_lt (blk_lt (g := gb282) (o := .cells #[.int .i64 ((rd_T58 l0 x16_1).f0), .float .f32 ((rd_T58 l0 x16_1).f1)] 58 (0, 0)) (by (with_reducible repeat (first | refine blk_drewN ?_ _ | refine blk_drew ?_ | refine blk_alloc ?_ _)); refine blk_put (cs := #[.int .i64 ((rd_T58 l0 x16_1).f0), .float .f32 (0 : Nat)]) ?_ 1 _ rfl; (with_reducible repeat (first | refine blk_drewN ?_ _ | refine blk_drew ?_ | refine blk_alloc ?_ _)); refine blk_put (cs := #[.int .i64 0, .float .f32 (0 : Nat)]) ?_ 0 _ rfl; (with_reducible repeat (first | refine blk_drewN ?_ _ | refine blk_drew ?_ | refine blk_alloc ?_ _)); exact BK282.out)) : gb282 ≠ gb284)); have n6_ := Aside0.mk ((by rw [hg]; exact Nat.ne_of_gt (blk_lt (g := gb282) (o := .cells #[.int .i64 ((rd_T58 l0 x16_1).f0), .float .f32 ((rd_T58 l0 x16_1).f1)] 58 (0, 0)) (by (with_reducible repeat (first | refine blk_drewN ?_ _ | refine blk_drew ?_ | refine blk_alloc ?_ _)); refine blk_put (cs := #[.int .i64 ((rd_T58 l0 x16_1).f0), .float .f32 (0 : Nat)]) ?_ 1 _ rfl; (with_reducible repeat (first | refine blk_drewN ?_ _ | refine blk_drew ?_ | refine blk_alloc ?_ _)); refine blk_put (cs := #[.int .i64 0, .float .f32 (0 : Nat)]) ?_ 0 _ rfl; (with_reducible repeat (first | refine blk_drewN ?_ _ | refine blk_drew ?_ | refine blk_alloc ?_ _)); exact BK282.out)) : gb284 ≠ gb282)); clear BK282; clear HB; have BK282 := n0_; have HB := n1_; have BK284 := n2_; have GW284 := n3_; have GE284 := n4_; have NB282_284 := n5_; have NB284_282 := n6_; clear n0_ n1_ n2_ n3_ n4_ n5_ n6_; clear hb hbox hg; have hnb28 := NB284_282.out; have hnc28 := NB282_284.out; have hcz29_0 : w27.cell? ⟨gb284, 0, none⟩ = some (.int .i64 0) := (blk_cell BK284.out 0).trans rfl; have hcz29_1 : w27.cell? ⟨gb284, 1, none⟩ = some (.float .f32 (0 : Nat)) := (blk_cell BK284.out 1).trans rfl; have hfz29_0 := blk_frozen BK284.out 0; have hfz29_1 := blk_frozen BK284.out 1) | (go_at_call 33; (with_reducible refine (curve_whole.calls (wrap64 (a1 - ((rd_T58 l0 (ji16)).f0))) t285 _ A19.out).mono ?_); rintro e w' ⟨rfl, ⟨nd, rfl⟩⟩; (try first | exact ⟨rfl, _, World.drewN_drewN _ _ _⟩ | exact ⟨rfl, _, Eq.trans (World.drewN_drewN _ _ _) (congrArg (World.drewN _) (Nat.add_assoc _ _ _))⟩); have hcz30_0 : w27.cell? ⟨gb282, 0, none⟩ = some (.int .i64 ((rd_T58 l0 x16_1).f0)) := (blk_cell BK282.out 0).trans rfl; have hcz30_1 : w27.cell? ⟨gb282, 1, none⟩ = some (.float .f32 ((rd_T58 l0 x16_1).f1)) := (blk_cell BK282.out 1).trans rfl; have hfz30_0 := blk_frozen BK282.out 0; have hfz30_1 := blk_frozen BK282.out 1) | (go_at_call 33; (with_reducible refine (curve_whole.calls (wrap64 (((rd_T58 l0 x16_1).f0) - ((rd_T58 l0 (ji16)).f0))) t286 _ A20.out).mono ?_); rintro e w' ⟨rfl, ⟨nd, rfl⟩⟩; (try first | exact ⟨rfl, _, World.drewN_drewN _ _ _⟩ | exact ⟨rfl, _, Eq.trans (World.drewN_drewN _ _ _) (congrArg (World.drewN _) (Nat.add_assoc _ _ _))⟩)))
                have kq : ((w27.setCell ⟨gb284, 0, none⟩ (.int .i64 (rd_T58 l0 ji16).f0)).setCell ⟨gb284, 1, none⟩ (.float .f32 (rd_T58 l0 ji16).f1)).heap[gb284]? = some (.cells #[.int .i64 (rd_T58 l0 ji16).f0, .float .f32 (rd_T58 l0 ji16).f1] 58 (0, 0)) := blk_put (cs := #[.int .i64 (rd_T58 l0 ji16).f0, .float .f32 (0 : Nat)]) (blk_put (cs := #[.int .i64 0, .float .f32 (0 : Nat)]) BK284.out 0 _ rfl) 1 _ rfl
                have d0 : ((w27.setCell ⟨gb284, 0, none⟩ (.int .i64 (rd_T58 l0 ji16).f0)).setCell ⟨gb284, 1, none⟩ (.float .f32 (rd_T58 l0 ji16).f1)).cell? ⟨gb284, 0, none⟩ = some (.int .i64 (rd_T58 l0 ji16).f0) := (blk_cell kq 0).trans rfl
                have d1 : ((w27.setCell ⟨gb284, 0, none⟩ (.int .i64 (rd_T58 l0 ji16).f0)).setCell ⟨gb284, 1, none⟩ (.float .f32 (rd_T58 l0 ji16).f1)).cell? ⟨gb284, 1, none⟩ = some (.float .f32 (rd_T58 l0 ji16).f1) := (blk_cell kq 1).trans rfl
                have d2 : ((w27.setCell ⟨gb284, 0, none⟩ (.int .i64 (rd_T58 l0 ji16).f0)).setCell ⟨gb284, 1, none⟩ (.float .f32 (rd_T58 l0 ji16).f1)).cell? ⟨gb282, 0, none⟩ = some (.int .i64 (rd_T58 l0 x16_1).f0) := (cell_far (p := ⟨gb284, 1, none⟩) hnc28 _).trans ((cell_far (p := ⟨gb284, 0, none⟩) hnc28 _).trans ((blk_cell BK282.out 0).trans rfl))
                have d3 : ((w27.setCell ⟨gb284, 0, none⟩ (.int .i64 (rd_T58 l0 ji16).f0)).setCell ⟨gb284, 1, none⟩ (.float .f32 (rd_T58 l0 ji16).f1)).cell? ⟨gb282, 1, none⟩ = some (.float .f32 (rd_T58 l0 x16_1).f1) := (cell_far (p := ⟨gb284, 1, none⟩) hnc28 _).trans ((cell_far (p := ⟨gb284, 0, none⟩) hnc28 _).trans ((blk_cell BK282.out 1).trans rfl))
                have hb0 : Below w.heap.size w ((w27.setCell ⟨gb284, 0, none⟩ (.int .i64 (rd_T58 l0 ji16).f0)).setCell ⟨gb284, 1, none⟩ (.float .f32 (rd_T58 l0 ji16).f1)) := blx
                clear hy283_0 hy283_1 hx283_0 hx283_1 hx281_0 hx281_1 hcz26_0 hcz26_1 hfz26_0 hfz26_1 hcz29_0 hcz29_1 hfz29_0 hfz29_1 HB BK282 BK284 kq
                generalize ((w27.setCell ⟨gb284, 0, none⟩ (.int .i64 (rd_T58 l0 ji16).f0)).setCell ⟨gb284, 1, none⟩ (.float .f32 (rd_T58 l0 ji16).f1)) = W0 at *
                have hdr : Drawn0 W0 W0 := Drawn0.refl _
                have cw1 : ∀ W, Calls Try.prog 33 #[.int .i64 (IntKind.i64.wrap (a1 - (rd_T58 l0 ji16).f0))] W fun e w' => e = .returned (.float .f32 t285) ∧ Drawn0 W w' := fun W => by rw [i64_wrap]; exact curve_whole.calls _ t285 W A19.out
                have cw2 : ∀ W, Calls Try.prog 33 #[.int .i64 (IntKind.i64.wrap ((rd_T58 l0 x16_1).f0 - (rd_T58 l0 ji16).f0))] W fun e w' => e = .returned (.float .f32 t286) ∧ Drawn0 W w' := fun W => by rw [i64_wrap]; exact curve_whole.calls _ t286 W A20.out
                go_region_held3 (fun w' => w'.cell? ⟨gb284, 0, none⟩ = some (.int .i64 (rd_T58 l0 ji16).f0) ∧ w'.cell? ⟨gb284, 1, none⟩ = some (.float .f32 (rd_T58 l0 ji16).f1) ∧ w'.cell? ⟨gb282, 0, none⟩ = some (.int .i64 (rd_T58 l0 x16_1).f0) ∧ w'.cell? ⟨gb282, 1, none⟩ = some (.float .f32 (rd_T58 l0 x16_1).f1) ∧ Drawn0 W0 w')
                  (first | ((try go_split_ands); refine ⟨?_, ?_, ?_, ?_, ?_⟩ <;> (first | assumption | exact Drawn0.refl _ | exact (Drawn0.refl _).step 1 | (refine Drawn0.step ?_ _; assumption) | go_keep)))
                  (first | (go_at_call 33; refine (cw1 _).mono ?_; rintro e w' ⟨rfl, ⟨nd, rfl⟩⟩) | (go_at_call 33; refine (cw2 _).mono ?_; rintro e w' ⟨rfl, ⟨nd, rfl⟩⟩))
                go_wp2
                go_ret2
                exact ⟨rfl, hb0.trans (((Drawn0.refl _).step _).below.mono hb0.size)⟩
               ·rw [if_neg c24] at H
                exact absurd H (by simp)
              ·rw [if_neg c23] at H
               exact absurd H (by simp)
             ·rw [if_neg c22] at H
              exact absurd H (by simp)
            ·rw [if_neg c21] at H
             exact absurd H (by simp)
           ·rw [if_neg c18] at H
            exact absurd H (by simp)
          ·rw [if_neg c17] at H
           exact absurd H (by simp)
        ·rw [if_neg c12] at H
         have c12b0 : decide (a1 < ((rd_T58 l0 x16_1).f0)) = false := decide_eq_false c12
         clear c12
         have H' := Aside0.mk H
         clear H
         have p281 : 0 ≤ (x16_1 : Int) := odx
         have q281 : x16_1 < (l0.length : Int) := odx
         obtain ⟨ad281, e281, hx281_0, hx281_1⟩ := at_T58 HR0.out x16_1 p281 q281
         cases e281
         replace hx281_0 := (HB.out.cell (World.block_lt_of_cell? w _ hx281_0)).trans hx281_0
         replace hx281_1 := (HB.out.cell (World.block_lt_of_cell? w _ hx281_1)).trans hx281_1
         replace p281 := eq_true p281
         replace q281 := eq_true q281
         go_wp2_with (first | ((with_reducible refine gate_dst (N := 7) rfl ?_); refine box_event ?hg (N := 7) ?hd (cs := #[.int .i64 0, .float .f32 (0 : Nat)]) (t := 58) ?hr ?_; (case hd => rfl); (case hg => rfl); (case hr => first | (go_simp; done) | (go_simp; rfl)); intro gb282 hg w31 hbox hb; have n0_ := Aside0.mk (below_step blx hb); have n1_ := Aside0.mk (hbox); have n2_ := Aside0.mk ((by rw [hg]; exact (below_size blx) : w.heap.size ≤ gb282)); have n3_ := Aside0.mk ((by rw [hg]; exact (below_size blx) : w.heap.size ≤ gb282)); clear HB; have HB := n0_; have BK282 := n1_; have GW282 := n2_; have GE282 := n3_; clear n0_ n1_ n2_ n3_; clear hb hbox hg; have hcz32_0 : w31.cell? ⟨gb282, 0, none⟩ = some (.int .i64 0) := (blk_cell BK282.out 0).trans rfl; have hcz32_1 : w31.cell? ⟨gb282, 1, none⟩ = some (.float .f32 (0 : Nat)) := (blk_cell BK282.out 1).trans rfl; have hfz32_0 := blk_frozen BK282.out 0; have hfz32_1 := blk_frozen BK282.out 1))
         repeat (go_quiet (first | ((with_reducible refine gate_dst (N := 7) rfl ?_); refine box_event ?hg (N := 7) ?hd (cs := #[.int .i64 0, .float .f32 (0 : Nat)]) (t := 58) ?hr ?_; (case hd => rfl); (case hg => rfl); (case hr => first | (go_simp; done) | (go_simp; rfl)); intro gb282 hg w31 hbox hb; have n0_ := Aside0.mk (below_step blx hb); have n1_ := Aside0.mk (hbox); have n2_ := Aside0.mk ((by rw [hg]; exact (below_size blx) : w.heap.size ≤ gb282)); have n3_ := Aside0.mk ((by rw [hg]; exact (below_size blx) : w.heap.size ≤ gb282)); clear HB; have HB := n0_; have BK282 := n1_; have GW282 := n2_; have GE282 := n3_; clear n0_ n1_ n2_ n3_; clear hb hbox hg; have hcz32_0 : w31.cell? ⟨gb282, 0, none⟩ = some (.int .i64 0) := (blk_cell BK282.out 0).trans rfl; have hcz32_1 : w31.cell? ⟨gb282, 1, none⟩ = some (.float .f32 (0 : Nat)) := (blk_cell BK282.out 1).trans rfl; have hfz32_0 := blk_frozen BK282.out 0; have hfz32_1 := blk_frozen BK282.out 1)); try go_wp2_with (first | ((with_reducible refine gate_dst (N := 7) rfl ?_); refine box_event ?hg (N := 7) ?hd (cs := #[.int .i64 0, .float .f32 (0 : Nat)]) (t := 58) ?hr ?_; (case hd => rfl); (case hg => rfl); (case hr => first | (go_simp; done) | (go_simp; rfl)); intro gb282 hg w31 hbox hb; have n0_ := Aside0.mk (below_step blx hb); have n1_ := Aside0.mk (hbox); have n2_ := Aside0.mk ((by rw [hg]; exact (below_size blx) : w.heap.size ≤ gb282)); have n3_ := Aside0.mk ((by rw [hg]; exact (below_size blx) : w.heap.size ≤ gb282)); clear HB; have HB := n0_; have BK282 := n1_; have GW282 := n2_; have GE282 := n3_; clear n0_ n1_ n2_ n3_; clear hb hbox hg; have hcz32_0 : w31.cell? ⟨gb282, 0, none⟩ = some (.int .i64 0) := (blk_cell BK282.out 0).trans rfl; have hcz32_1 : w31.cell? ⟨gb282, 1, none⟩ = some (.float .f32 (0 : Nat)) := (blk_cell BK282.out 1).trans rfl; have hfz32_0 := blk_frozen BK282.out 0; have hfz32_1 := blk_frozen BK282.out 1)))
         go_roundg k1
         case measure => have := HK1.out; omega
         case rel => exact ⟨(wrap64 (x16_1 + 1)), (by first | rfl | (simp; done) | (simp [*]; done)), H', ⟨by have := HK1.out; omega⟩, ⟨blx⟩⟩
      ·rw [if_neg c8] at H
       exact absurd H (by simp)
     ·rw [if_neg c7] at H
      exact absurd H (by simp)
    ·rw [if_neg c6] at H
     have c6b0 : decide (x16_1 < (l0.length : Int)) = false := decide_eq_false c6
     clear c6
     simp only [Option.some.injEq, Prod.mk.injEq] at H
     obtain ⟨rfl, rfl⟩ := H
     go_wp2
     repeat (go_quiet (fail); try go_wp2)
     go_ret2
     exact ⟨by first | rfl | (simp [errW_none, errW_some] <;> rfl) | (simp [*, errW_none, errW_some] <;> rfl), blx⟩
 ·replace c4 := Bool.eq_false_iff.mpr c4
  subst c4
  have H1 : (some ((0 : Nat), 172)) = some (r1, r2) := by rw [if_neg (show ¬ (false = true) by decide)] at H; exact H
  clear H
  have H := H1
  clear H1
  simp only [Option.some.injEq, Prod.mk.injEq] at H
  obtain ⟨rfl, rfl⟩ := H
  go_enter Try.func31, Try.ntmps31
  go_wp2_with (first | (go_at_call 48; (with_reducible refine (curve_ordered.calls k _ _ l0 false _ ?side1 ?side2 A3.out).mono ?_); (case side1 => repeat (first | exact HR0.out | (with_reducible refine Kd.C_alloc ?_ _) | (with_reducible refine Kd.C_drewN ?_ _) | (with_reducible refine Kd.C_drew ?_))); (case side2 => exact HC0.out); rintro e w33 ⟨rfl, hb⟩; have n0_ := Aside0.mk (below_step blx hb); clear HB; have HB := n0_; clear n0_; (try clear hb); (try clear hb2); (try clear hk); (try clear hi)))
  repeat (go_quiet (first | (go_at_call 48; (with_reducible refine (curve_ordered.calls k _ _ l0 false _ ?side1 ?side2 A3.out).mono ?_); (case side1 => repeat (first | exact HR0.out | (with_reducible refine Kd.C_alloc ?_ _) | (with_reducible refine Kd.C_drewN ?_ _) | (with_reducible refine Kd.C_drew ?_))); (case side2 => exact HC0.out); rintro e w33 ⟨rfl, hb⟩; have n0_ := Aside0.mk (below_step blx hb); clear HB; have HB := n0_; clear n0_; (try clear hb); (try clear hb2); (try clear hk); (try clear hi))); try go_wp2_with (first | (go_at_call 48; (with_reducible refine (curve_ordered.calls k _ _ l0 false _ ?side1 ?side2 A3.out).mono ?_); (case side1 => repeat (first | exact HR0.out | (with_reducible refine Kd.C_alloc ?_ _) | (with_reducible refine Kd.C_drewN ?_ _) | (with_reducible refine Kd.C_drew ?_))); (case side2 => exact HC0.out); rintro e w33 ⟨rfl, hb⟩; have n0_ := Aside0.mk (below_step blx hb); clear HB; have HB := n0_; clear n0_; (try clear hb); (try clear hb2); (try clear hk); (try clear hi))))
  go_ret2
  exact ⟨by first | rfl | (simp [errW_none, errW_some] <;> rfl) | (simp [*, errW_none, errW_some] <;> rfl), blx⟩
end Go.Proofs.Ytfhgomcfpmbhnaa.PS
end

section
namespace Go.Proofs.Ytfhgomcfpmbhnaa.F
open Go.RowKit Go.Proofs.Ytfhgomcfpmbhnaa.Y Go.Proofs.Ytfhgomcfpmbhnaa.PS Ieee
open Go.Proofs.YtfhgomcfpmbhnaaW.PrintWords Go.Proofs.YtfhgomcfpmbhnaaW.PrintMore
set_option linter.unusedVariables false
set_option linter.unusedSimpArgs false
theorem fk_of {x y r : Nat} : (single.add x y = some r → fk_add x y = true ∧ fl_add x y = r) ∧ (single.sub x y = some r → fk_sub x y = true ∧ fl_sub x y = r) ∧ (single.mul x y = some r → fk_mul x y = true ∧ fl_mul x y = r) ∧ (single.div x y = some r → fk_quo x y = true ∧ fl_quo x y = r) := by
  refine ⟨fun h => ?_, fun h => ?_, fun h => ?_, fun h => ?_⟩
  · exact ⟨by unfold fk_add; rw [h]; rfl, by unfold fl_add; rw [h]; rfl⟩
  · exact ⟨by unfold fk_sub; rw [h]; rfl, by unfold fl_sub; rw [h]; rfl⟩
  · exact ⟨by unfold fk_mul; rw [h]; rfl, by unfold fl_mul; rw [h]; rfl⟩
  · exact ⟨by unfold fk_quo; rw [h]; rfl, by unfold fl_quo; rw [h]; rfl⟩
theorem sub_ev {x y r : Nat} (hx : x < 4294967296) (hy : y < 4294967296) (h : single.sub x y = some r) : Ev (fun k => levyref17_Sub.f k (x : Int) (y : Int)) (r : Int) := by
  have e := sub_is x y hx hy
  rwa [h, orN_some] at e
theorem add_ev {x y r : Nat} (hx : x < 4294967296) (hy : y < 4294967296) (h : single.add x y = some r) : Ev (fun k => levyref17_Add.f k (x : Int) (y : Int)) (r : Int) := by
  have e := add_is x y hx hy
  rwa [h, orN_some] at e
theorem div_ev {x y r : Nat} (hx : x < 4294967296) (hy : y < 4294967296) (fy : y % 2147483648 < 2139095040) (hm : mX y ≠ 0) (h : single.div x y = some r) : Ev (fun k => levyref17_Div.f k (x : Int) (y : Int)) (r : Int) := by
  have e := div_is x y hx hy fy hm
  rwa [h, orN_some] at e
theorem mul_ev {x y r : Nat} (hx : x < 4294967296) (hy : y < 4294967296) (fx : x % 2147483648 < 2139095040) (fy : y % 2147483648 < 2139095040) (h : single.mul x y = some r) : levyref17_Mul.f (x : Int) (y : Int) = some (r : Int) := by
  have e := mul_is x y hx hy fx fy
  rwa [h, orN_some] at e
end Go.Proofs.Ytfhgomcfpmbhnaa.F
end

section
namespace Go.Proofs.Ytfhgomcfpmbhnaa.F
open Go.RowKit Go.Proofs.Ytfhgomcfpmbhnaa.Y Go.Proofs.Ytfhgomcfpmbhnaa.PS Ieee
open Go.Proofs.YtfhgomcfpmbhnaaW.PrintWords Go.Proofs.YtfhgomcfpmbhnaaW.PrintMore
set_option linter.unusedVariables false
set_option linter.unusedSimpArgs false
theorem bits_from (l : List S73) (hl : l.length < 8796093022208) : ∀ (n : Nat) (i : Nat), i + n = l.length → Ev (fun k => levylaw17_bits.l0 k l ((l.take i).map dB) (i : Int)) (l.map dB) := by
  intro n
  induction n with
  | zero =>
    intro i hi
    refine Ev.step (f := fun _ => some (l.map dB)) (fun k => ?_) (Ev.now _)
    rw [levylaw17_bits.l0, if_neg (by omega), List.take_of_length_le (by omega)]
  | succ n ih =>
    intro i hi
    refine Ev.step (fun k => ?_) (ih (i + 1) (by omega))
    have hlt : i < l.length := by omega
    have e1 : (l.take (i + 1)).map dB = (l.take i).map dB ++ [(⟨(rd_T73 l (i : Int)).f0, (rd_T73 l (i : Int)).f1⟩ : S38)] := by
      rw [List.take_add_one, List.map_append]
      unfold rd_T73
      rw [List.getD_eq_getElem?_getD, Int.toNat_natCast, List.getElem?_eq_getElem hlt]
      rfl
    rw [levylaw17_bits.l0, if_pos (by omega), if_pos (by omega), if_pos (by rw [List.length_map, List.length_take]; omega), e1, show wrap64 ((i : Int) + 1) = ((i + 1 : Nat) : Int) by unfold wrap64; omega]
end Go.Proofs.Ytfhgomcfpmbhnaa.F
end

section
namespace Go.Proofs.Ytfhgomcfpmbhnaa.Y
open Go.RowKit Go.Proofs.Ytfhgomcfpmbhnaa.PS Go.Proofs.Ytfhgomcfpmbhnaa.F Go.Proofs.YtfhgomcfpmbhnaaW.PrintWords Go.Proofs.YtfhgomcfpmbhnaaW.PrintMore Go.Proofs.YtfhgomcfpmbhnaaW.Fits
set_option linter.unusedVariables false
set_option maxRecDepth 100000
def TrueBelow (w : World) (e : Ending) (w' : World) : Prop := e = .returned (.bool true) ∧ Below w.heap.size w w'
end Go.Proofs.Ytfhgomcfpmbhnaa.Y
end

section
namespace Go.Proofs.Ytfhgomcfpmbhnaa.PS
open Go.RowKit Go.Proofs.YtfhgomcfpmbhnaaW.PrintWords Go.Proofs.YtfhgomcfpmbhnaaW.PrintLast Go.Proofs.YtfhgomcfpmbhnaaW.PrintMore
attribute [local go_sem] frun_add frun_sub frun_mul frun_quo frun_neg frun_of frun_same frun_store frun_bits frun_from
attribute [local go_sem] max2_int min2_int max_two min_two max_three min_three max_four min_four
set_option linter.unusedVariables false
set_option linter.unusedSimpArgs false
def curve_Rate.l0 : Nat → List (S58) → List (S58) → Int → Int → Option ((List (S58)))
 | 0, _, _, _, _ => none
 | k + 1, x3, x6, x7, x8 => if x8 < x7 then (if 0 ≤ x8 then (if x8 < (x6.length : Int) then (if ((rd_T58 x6 x8).f0) = 0 then (curve_Rate.l0 k x3 x6 x7 (wrap64 (x8 + 1))) else ((curve_finite.f ((rd_T58 x6 x8).f1)).bind fun t261 => (if t261 = true then ((curve_whole.f ((rd_T58 x6 x8).f0)).bind fun t262 => (if fk_quo ((rd_T58 x6 x8).f1) t262 = true then (if x3.length < 8796093022208 then (curve_Rate.l0 k (x3 ++ [(⟨(rd_T58 x6 x8).f0, fl_quo ((rd_T58 x6 x8).f1) t262⟩ : S58)]) x6 x7 (wrap64 (x8 + 1))) else (none)) else (none))) else (curve_Rate.l0 k x3 x6 x7 (wrap64 (x8 + 1)))))) else (none)) else (none)) else (some x3)
def curve_Rate.f (k : Nat) (l0 : List (S58)) : Option ((List (S58))) := curve_Rate.l0 k ([] : List (S58)) l0 (l0.length : Int) 0
theorem curve_Rate.mono_l : ∀ k, (∀ y0 y1 y2 y3, LeO (curve_Rate.l0 k y0 y1 y2 y3) (curve_Rate.l0 (k + 1) y0 y1 y2 y3))
 | 0 => fun _ _ _ _ r h => by simp [curve_Rate.l0] at h
 | k + 1 => by
  have ih0 := curve_Rate.mono_l k
  ·intro y0 y1 y2 y3
   unfold curve_Rate.l0
   repeat' first
   | (with_reducible exact ih0 _ _ _ _)
   | (with_reducible exact LeO.refl _)
   | (with_reducible exact LeO.none _)
   | (with_reducible refine LeO.ite ?_ ?_)
   | (with_reducible refine LeO.bind ?_ (fun _ => ?_))
   | exact ih0 _ _ _ _
   | exact LeO.none _
   | refine LeO.ite ?_ ?_
   | refine LeO.bind ?_ (fun _ => ?_)
theorem curve_Rate.mono : ∀ a0 k, LeO (curve_Rate.f k a0) (curve_Rate.f (k + 1) a0) := by
 intro a0 k
 have ih0 := curve_Rate.mono_l k
 unfold curve_Rate.f
 repeat' first
   | (with_reducible exact ih0 _ _ _ _)
   | (with_reducible exact LeO.refl _)
   | (with_reducible exact LeO.none _)
   | (with_reducible refine LeO.ite ?_ ?_)
   | (with_reducible refine LeO.bind ?_ (fun _ => ?_))
   | exact ih0 _ _ _ _
   | exact LeO.none _
   | refine LeO.ite ?_ ?_
   | refine LeO.bind ?_ (fun _ => ?_)
def curve_Rate.T6 : Bool × List (List Nat × List Nat) := (true, [([], []), ([], []), ([1], [1]), ([], []), ([3], [3]), ([], []), ([5], [5]), ([6], [6]), ([4, 7], [4, 7]), ([2, 8], [2, 8]), ([9], [9]), ([0, 10, 7], [0, 10]), ([11, 11, 0, 1, 2, 3, 4, 5, 6, 7, 8, 9, 10, 11], [0, 11])])
def curve_Rate.B6 : List Nat := [0, 0, 2, 0, 8, 0, 32, 96, 248, 510, 1022, 2047, 4095]
theorem curve_Rate.tab6 : rtab .any (opsOf Try.f30 6) = curve_Rate.T6 := by kernel_rfl
theorem curve_Rate.bits6 : waitsOk curve_Rate.T6.2 curve_Rate.B6 = true := by kernel_rfl
set_option maxHeartbeats 8000000 in
set_option maxRecDepth 100000 in
theorem curve_Rate.calls (k : Nat) (A0 : Option Addr) (c0 : Nat) (l0 : List (S58)) (r : List (S58)) (w : World) (hr0 : Kd.C k58 w A0 l0.length l0) (hc0 : l0.length ≤ c0) (h : curve_Rate.f k l0 = some r) :
  Calls Try.prog 30 #[.slice A0 l0.length c0] w fun e w' => ∃ v0_ : Value, e = .returned (v0_) ∧ Kd.R k58 58 w' w.heap.size (fun _ => True) v0_ r ∧ Below w.heap.size w w' := by
 have hu58 := Try.underlying58
 have HR0 := Aside0.mk hr0
 have HC0 := Aside0.mk hc0
 clear hr0 hc0
 have HB := Aside0.mk (Below.refl w.heap.size w)
 have H : (curve_Rate.l0 k ([] : List (S58)) l0 (l0.length : Int) 0) = some r := h
 clear h
 have H' := Aside0.mk H
 clear H
 go_enter Try.func30, Try.ntmps30
 go_wp2
 go_loopg [3, 8] k (fun kq v3 v8 w' => ∃ (x3_1 : List (S58)) (x8_1 : Int), v8 = .int .i64 x8_1 ∧ Aside0 (curve_Rate.l0 kq x3_1 l0 (l0.length : Int) x8_1 = some r) ∧ Aside0 (kq ≤ k) ∧ Aside0 (Kd.R k58 58 w' w.heap.size (fun _ => True) v3 x3_1) ∧ Aside0 (Below w.heap.size w w'))
 case atStart => exact ⟨(([] : List (S58))), (0), (by first | rfl | (simp; done) | (simp [*]; done)), H', ⟨Nat.le_refl _⟩, ⟨by first | exact Kd.R_nil _ _ _ _ _ | exact Kd.N_nil _ _ _ _ _ | exact Kd.V_nil _ _ _ _ _ | exact Kd.Q_nil _ _ _ _ _ | exact Kd.S_nil _ _ _ _ _⟩, ⟨blx⟩⟩
 case round =>
  clear H'
  obtain ⟨x3_1, x8_1, rfl, HA, HK1, HO_3, HB⟩ := hrel
  cases gk with
  | zero => exact absurd HA.out (by simp [curve_Rate.l0])
  | succ k1 =>
   have H := HA.out
   clear HA
   simp only [curve_Rate.l0] at H
   by_cases c2 : x8_1 < (l0.length : Int)
   ·rw [if_pos c2] at H
    have c2b0 : decide (x8_1 < (l0.length : Int)) = true := decide_eq_true c2
    clear c2
    by_cases c3 : 0 ≤ x8_1
    ·rw [if_pos c3] at H
     have c3b0 : decide (0 ≤ x8_1) = true := decide_eq_true c3
     clear c3
     by_cases c4 : x8_1 < (l0.length : Int)
     ·rw [if_pos c4] at H
      have c4b0 : decide (x8_1 < (l0.length : Int)) = true := decide_eq_true c4
      clear c4
      by_cases c5 : ((rd_T58 l0 x8_1).f0) = 0
      ·rw [if_pos c5] at H
       have c5b0 : (((rd_T58 l0 x8_1).f0) == 0) = true := beq_iff_eq.mpr c5
       have c5b1 : (((rd_T58 l0 x8_1).f0) != 0) = false := bne_eq_false_iff_eq.mpr c5
       clear c5
       have H' := Aside0.mk H
       clear H
       have p259 : 0 ≤ (x8_1 : Int) := odx
       have q259 : x8_1 < (l0.length : Int) := odx
       obtain ⟨ad259, e259, hx259_0, hx259_1⟩ := at_T58 HR0.out x8_1 p259 q259
       cases e259
       replace hx259_0 := (HB.out.cell (World.block_lt_of_cell? w _ hx259_0)).trans hx259_0
       replace hx259_1 := (HB.out.cell (World.block_lt_of_cell? w _ hx259_1)).trans hx259_1
       replace p259 := eq_true p259
       replace q259 := eq_true q259
       go_wp2_with (first | ((with_reducible refine gate_dst (N := 5) rfl ?_); refine box_event ?hg (N := 5) ?hd (cs := #[.int .i64 0, .float .f32 (0 : Nat)]) (t := 58) ?hr ?_; (case hd => rfl); (case hg => rfl); (case hr => first | (go_simp; done) | (go_simp; rfl)); intro gb260 hg w6 hbox hb; have n0_ := Aside0.mk (Kd.R_below (Kd.R_elderB (by (with_reducible repeat (first | apply Kd.R_alloc | apply Kd.R_drewN | apply Kd.R_drew)); exact HO_3.out) gb260 (Nat.le_of_eq hg.symm)) hb); have n1_ := Aside0.mk (below_step blx hb); have n2_ := Aside0.mk (hbox); have n3_ := Aside0.mk ((by rw [hg]; exact (below_size blx) : w.heap.size ≤ gb260)); have n4_ := Aside0.mk ((by rw [hg]; exact (below_size blx) : w.heap.size ≤ gb260)); clear HO_3; clear HB; have HO_3 := n0_; have HB := n1_; have BK260 := n2_; have GW260 := n3_; have GE260 := n4_; clear n0_ n1_ n2_ n3_ n4_; clear hb hbox hg; have hcz7_0 : w6.cell? ⟨gb260, 0, none⟩ = some (.int .i64 0) := (blk_cell BK260.out 0).trans rfl; have hcz7_1 : w6.cell? ⟨gb260, 1, none⟩ = some (.float .f32 (0 : Nat)) := (blk_cell BK260.out 1).trans rfl; have hfz7_0 := blk_frozen BK260.out 0; have hfz7_1 := blk_frozen BK260.out 1))
       go_roundg k1
       case measure => have := HK1.out; omega
       case rel => exact ⟨(x3_1), (wrap64 (x8_1 + 1)), (by first | rfl | (simp; done) | (simp [*]; done)), H', ⟨by have := HK1.out; omega⟩, ⟨by (with_reducible repeat (first | apply Kd.R_alloc | apply Kd.R_drewN | apply Kd.R_drew)); exact Kd.R_mono (Kd.R_far (p := ⟨gb260, 1, none⟩) (Kd.R_far (p := ⟨gb260, 0, none⟩) (Kd.R_mono HO_3.out (fun k_ hk => (⟨hk, hk.2⟩ : _ ∧ k_ ≠ gb260))) (fun _ hk => hk.2) (.int .i64 ((rd_T58 l0 x8_1).f0))) (fun _ hk => hk.2) (.float .f32 ((rd_T58 l0 x8_1).f1))) (fun _ hk => trivial)⟩, ⟨blx⟩⟩
      ·rw [if_neg c5] at H
       have c5b0 : (((rd_T58 l0 x8_1).f0) == 0) = false := beq_eq_false_iff_ne.mpr c5
       have c5b1 : (((rd_T58 l0 x8_1).f0) != 0) = true := bne_iff_ne.mpr c5
       replace H := Option.bind_eq_some_iff.mp H
       obtain ⟨t261, A80, H⟩ := H
       replace H : (if t261 = true then ((curve_whole.f ((rd_T58 l0 x8_1).f0)).bind fun t262 => (if fk_quo ((rd_T58 l0 x8_1).f1) t262 = true then (if x3_1.length < 8796093022208 then (curve_Rate.l0 k1 (x3_1 ++ [(⟨(rd_T58 l0 x8_1).f0, fl_quo ((rd_T58 l0 x8_1).f1) t262⟩ : S58)]) l0 (l0.length : Int) (wrap64 (x8_1 + 1))) else (none)) else (none))) else (curve_Rate.l0 k1 x3_1 l0 (l0.length : Int) (wrap64 (x8_1 + 1)))) = some r := H
       have A8 := Aside0.mk A80
       clear A80
       by_cases c9 : t261 = true
       ·subst c9
        have H1 : ((curve_whole.f ((rd_T58 l0 x8_1).f0)).bind fun t262 => (if fk_quo ((rd_T58 l0 x8_1).f1) t262 = true then (if x3_1.length < 8796093022208 then (curve_Rate.l0 k1 (x3_1 ++ [(⟨(rd_T58 l0 x8_1).f0, fl_quo ((rd_T58 l0 x8_1).f1) t262⟩ : S58)]) l0 (l0.length : Int) (wrap64 (x8_1 + 1))) else (none)) else (none))) = some r := by rw [if_pos rfl] at H; exact H
        clear H
        have H := H1
        clear H1
        replace H := Option.bind_eq_some_iff.mp H
        obtain ⟨t262, A100, H⟩ := H
        replace H : (if fk_quo ((rd_T58 l0 x8_1).f1) t262 = true then (if x3_1.length < 8796093022208 then (curve_Rate.l0 k1 (x3_1 ++ [(⟨(rd_T58 l0 x8_1).f0, fl_quo ((rd_T58 l0 x8_1).f1) t262⟩ : S58)]) l0 (l0.length : Int) (wrap64 (x8_1 + 1))) else (none)) else (none)) = some r := H
        have A10 := Aside0.mk A100
        clear A100
        by_cases c11 : fk_quo ((rd_T58 l0 x8_1).f1) t262 = true
        ·rw [if_pos c11] at H
         have c11b0 := eq_true c11
         have c11b1 : decide (fk_quo ((rd_T58 l0 x8_1).f1) t262 = true) = true := decide_eq_true c11
         clear c11
         by_cases c12 : x3_1.length < 8796093022208
         ·rw [if_pos c12] at H
          have LMc12 := Aside0.mk c12
          clear c12
          obtain ⟨y263, hy263⟩ : ∃ y_ : List (S58), y_ = (x3_1 ++ [(⟨(rd_T58 l0 x8_1).f0, fl_quo ((rd_T58 l0 x8_1).f1) t262⟩ : S58)]) := ⟨_, rfl⟩
          replace H : (curve_Rate.l0 k1 y263 l0 (l0.length : Int) (wrap64 (x8_1 + 1))) = some r := by first | (rw [hy263]; with_reducible exact H) | (have H2_ := (Option.bind_some _ _).symm.trans H; rw [hy263]; with_reducible exact H2_) | (have H2_ := (Option.bind_some _ _).symm.trans H; with_reducible exact H2_) | with_reducible exact H | (rw [hy263]; exact H) | exact H
          have Ny263 := Aside0.mk hy263
          clear hy263
          have H' := Aside0.mk H
          clear H
          have p259 : 0 ≤ (x8_1 : Int) := odx
          have q259 : x8_1 < (l0.length : Int) := odx
          obtain ⟨ad259, e259, hx259_0, hx259_1⟩ := at_T58 HR0.out x8_1 p259 q259
          cases e259
          replace hx259_0 := (HB.out.cell (World.block_lt_of_cell? w _ hx259_0)).trans hx259_0
          replace hx259_1 := (HB.out.cell (World.block_lt_of_cell? w _ hx259_1)).trans hx259_1
          replace p259 := eq_true p259
          replace q259 := eq_true q259
          try go_wp2_with (first | ((with_reducible refine gate_dst (N := 5) rfl ?_); refine box_event ?hg (N := 5) ?hd (cs := #[.int .i64 0, .float .f32 (0 : Nat)]) (t := 58) ?hr ?_; (case hd => rfl); (case hg => rfl); (case hr => first | (go_simp; done) | (go_simp; rfl)); intro gb260 hg w13 hbox hb; have n0_ := Aside0.mk (Kd.R_below (Kd.R_elderB (by (with_reducible repeat (first | apply Kd.R_alloc | apply Kd.R_drewN | apply Kd.R_drew)); exact HO_3.out) gb260 (Nat.le_of_eq hg.symm)) hb); have n1_ := Aside0.mk (below_step blx hb); have n2_ := Aside0.mk (hbox); have n3_ := Aside0.mk ((by rw [hg]; exact (below_size blx) : w.heap.size ≤ gb260)); have n4_ := Aside0.mk ((by rw [hg]; exact (below_size blx) : w.heap.size ≤ gb260)); clear HO_3; clear HB; have HO_3 := n0_; have HB := n1_; have BK260 := n2_; have GW260 := n3_; have GE260 := n4_; clear n0_ n1_ n2_ n3_ n4_; clear hb hbox hg; have hcz14_0 : w13.cell? ⟨gb260, 0, none⟩ = some (.int .i64 0) := (blk_cell BK260.out 0).trans rfl; have hcz14_1 : w13.cell? ⟨gb260, 1, none⟩ = some (.float .f32 (0 : Nat)) := (blk_cell BK260.out 1).trans rfl; have hfz14_0 := blk_frozen BK260.out 0; have hfz14_1 := blk_frozen BK260.out 1) | (go_at_call 50; (with_reducible refine (curve_finite.calls ((rd_T58 l0 x8_1).f1) true _ A8.out).mono ?_); rintro e w' ⟨rfl, ⟨nd, rfl⟩⟩))
          have n0_ : Aside0 (Kd.R k58 58 ((w13.setCell ⟨gb260, 0, none⟩ (.int .i64 ((rd_T58 l0 x8_1).f0))).setCell ⟨gb260, 1, none⟩ (.float .f32 ((rd_T58 l0 x8_1).f1))) w.heap.size (fun k_ => k_ ≠ gb260) u3 x3_1) := ⟨by (with_reducible repeat (first | apply Kd.R_alloc | apply Kd.R_drewN | apply Kd.R_drew)); exact Kd.R_mono (Kd.R_far (p := ⟨gb260, 1, none⟩) (Kd.R_far (p := ⟨gb260, 0, none⟩) (Kd.R_mono HO_3.out (fun k_ hk => (⟨hk, hk.2⟩ : _ ∧ k_ ≠ gb260))) (fun _ hk => hk.2) (.int .i64 ((rd_T58 l0 x8_1).f0))) (fun _ hk => hk.2) (.float .f32 ((rd_T58 l0 x8_1).f1))) (fun _ hk => hk.1.2)⟩
          have n1_ : Aside0 (((w13.setCell ⟨gb260, 0, none⟩ (.int .i64 ((rd_T58 l0 x8_1).f0))).setCell ⟨gb260, 1, none⟩ (.float .f32 ((rd_T58 l0 x8_1).f1))).heap[gb260]? = some (.cells #[.int .i64 ((rd_T58 l0 x8_1).f0), .float .f32 ((rd_T58 l0 x8_1).f1)] 58 (0, 0))) := ⟨by (with_reducible repeat (first | refine blk_drewN ?_ _ | refine blk_drew ?_ | refine blk_alloc ?_ _)); refine blk_put (cs := #[.int .i64 ((rd_T58 l0 x8_1).f0), .float .f32 (0 : Nat)]) ?_ 1 _ rfl; (with_reducible repeat (first | refine blk_drewN ?_ _ | refine blk_drew ?_ | refine blk_alloc ?_ _)); refine blk_put (cs := #[.int .i64 0, .float .f32 (0 : Nat)]) ?_ 0 _ rfl; (with_reducible repeat (first | refine blk_drewN ?_ _ | refine blk_drew ?_ | refine blk_alloc ?_ _)); exact BK260.out⟩
          have n2_ : Aside0 (Below w.heap.size w ((w13.setCell ⟨gb260, 0, none⟩ (.int .i64 ((rd_T58 l0 x8_1).f0))).setCell ⟨gb260, 1, none⟩ (.float .f32 ((rd_T58 l0 x8_1).f1)))) := ⟨blx⟩
          (try clear HO_3)
          (try clear BK260)
          (try clear HB)
          generalize ((w13.setCell ⟨gb260, 0, none⟩ (.int .i64 ((rd_T58 l0 x8_1).f0))).setCell ⟨gb260, 1, none⟩ (.float .f32 ((rd_T58 l0 x8_1).f1))) = w15 at n0_ n1_ n2_ ⊢
          have HO_3 := n0_
          have BK260 := n1_
          have HB := n2_
          clear n0_ n1_ n2_
          (try (rw [drewN_self w15]; generalize hq_ : World.drewN w15 _ = w15; have n0_ : Aside0 (Kd.R k58 58 w15 w.heap.size (fun k_ => k_ ≠ gb260) u3 x3_1) := ⟨by rw [← hq_]; exact (by (with_reducible repeat (first | apply Kd.R_alloc | apply Kd.R_drewN | apply Kd.R_drew)); exact HO_3.out)⟩; have n1_ : Aside0 (w15.heap[gb260]? = some (.cells #[.int .i64 ((rd_T58 l0 x8_1).f0), .float .f32 ((rd_T58 l0 x8_1).f1)] 58 (0, 0))) := ⟨by rw [← hq_]; exact bkx⟩; have n2_ : Aside0 (Below w.heap.size w w15) := ⟨by rw [← hq_]; exact blx⟩; clear HO_3 BK260 HB hq_; have HO_3 := n0_; have BK260 := n1_; have HB := n2_; clear n0_ n1_ n2_))
          have n0_ := Aside0.mk (Kd.R_drew HO_3.out)
          have n1_ := Aside0.mk (blk_drew BK260.out)
          have n2_ := Aside0.mk (below_drew1 HB.out)
          clear HO_3
          clear BK260
          clear HB
          have HO_3 := n0_
          have BK260 := n1_
          have HB := n2_
          clear n0_ n1_ n2_
          refine start_ (n := 13) (S := fun w' => w'.cell? ⟨gb260, 0, none⟩ = some (.int .i64 ((rd_T58 l0 x8_1).f0)) ∧ w'.cell? ⟨gb260, 1, none⟩ = some (.float .f32 ((rd_T58 l0 x8_1).f1))) (ds := []) #[false, false, false, false, false, false, false, false, false, false, false, false, false] (by kernel_rfl) rfl rfl ⟨(blk_cell BK260.out 0).trans rfl, (blk_cell BK260.out 1).trans rfl⟩ (fun hHeld => ?_); refine with_tabW curve_Rate.tab6 curve_Rate.bits6 (fun HT_ HW_ => ?_)
          generalize w15.drew = w16 at HO_3 BK260 HB hHeld ⊢
          refine pure_ (i := 0) (N := some 20) (v := ?_) (a' := ?_) #[true, false, false, false, false, false, false, false, false, false, false, false, false] rfl rfl (any_of HT_.out (by kernel_rfl)) (fun _ _ _ h => h) (Or.inl ⟨by rfl, ?_⟩) ?_ ?_
          rotate_left
          ·intro w'
           go_simp
           with_reducible rfl
          rotate_left
          ·simp only [Act.put, List.setIfInBounds_toArray, List.set_cons_zero, List.set_cons_succ, i64_w, i32_w]
           rfl
          refine pure_ (i := 1) (N := some 21) (v := ?_) (a' := ?_) #[true, true, false, false, false, false, false, false, false, false, false, false, false] rfl rfl (any_of HT_.out (by kernel_rfl)) (fun _ _ _ h => h) (Or.inl ⟨by rfl, ?_⟩) ?_ ?_
          rotate_left
          ·intro w'
           go_simp
           with_reducible rfl
          rotate_left
          ·simp only [Act.put, List.setIfInBounds_toArray, List.set_cons_zero, List.set_cons_succ, i64_w, i32_w]
           rfl
          refine pure_ (i := 3) (N := some 23) (v := ?_) (a' := ?_) #[true, true, false, true, false, false, false, false, false, false, false, false, false] rfl rfl (any_of HT_.out (by kernel_rfl)) (fun _ _ _ h => h) (Or.inl ⟨by rfl, ?_⟩) ?_ ?_
          rotate_left
          ·intro w'
           go_simp
           with_reducible rfl
          rotate_left
          ·simp only [Act.put, List.setIfInBounds_toArray, List.set_cons_zero, List.set_cons_succ, i64_w, i32_w]
           rfl
          refine pure_ (i := 5) (N := some 25) (v := ?_) (a' := ?_) #[true, true, false, true, false, true, false, false, false, false, false, false, false] rfl rfl (any_of HT_.out (by kernel_rfl)) (fun _ _ _ h => h) (Or.inl ⟨by rfl, ?_⟩) ?_ ?_
          rotate_left
          ·intro w'
           go_simp
           with_reducible rfl
          rotate_left
          ·simp only [Act.put, List.setIfInBounds_toArray, List.set_cons_zero, List.set_cons_succ, i64_w, i32_w]
           rfl
          refine take_ (i := 2) (N := some 22) (v := ?_) (a' := ?_) #[true, true, true, true, false, true, false, false, false, false, false, false, false] rfl rfl (take_ofW HT_.out HW_.out (by kernel_rfl)) (fun _ _ _ h => h) (Or.inl ⟨by rfl, ?_⟩) hHeld ?_ ?_
          rotate_left
          ·rintro w' ⟨s0, s1⟩
           go_simp
           with_reducible rfl
          rotate_left
          ·simp only [Act.put, List.setIfInBounds_toArray, List.set_cons_zero, List.set_cons_succ, i64_w, i32_w]
           rfl
          refine take_ (i := 4) (N := some 24) (v := ?_) (a' := ?_) #[true, true, true, true, true, true, false, false, false, false, false, false, false] rfl rfl (take_ofW HT_.out HW_.out (by kernel_rfl)) (fun _ _ _ h => h) (Or.inl ⟨by rfl, ?_⟩) hHeld ?_ ?_
          rotate_left
          ·rintro w' ⟨s0, s1⟩
           go_simp
           with_reducible rfl
          rotate_left
          ·simp only [Act.put, List.setIfInBounds_toArray, List.set_cons_zero, List.set_cons_succ, i64_w, i32_w]
           rfl
          refine take_ (i := 6) (N := some 26) (v := ?_) (a' := ?_) #[true, true, true, true, true, true, true, false, false, false, false, false, false] rfl rfl (take_ofW HT_.out HW_.out (by kernel_rfl)) (fun _ _ _ h => h) (Or.inl ⟨by rfl, ?_⟩) hHeld ?_ ?_
          rotate_left
          ·rintro w' ⟨s0, s1⟩
           go_simp
           with_reducible rfl
          rotate_left
          ·simp only [Act.put, List.setIfInBounds_toArray, List.set_cons_zero, List.set_cons_succ, i64_w, i32_w]
           rfl
          refine one_ (i := 7) (N := some 27) #[true, true, true, true, true, true, true, true, false, false, false, false, false] rfl rfl (one_of HT_.out (by kernel_rfl)) (by decide) (fun K hK => ?_)
          refine goes_ Try.func33 (by kernel_rfl) rfl #[.int .i64 ((rd_T58 l0 x8_1).f0)] (by rfl) rfl rfl agx ?_
          with_reducible refine (curve_whole.calls ((rd_T58 l0 x8_1).f0) t262 _ A10.out).mono ?_
          rintro e w' ⟨rfl, ⟨nd, rfl⟩⟩
          refine ⟨_, rfl, ?_⟩
          refine hK.out _ _ ⟨(blk_cell BK260.out 0).trans rfl, (blk_cell BK260.out 1).trans rfl⟩ (fun hHeld => ?_)
          clear hK K
          refine norm_ (a' := ?_) ?_ ?_
          rotate_left
          ·show Act.put _ (some 27) _ = _
           simp only [Act.put, List.setIfInBounds_toArray, List.set_cons_zero, List.set_cons_succ, i64_w, i32_w]
           rfl
          refine pure_ (i := 8) (N := some 28) (v := ?_) (a' := ?_) #[true, true, true, true, true, true, true, true, true, false, false, false, false] rfl rfl (any_of HT_.out (by kernel_rfl)) (fun _ _ _ h => h) (Or.inl ⟨by rfl, ?_⟩) ?_ ?_
          rotate_left
          ·intro w'
           go_simp
           with_reducible rfl
          rotate_left
          ·simp only [Act.put, List.setIfInBounds_toArray, List.set_cons_zero, List.set_cons_succ, i64_w, i32_w]
           rfl
          refine pure_ (i := 9) (N := some 29) (v := ?_) (a' := ?_) #[true, true, true, true, true, true, true, true, true, true, false, false, false] rfl rfl (any_of HT_.out (by kernel_rfl)) (fun _ _ _ h => h) (Or.inl ⟨by rfl, ?_⟩) ?_ ?_
          rotate_left
          ·intro w'
           go_simp
           with_reducible rfl
          rotate_left
          ·simp only [Act.put, List.setIfInBounds_toArray, List.set_cons_zero, List.set_cons_succ, i64_w, i32_w]
           rfl
          refine one_ (i := 10) (N := some 30) #[true, true, true, true, true, true, true, true, true, true, true, false, false] rfl rfl (one_of HT_.out (by kernel_rfl)) (by decide) (fun K hK => ?_)
          refine value_ (w1 := ?_) (v := ?_) (by rfl) rfl ?_ ?_
          rotate_left 2
          ·go_simp
           constructor
           ·rfl
           ·rfl
          refine hK.out _ _ ⟨(blk_cell (blk_alloc BK260.out _) 0).trans rfl, (blk_cell (blk_alloc BK260.out _) 1).trans rfl⟩ (fun hHeld => ?_)
          clear hK K
          refine norm_ (a' := ?_) ?_ ?_
          rotate_left
          ·show Act.put _ (some 30) _ = _
           simp only [Act.put, List.setIfInBounds_toArray, List.set_cons_zero, List.set_cons_succ, i64_w, i32_w]
           rfl
          refine one_ (i := 11) (N := some 31) #[true, true, true, true, true, true, true, true, true, true, true, true, false] rfl rfl (one_of HT_.out (by kernel_rfl)) (by decide) (fun K hK => ?_)
          refine Kd.R_append_step k58 (w0 := w) w.heap.size (by rfl) (.tmp 20) (.tmp 30) 31 58 (.agg #[(.int .i64 0), (.float .f32 0)]) 16 rfl Try.underlying31 info58 rfl (by decide) (by omega) u3 x3_1 (⟨(rd_T58 l0 x8_1).f0, fl_quo ((rd_T58 l0 x8_1).f1) t262⟩ : S58) [.int .i64 ((rd_T58 l0 x8_1).f0), .float .f32 (fl_quo ((rd_T58 l0 x8_1).f1) t262)] (fun k_ => k_ ≠ gb260) (fun _ => False) rfl rfl ?aP (fun _ hk => hk.elim) ?aF ?aO ?aB ?aS ?aL ?_
          (case aP => exact k58_mkM _ _ _ (⟨(rd_T58 l0 x8_1).f0, fl_quo ((rd_T58 l0 x8_1).f1) t262⟩ : S58))
          (case aB => exact blx)
          (case aF => exact (fun k_ hk => Kd.freshB (g := gb260) (o := .cells #[.int .i64 ((rd_T58 l0 x8_1).f0), .float .f32 ((rd_T58 l0 x8_1).f1)] 58 (0, 0)) bkx k_ hk))
          (case aO => exact (by (with_reducible repeat (first | apply Kd.R_alloc | apply Kd.R_drewN | apply Kd.R_drew)); exact HO_3.out))
          (case aS => exact (below_size blx))
          (case aL => have := LMc12.out; omega)
          intro v264 w17 ho hb hg hat
          rw [← Ny263.out] at ho
          have n0_ := Aside0.mk (blk_grown (g := gb260) (o := .cells #[.int .i64 ((rd_T58 l0 x8_1).f0), .float .f32 ((rd_T58 l0 x8_1).f1)] 58 (0, 0)) bkx hg (Kd.R_away HO_3.out (fun _ hk => hk)))
          have n1_ := Aside0.mk (hb)
          have n2_ := Aside0.mk (ho)
          clear BK260
          clear HB
          clear HO_3
          have BK260 := n0_
          have HB := n1_
          have HO265 := n2_
          clear n0_ n1_ n2_
          clear ho hb hg hat
          refine hK.out _ _ ⟨(blk_cell BK260.out 0).trans rfl, (blk_cell BK260.out 1).trans rfl⟩ (fun hHeld => ?_)
          clear hK K
          refine norm_ (a' := ?_) ?_ ?_
          rotate_left
          ·show Act.put _ (some 31) _ = _
           simp only [Act.put, List.setIfInBounds_toArray, List.set_cons_zero, List.set_cons_succ, i64_w, i32_w]
           rfl
          refine pure_ (i := 12) (N := some 3) (v := ?_) (a' := ?_) #[true, true, true, true, true, true, true, true, true, true, true, true, true] rfl rfl (any_of HT_.out (by kernel_rfl)) (fun _ _ _ h => h) (Or.inl ⟨by rfl, ?_⟩) ?_ ?_
          rotate_left
          ·intro w'
           go_simp
           with_reducible rfl
          rotate_left
          ·simp only [Act.put, List.setIfInBounds_toArray, List.set_cons_zero, List.set_cons_succ, i64_w, i32_w]
           rfl
          refine done_ (done_of HT_.out (by kernel_rfl)) ?_
          try go_wp2
          go_roundg k1
          case measure => have := HK1.out; omega
          case rel => exact ⟨(y263), (wrap64 (x8_1 + 1)), (by first | rfl | (simp; done) | (simp [*]; done)), H', ⟨by have := HK1.out; omega⟩, ⟨by (with_reducible repeat (first | apply Kd.R_alloc | apply Kd.R_drewN | apply Kd.R_drew)); exact Kd.R_mono HO265.out (fun _ hk => trivial)⟩, ⟨blx⟩⟩
         ·rw [if_neg c12] at H
          exact absurd H (by simp)
        ·rw [if_neg c11] at H
         exact absurd H (by simp)
       ·replace c9 := Bool.eq_false_iff.mpr c9
        subst c9
        have H1 : (curve_Rate.l0 k1 x3_1 l0 (l0.length : Int) (wrap64 (x8_1 + 1))) = some r := by rw [if_neg (show ¬ (false = true) by decide)] at H; exact H
        clear H
        have H := H1
        clear H1
        have H' := Aside0.mk H
        clear H
        have p259 : 0 ≤ (x8_1 : Int) := odx
        have q259 : x8_1 < (l0.length : Int) := odx
        obtain ⟨ad259, e259, hx259_0, hx259_1⟩ := at_T58 HR0.out x8_1 p259 q259
        cases e259
        replace hx259_0 := (HB.out.cell (World.block_lt_of_cell? w _ hx259_0)).trans hx259_0
        replace hx259_1 := (HB.out.cell (World.block_lt_of_cell? w _ hx259_1)).trans hx259_1
        replace p259 := eq_true p259
        replace q259 := eq_true q259
        go_wp2_with (first | ((with_reducible refine gate_dst (N := 5) rfl ?_); refine box_event ?hg (N := 5) ?hd (cs := #[.int .i64 0, .float .f32 (0 : Nat)]) (t := 58) ?hr ?_; (case hd => rfl); (case hg => rfl); (case hr => first | (go_simp; done) | (go_simp; rfl)); intro gb260 hg w18 hbox hb; have n0_ := Aside0.mk (Kd.R_below (Kd.R_elderB (by (with_reducible repeat (first | apply Kd.R_alloc | apply Kd.R_drewN | apply Kd.R_drew)); exact HO_3.out) gb260 (Nat.le_of_eq hg.symm)) hb); have n1_ := Aside0.mk (below_step blx hb); have n2_ := Aside0.mk (hbox); have n3_ := Aside0.mk ((by rw [hg]; exact (below_size blx) : w.heap.size ≤ gb260)); have n4_ := Aside0.mk ((by rw [hg]; exact (below_size blx) : w.heap.size ≤ gb260)); clear HO_3; clear HB; have HO_3 := n0_; have HB := n1_; have BK260 := n2_; have GW260 := n3_; have GE260 := n4_; clear n0_ n1_ n2_ n3_ n4_; clear hb hbox hg; have hcz19_0 : w18.cell? ⟨gb260, 0, none⟩ = some (.int .i64 0) := (blk_cell BK260.out 0).trans rfl; have hcz19_1 : w18.cell? ⟨gb260, 1, none⟩ = some (.float .f32 (0 : Nat)) := (blk_cell BK260.out 1).trans rfl; have hfz19_0 := blk_frozen BK260.out 0; have hfz19_1 := blk_frozen BK260.out 1) | (go_at_call 50; (with_reducible refine (curve_finite.calls ((rd_T58 l0 x8_1).f1) false _ A8.out).mono ?_); rintro e w' ⟨rfl, ⟨nd, rfl⟩⟩))
        go_roundg k1
        case measure => have := HK1.out; omega
        case rel => exact ⟨(x3_1), (wrap64 (x8_1 + 1)), (by first | rfl | (simp; done) | (simp [*]; done)), H', ⟨by have := HK1.out; omega⟩, ⟨by (with_reducible repeat (first | apply Kd.R_alloc | apply Kd.R_drewN | apply Kd.R_drew)); exact Kd.R_mono (Kd.R_far (p := ⟨gb260, 1, none⟩) (Kd.R_far (p := ⟨gb260, 0, none⟩) (Kd.R_mono HO_3.out (fun k_ hk => (⟨hk, hk.2⟩ : _ ∧ k_ ≠ gb260))) (fun _ hk => hk.2) (.int .i64 ((rd_T58 l0 x8_1).f0))) (fun _ hk => hk.2) (.float .f32 ((rd_T58 l0 x8_1).f1))) (fun _ hk => trivial)⟩, ⟨blx⟩⟩
     ·rw [if_neg c4] at H
      exact absurd H (by simp)
    ·rw [if_neg c3] at H
     exact absurd H (by simp)
   ·rw [if_neg c2] at H
    have c2b0 : decide (x8_1 < (l0.length : Int)) = false := decide_eq_false c2
    clear c2
    obtain rfl := Option.some.inj H
    go_wp2
    go_ret
    exact ⟨_, by first | rfl | (simp [errW_none, errW_some] <;> rfl) | (simp [*, errW_none, errW_some] <;> rfl), by (with_reducible repeat (first | apply Kd.R_alloc | apply Kd.R_drewN | apply Kd.R_drew)); exact HO_3.out, blx⟩
end Go.Proofs.Ytfhgomcfpmbhnaa.PS
end

section
namespace Go.Proofs.Ytfhgomcfpmbhnaa.PS
open Go.RowKit Go.Proofs.YtfhgomcfpmbhnaaW.PrintWords Go.Proofs.YtfhgomcfpmbhnaaW.PrintLast Go.Proofs.YtfhgomcfpmbhnaaW.PrintMore
attribute [local go_sem] frun_add frun_sub frun_mul frun_quo frun_neg frun_of frun_same frun_store frun_bits frun_from
attribute [local go_sem] max2_int min2_int max_two min_two max_three min_three max_four min_four
set_option linter.unusedVariables false
set_option linter.unusedSimpArgs false
def curve_Slope.l0 : Nat → List (S58) → List (S58) → Int → Option ((List (S58)) × Int)
 | 0, _, _, _ => none
 | k + 1, x0, x4, x5 => if x5 < (x0.length : Int) then (if 0 ≤ x5 then (if 0 ≤ (wrap64 (x5 - 1)) then (if (wrap64 (x5 - 1)) < (x0.length : Int) then (if fk_sub ((rd_T58 x0 x5).f1) ((rd_T58 x0 (wrap64 (x5 - 1))).f1) = true then ((curve_whole.f (wrap64 (((rd_T58 x0 x5).f0) - ((rd_T58 x0 (wrap64 (x5 - 1))).f0)))).bind fun t276 => (if fk_quo (fl_sub ((rd_T58 x0 x5).f1) ((rd_T58 x0 (wrap64 (x5 - 1))).f1)) t276 = true then (if x4.length < 8796093022208 then (curve_Slope.l0 k x0 (x4 ++ [(⟨(rd_T58 x0 (wrap64 (x5 - 1))).f0, fl_quo (fl_sub ((rd_T58 x0 x5).f1) ((rd_T58 x0 (wrap64 (x5 - 1))).f1)) t276⟩ : S58)]) (wrap64 (x5 + 1))) else (none)) else (none))) else (none)) else (none)) else (none)) else (none)) else (some (x4, 0))
def curve_Slope.f (k : Nat) (l0 : List (S58)) : Option ((List (S58)) × Int) := (curve_ordered.f k l0).bind fun t270 => (if t270 = true then (curve_Slope.l0 k l0 ([] : List (S58)) 1) else (some (([] : List (S58)), 172)))
theorem curve_Slope.mono_l : ∀ k, (∀ y0 y1 y2, LeO (curve_Slope.l0 k y0 y1 y2) (curve_Slope.l0 (k + 1) y0 y1 y2))
 | 0 => fun _ _ _ r h => by simp [curve_Slope.l0] at h
 | k + 1 => by
  have ih0 := curve_Slope.mono_l k
  ·intro y0 y1 y2
   unfold curve_Slope.l0
   repeat' first
   | (with_reducible exact ih0 _ _ _)
   | (with_reducible exact curve_ordered.mono _ _)
   | (with_reducible exact LeO.refl _)
   | (with_reducible exact LeO.none _)
   | (with_reducible refine LeO.ite ?_ ?_)
   | (with_reducible refine LeO.bind ?_ (fun _ => ?_))
   | exact ih0 _ _ _
   | exact curve_ordered.mono _ _
   | exact LeO.none _
   | refine LeO.ite ?_ ?_
   | refine LeO.bind ?_ (fun _ => ?_)
theorem curve_Slope.mono : ∀ a0 k, LeO (curve_Slope.f k a0) (curve_Slope.f (k + 1) a0) := by
 intro a0 k
 have ih0 := curve_Slope.mono_l k
 unfold curve_Slope.f
 repeat' first
   | (with_reducible exact ih0 _ _ _)
   | (with_reducible exact curve_ordered.mono _ _)
   | (with_reducible exact LeO.refl _)
   | (with_reducible exact LeO.none _)
   | (with_reducible refine LeO.ite ?_ ?_)
   | (with_reducible refine LeO.bind ?_ (fun _ => ?_))
   | exact ih0 _ _ _
   | exact curve_ordered.mono _ _
   | exact LeO.none _
   | refine LeO.ite ?_ ?_
   | refine LeO.bind ?_ (fun _ => ?_)
def curve_Slope.T7 : Bool × List (List Nat × List Nat) := (true, [([], []), ([], []), ([0, 1], [0, 1]), ([2], [2]), ([3], [3]), ([], []), ([], []), ([6], [6]), ([5, 7], [5, 7]), ([8], [8]), ([9], [9]), ([4, 10], [4, 10]), ([11, 0, 1, 2, 3, 4, 5, 6, 7, 8, 9, 10, 11], [11])])
def curve_Slope.B7 : List Nat := [0, 0, 3, 7, 15, 0, 0, 64, 224, 480, 992, 2047, 4095]
theorem curve_Slope.tab7 : rtab .any (opsOf Try.f29 7) = curve_Slope.T7 := by kernel_rfl
theorem curve_Slope.bits7 : waitsOk curve_Slope.T7.2 curve_Slope.B7 = true := by kernel_rfl
def curve_Slope.T8 : Bool × List (List Nat × List Nat) := (true, [([], []), ([], []), ([], []), ([2], [2]), ([1, 3], [1, 3]), ([4], [4]), ([5], [5]), ([], []), ([], []), ([], []), ([8, 9], [8, 9]), ([10], [10]), ([11], [11]), ([], []), ([], []), ([14], [14]), ([13, 15], [13, 15]), ([16], [16]), ([17], [17]), ([12, 18], [12, 18]), ([19], [19]), ([7, 20], [7, 20]), ([6, 21], [6, 21]), ([22], [22]), ([0, 23, 20], [0, 23]), ([24, 24, 0, 1, 2, 3, 4, 5, 6, 7, 8, 9, 10, 11, 12, 13, 14, 15, 16, 17, 18, 19, 20, 21, 22, 23, 24], [0, 24])])
def curve_Slope.B8 : List Nat := [0, 0, 0, 4, 14, 30, 62, 0, 0, 0, 768, 1792, 3840, 0, 0, 16384, 57344, 122880, 253952, 524032, 1048320, 2097024, 4194302, 8388606, 16777215, 33554431]
theorem curve_Slope.tab8 : rtab .any (opsOf Try.f29 8) = curve_Slope.T8 := by kernel_rfl
theorem curve_Slope.bits8 : waitsOk curve_Slope.T8.2 curve_Slope.B8 = true := by kernel_rfl
set_option maxHeartbeats 8000000 in
set_option maxRecDepth 100000 in
theorem curve_Slope.calls (k : Nat) (A0 : Option Addr) (c0 : Nat) (l0 : List (S58)) (r1 : List (S58)) (r2 : Int) (w : World) (hr0 : Kd.C k58 w A0 l0.length l0) (hc0 : l0.length ≤ c0) (h : curve_Slope.f k l0 = some (r1, r2)) :
  Calls Try.prog 29 #[.slice A0 l0.length c0] w fun e w' => ∃ v0_ : Value, e = .returned (.tuple #[v0_, .int .i64 r2]) ∧ Kd.R k58 58 w' w.heap.size (fun _ => True) v0_ r1 ∧ Below w.heap.size w w' := by
 have hu58 := Try.underlying58
 have HR0 := Aside0.mk hr0
 have HC0 := Aside0.mk hc0
 clear hr0 hc0
 have HB := Aside0.mk (Below.refl w.heap.size w)
 have H : ((curve_ordered.f k l0).bind fun t270 => (if t270 = true then (curve_Slope.l0 k l0 ([] : List (S58)) 1) else (some (([] : List (S58)), 172)))) = some (r1, r2) := h
 clear h
 replace H := Option.bind_eq_some_iff.mp H
 obtain ⟨t270, A20, H⟩ := H
 replace H : (if t270 = true then (curve_Slope.l0 k l0 ([] : List (S58)) 1) else (some (([] : List (S58)), 172))) = some (r1, r2) := H
 have A2 := Aside0.mk A20
 clear A20
 by_cases c3 : t270 = true
 ·subst c3
  have H1 : (curve_Slope.l0 k l0 ([] : List (S58)) 1) = some (r1, r2) := by rw [if_pos rfl] at H; exact H
  clear H
  have H := H1
  clear H1
  have H' := Aside0.mk H
  clear H
  go_enter Try.func29, Try.ntmps29
  go_wp2_with (first | ((with_reducible refine gate_callee (f := 48) rfl ?_); refine goesL_ (some 8) rfl rfl Try.func48 (by kernel_rfl) rfl #[.slice A0 l0.length c0] rfl agx ?_; (with_reducible refine (curve_ordered.calls k _ _ l0 true _ ?side1 ?side2 A2.out).mono ?_); (case side1 => repeat (first | exact HR0.out | (with_reducible refine Kd.C_alloc ?_ _) | (with_reducible refine Kd.C_drewN ?_ _) | (with_reducible refine Kd.C_drew ?_))); (case side2 => exact HC0.out); rintro e w4 ⟨rfl, hb⟩; refine ⟨_, rfl, ?_⟩; have n0_ := Aside0.mk (below_step blx hb); clear HB; have HB := n0_; clear n0_; (try clear hb); (try clear hb2); (try clear hk); (try clear hi)))
  go_loopg [4, 5] k (fun kq v4 v5 w' => ∃ (x4_1 : List (S58)) (x5_1 : Int), v5 = .int .i64 x5_1 ∧ Aside0 (curve_Slope.l0 kq l0 x4_1 x5_1 = some (r1, r2)) ∧ Aside0 (kq ≤ k) ∧ Aside0 (Kd.R k58 58 w' w.heap.size (fun _ => True) v4 x4_1) ∧ Aside0 (Below w.heap.size w w'))
  case atStart => exact ⟨(([] : List (S58))), (1), (by first | rfl | (simp; done) | (simp [*]; done)), H', ⟨Nat.le_refl _⟩, ⟨by first | exact Kd.R_nil _ _ _ _ _ | exact Kd.N_nil _ _ _ _ _ | exact Kd.V_nil _ _ _ _ _ | exact Kd.Q_nil _ _ _ _ _ | exact Kd.S_nil _ _ _ _ _⟩, ⟨blx⟩⟩
  case round =>
   clear H'
   try clear c2
   try clear p2
   try clear c3
   try clear c4
   obtain ⟨x4_1, x5_1, rfl, HA, HK1, HO_4, HB⟩ := hrel
   cases gk with
   | zero => exact absurd HA.out (by simp [curve_Slope.l0])
   | succ k1 =>
    have H := HA.out
    clear HA
    simp only [curve_Slope.l0] at H
    by_cases c5 : x5_1 < (l0.length : Int)
    ·rw [if_pos c5] at H
     have c5b0 : decide (x5_1 < (l0.length : Int)) = true := decide_eq_true c5
     clear c5
     by_cases c6 : 0 ≤ x5_1
     ·rw [if_pos c6] at H
      have c6b0 : decide (0 ≤ x5_1) = true := decide_eq_true c6
      clear c6
      obtain ⟨ji7, hji7⟩ : ∃ j_ : Int, (wrap64 (x5_1 - 1)) = j_ := ⟨_, rfl⟩
      replace H : (if 0 ≤ (ji7) then (if (ji7) < (l0.length : Int) then (if fk_sub ((rd_T58 l0 x5_1).f1) ((rd_T58 l0 (ji7)).f1) = true then ((curve_whole.f (wrap64 (((rd_T58 l0 x5_1).f0) - ((rd_T58 l0 (ji7)).f0)))).bind fun t276 => (if fk_quo (fl_sub ((rd_T58 l0 x5_1).f1) ((rd_T58 l0 (ji7)).f1)) t276 = true then (if x4_1.length < 8796093022208 then (curve_Slope.l0 k1 l0 (x4_1 ++ [(⟨(rd_T58 l0 (ji7)).f0, fl_quo (fl_sub ((rd_T58 l0 x5_1).f1) ((rd_T58 l0 (ji7)).f1)) t276⟩ : S58)]) (wrap64 (x5_1 + 1))) else (none)) else (none))) else (none)) else (none)) else (none)) = some (r1, r2) := by first | (rw [hji7] at H; exact H) | (simp only [hji7] at H ⊢; exact H)
      have hji7w : (IntKind.i64.wrap (x5_1 - 1)) = ji7 := (i64_w _).trans hji7
      by_cases c8 : 0 ≤ (ji7)
      ·rw [if_pos c8] at H
       have c8b0 : decide (0 ≤ (ji7)) = true := decide_eq_true c8
       clear c8
       by_cases c9 : (ji7) < (l0.length : Int)
       ·rw [if_pos c9] at H
        have c9b0 : decide ((ji7) < (l0.length : Int)) = true := decide_eq_true c9
        clear c9
        by_cases c10 : fk_sub ((rd_T58 l0 x5_1).f1) ((rd_T58 l0 (ji7)).f1) = true
        ·rw [if_pos c10] at H
         have c10b0 := eq_true c10
         have c10b1 : decide (fk_sub ((rd_T58 l0 x5_1).f1) ((rd_T58 l0 (ji7)).f1) = true) = true := decide_eq_true c10
         clear c10
         replace H := Option.bind_eq_some_iff.mp H
         obtain ⟨t276, A110, H⟩ := H
         replace H : (if fk_quo (fl_sub ((rd_T58 l0 x5_1).f1) ((rd_T58 l0 (ji7)).f1)) t276 = true then (if x4_1.length < 8796093022208 then (curve_Slope.l0 k1 l0 (x4_1 ++ [(⟨(rd_T58 l0 (ji7)).f0, fl_quo (fl_sub ((rd_T58 l0 x5_1).f1) ((rd_T58 l0 (ji7)).f1)) t276⟩ : S58)]) (wrap64 (x5_1 + 1))) else (none)) else (none)) = some (r1, r2) := H
         have A11 := Aside0.mk A110
         clear A110
         by_cases c12 : fk_quo (fl_sub ((rd_T58 l0 x5_1).f1) ((rd_T58 l0 (ji7)).f1)) t276 = true
         ·rw [if_pos c12] at H
          have c12b0 := eq_true c12
          have c12b1 : decide (fk_quo (fl_sub ((rd_T58 l0 x5_1).f1) ((rd_T58 l0 (ji7)).f1)) t276 = true) = true := decide_eq_true c12
          clear c12
          by_cases c13 : x4_1.length < 8796093022208
          ·rw [if_pos c13] at H
           have LMc13 := Aside0.mk c13
           clear c13
           obtain ⟨y277, hy277⟩ : ∃ y_ : List (S58), y_ = (x4_1 ++ [(⟨(rd_T58 l0 (ji7)).f0, fl_quo (fl_sub ((rd_T58 l0 x5_1).f1) ((rd_T58 l0 (ji7)).f1)) t276⟩ : S58)]) := ⟨_, rfl⟩
           replace H : (curve_Slope.l0 k1 l0 y277 (wrap64 (x5_1 + 1))) = some (r1, r2) := by first | (rw [hy277]; with_reducible exact H) | (have H2_ := (Option.bind_some _ _).symm.trans H; rw [hy277]; with_reducible exact H2_) | (have H2_ := (Option.bind_some _ _).symm.trans H; with_reducible exact H2_) | with_reducible exact H | (rw [hy277]; exact H) | exact H
           have Ny277 := Aside0.mk hy277
           clear hy277
           have H' := Aside0.mk H
           clear H
           try go_wp2
           have n0_ := Aside0.mk (Kd.R_drew HO_4.out)
           have n1_ := Aside0.mk (below_drew1 HB.out)
           clear HO_4
           clear HB
           have HO_4 := n0_
           have HB := n1_
           clear n0_ n1_
           have p271 : 0 ≤ (x5_1 : Int) := odx
           have q271 : x5_1 < (l0.length : Int) := odx
           obtain ⟨ad271, e271, hx271_0, hx271_1⟩ := at_T58 HR0.out x5_1 p271 q271
           have hw271_1 := hx271_1
           have hw271_0 := hx271_0
           cases e271
           replace hx271_0 := (HB.out.cell (World.block_lt_of_cell? w _ hx271_0)).trans hx271_0
           replace hx271_1 := (HB.out.cell (World.block_lt_of_cell? w _ hx271_1)).trans hx271_1
           replace p271 := eq_true p271
           replace q271 := eq_true q271
           have p272 : 0 ≤ ((ji7) : Int) := odx
           have q272 : (ji7) < (l0.length : Int) := odx
           obtain ⟨ad272, e272, hx272_0, hx272_1⟩ := at_T58 HR0.out (ji7) p272 q272
           have hw272_1 := hx272_1
           have hw272_0 := hx272_0
           obtain rfl : ad271 = ad272 := (by injection e272)
           replace hx272_0 := (HB.out.cell (World.block_lt_of_cell? w _ hx272_0)).trans hx272_0
           replace hx272_1 := (HB.out.cell (World.block_lt_of_cell? w _ hx272_1)).trans hx272_1
           replace p272 := eq_true p272
           replace q272 := eq_true q272
           refine start_ (n := 13) (S := fun w' => w'.cell? (ad271.add ((x5_1).toNat * 2)) = some (.int .i64 ((rd_T58 l0 x5_1).f0)) ∧ w'.cell? ⟨(ad271.add ((x5_1).toNat * 2)).block, (ad271.add ((x5_1).toNat * 2)).off + 1, none⟩ = some (.float .f32 ((rd_T58 l0 x5_1).f1)) ∧ w'.cell? (ad271.add (((ji7)).toNat * 2)) = some (.int .i64 ((rd_T58 l0 (ji7)).f0)) ∧ w'.cell? ⟨(ad271.add (((ji7)).toNat * 2)).block, (ad271.add (((ji7)).toNat * 2)).off + 1, none⟩ = some (.float .f32 ((rd_T58 l0 (ji7)).f1))) (ds := []) #[false, false, false, false, false, false, false, false, false, false, false, false, false] (by kernel_rfl) rfl rfl ⟨((HB.out.cell (World.block_lt_of_cell? w _ hw271_0)).trans hw271_0), ((HB.out.cell (World.block_lt_of_cell? w _ hw271_1)).trans hw271_1), ((HB.out.cell (World.block_lt_of_cell? w _ hw272_0)).trans hw272_0), ((HB.out.cell (World.block_lt_of_cell? w _ hw272_1)).trans hw272_1)⟩ (fun hHeld => ?_); refine with_tabW curve_Slope.tab7 curve_Slope.bits7 (fun HT_ HW_ => ?_)
           generalize wr.drew = w14 at HO_4 HB hx271_0 hx271_1 hx272_0 hx272_1 hHeld ⊢
           refine pure_ (i := 0) (N := some 16) (v := ?_) (a' := ?_) #[true, false, false, false, false, false, false, false, false, false, false, false, false] rfl rfl (any_of HT_.out (by kernel_rfl)) (fun _ _ _ h => h) (Or.inl ⟨by rfl, ?_⟩) ?_ ?_
           rotate_left
           ·intro w'
            go_simp
            with_reducible rfl
           rotate_left
           ·simp only [Act.put, List.setIfInBounds_toArray, List.set_cons_zero, List.set_cons_succ, i64_w, i32_w]
            rfl
           refine pure_ (i := 1) (N := some 17) (v := ?_) (a' := ?_) #[true, true, false, false, false, false, false, false, false, false, false, false, false] rfl rfl (any_of HT_.out (by kernel_rfl)) (fun _ _ _ h => h) (Or.inl ⟨by rfl, ?_⟩) ?_ ?_
           rotate_left
           ·intro w'
            go_simp
            with_reducible rfl
           rotate_left
           ·simp only [Act.put, List.setIfInBounds_toArray, List.set_cons_zero, List.set_cons_succ, i64_w, i32_w]
            rfl
           refine pure_ (i := 2) (N := some 18) (v := ?_) (a' := ?_) #[true, true, true, false, false, false, false, false, false, false, false, false, false] rfl rfl (any_of HT_.out (by kernel_rfl)) (fun _ _ _ h => h) (Or.inl ⟨by rfl, ?_⟩) ?_ ?_
           rotate_left
           ·intro w'
            go_simp
            with_reducible rfl
           rotate_left
           ·simp only [Act.put, List.setIfInBounds_toArray, List.set_cons_zero, List.set_cons_succ, i64_w, i32_w]
            rfl
           refine pure_ (i := 3) (N := some 19) (v := ?_) (a' := ?_) #[true, true, true, true, false, false, false, false, false, false, false, false, false] rfl rfl (any_of HT_.out (by kernel_rfl)) (fun _ _ _ h => h) (Or.inl ⟨by rfl, ?_⟩) ?_ ?_
           rotate_left
           ·intro w'
            go_simp
            with_reducible rfl
           rotate_left
           ·simp only [Act.put, List.setIfInBounds_toArray, List.set_cons_zero, List.set_cons_succ, i64_w, i32_w]
            rfl
           refine pure_ (i := 5) (N := some 21) (v := ?_) (a' := ?_) #[true, true, true, true, false, true, false, false, false, false, false, false, false] rfl rfl (any_of HT_.out (by kernel_rfl)) (fun _ _ _ h => h) (Or.inl ⟨by rfl, ?_⟩) ?_ ?_
           rotate_left
           ·intro w'
            go_simp
            with_reducible rfl
           rotate_left
           ·simp only [Act.put, List.setIfInBounds_toArray, List.set_cons_zero, List.set_cons_succ, i64_w, i32_w]
            rfl
           refine pure_ (i := 6) (N := some 22) (v := ?_) (a' := ?_) #[true, true, true, true, false, true, true, false, false, false, false, false, false] rfl rfl (any_of HT_.out (by kernel_rfl)) (fun _ _ _ h => h) (Or.inl ⟨by rfl, ?_⟩) ?_ ?_
           rotate_left
           ·intro w'
            go_simp
            with_reducible rfl
           rotate_left
           ·simp only [Act.put, List.setIfInBounds_toArray, List.set_cons_zero, List.set_cons_succ, i64_w, i32_w]
            rfl
           refine pure_ (i := 7) (N := some 23) (v := ?_) (a' := ?_) #[true, true, true, true, false, true, true, true, false, false, false, false, false] rfl rfl (any_of HT_.out (by kernel_rfl)) (fun _ _ _ h => h) (Or.inl ⟨by rfl, ?_⟩) ?_ ?_
           rotate_left
           ·intro w'
            go_simp
            with_reducible rfl
           rotate_left
           ·simp only [Act.put, List.setIfInBounds_toArray, List.set_cons_zero, List.set_cons_succ, i64_w, i32_w]
            rfl
           refine pure_ (i := 8) (N := some 24) (v := ?_) (a' := ?_) #[true, true, true, true, false, true, true, true, true, false, false, false, false] rfl rfl (any_of HT_.out (by kernel_rfl)) (fun _ _ _ h => h) (Or.inl ⟨by rfl, ?_⟩) ?_ ?_
           rotate_left
           ·intro w'
            go_simp
            with_reducible rfl
           rotate_left
           ·simp only [Act.put, List.setIfInBounds_toArray, List.set_cons_zero, List.set_cons_succ, i64_w, i32_w]
            rfl
           refine pure_ (i := 9) (N := some 25) (v := ?_) (a' := ?_) #[true, true, true, true, false, true, true, true, true, true, false, false, false] rfl rfl (any_of HT_.out (by kernel_rfl)) (fun _ _ _ h => h) (Or.inl ⟨by rfl, ?_⟩) ?_ ?_
           rotate_left
           ·intro w'
            go_simp
            with_reducible rfl
           rotate_left
           ·simp only [Act.put, List.setIfInBounds_toArray, List.set_cons_zero, List.set_cons_succ, i64_w, i32_w]
            rfl
           refine take_ (i := 4) (N := some 20) (v := ?_) (a' := ?_) #[true, true, true, true, true, true, true, true, true, true, false, false, false] rfl rfl (take_ofW HT_.out HW_.out (by kernel_rfl)) (fun _ _ _ h => h) (Or.inl ⟨by rfl, ?_⟩) hHeld ?_ ?_
           rotate_left
           ·rintro w' ⟨s0, s1, s2, s3⟩
            go_simp
            with_reducible rfl
           rotate_left
           ·simp only [Act.put, List.setIfInBounds_toArray, List.set_cons_zero, List.set_cons_succ, i64_w, i32_w]
            rfl
           refine take_ (i := 10) (N := some 26) (v := ?_) (a' := ?_) #[true, true, true, true, true, true, true, true, true, true, true, false, false] rfl rfl (take_ofW HT_.out HW_.out (by kernel_rfl)) (fun _ _ _ h => h) (Or.inl ⟨by rfl, ?_⟩) hHeld ?_ ?_
           rotate_left
           ·rintro w' ⟨s0, s1, s2, s3⟩
            go_simp
            with_reducible rfl
           rotate_left
           ·simp only [Act.put, List.setIfInBounds_toArray, List.set_cons_zero, List.set_cons_succ, i64_w, i32_w]
            rfl
           refine pure_ (i := 11) (N := some 27) (v := ?_) (a' := ?_) #[true, true, true, true, true, true, true, true, true, true, true, true, false] rfl rfl (any_of HT_.out (by kernel_rfl)) (fun _ _ _ h => h) (Or.inl ⟨by rfl, ?_⟩) ?_ ?_
           rotate_left
           ·intro w'
            go_simp
            with_reducible rfl
           rotate_left
           ·simp only [Act.put, List.setIfInBounds_toArray, List.set_cons_zero, List.set_cons_succ, i64_w, i32_w]
            rfl
           refine pure_ (i := 12) (N := some 6) (v := ?_) (a' := ?_) #[true, true, true, true, true, true, true, true, true, true, true, true, true] rfl rfl (any_of HT_.out (by kernel_rfl)) (fun _ _ _ h => h) (Or.inl ⟨by rfl, ?_⟩) ?_ ?_
           rotate_left
           ·intro w'
            go_simp
            with_reducible rfl
           rotate_left
           ·simp only [Act.put, List.setIfInBounds_toArray, List.set_cons_zero, List.set_cons_succ, i64_w, i32_w]
            rfl
           refine done_ (done_of HT_.out (by kernel_rfl)) ?_
           try go_wp2
           have n0_ := Aside0.mk (Kd.R_drew HO_4.out)
           have n1_ := Aside0.mk (below_drew1 HB.out)
           clear HO_4
           clear HB
           have HO_4 := n0_
           have HB := n1_
           clear n0_ n1_
           have p273 : 0 ≤ ((ji7) : Int) := odx
           have q273 : (ji7) < (l0.length : Int) := odx
           obtain ⟨ad273, e273, hx273_0, hx273_1⟩ := at_T58 HR0.out (ji7) p273 q273
           have hw273_1 := hx273_1
           have hw273_0 := hx273_0
           obtain rfl : ad271 = ad273 := (by injection e273)
           replace hx273_0 := (HB.out.cell (World.block_lt_of_cell? w _ hx273_0)).trans hx273_0
           replace hx273_1 := (HB.out.cell (World.block_lt_of_cell? w _ hx273_1)).trans hx273_1
           replace p273 := eq_true p273
           replace q273 := eq_true q273
           have p274 : 0 ≤ (x5_1 : Int) := odx
           have q274 : x5_1 < (l0.length : Int) := odx
           obtain ⟨ad274, e274, hx274_0, hx274_1⟩ := at_T58 HR0.out x5_1 p274 q274
           have hw274_1 := hx274_1
           have hw274_0 := hx274_0
           obtain rfl : ad271 = ad274 := (by injection e274)
           replace hx274_0 := (HB.out.cell (World.block_lt_of_cell? w _ hx274_0)).trans hx274_0
           replace hx274_1 := (HB.out.cell (World.block_lt_of_cell? w _ hx274_1)).trans hx274_1
           replace p274 := eq_true p274
           replace q274 := eq_true q274
           have p275 : 0 ≤ ((ji7) : Int) := odx
           have q275 : (ji7) < (l0.length : Int) := odx
           obtain ⟨ad275, e275, hx275_0, hx275_1⟩ := at_T58 HR0.out (ji7) p275 q275
           have hw275_1 := hx275_1
           have hw275_0 := hx275_0
           obtain rfl : ad271 = ad275 := (by injection e275)
           replace hx275_0 := (HB.out.cell (World.block_lt_of_cell? w _ hx275_0)).trans hx275_0
           replace hx275_1 := (HB.out.cell (World.block_lt_of_cell? w _ hx275_1)).trans hx275_1
           replace p275 := eq_true p275
           replace q275 := eq_true q275
           refine start_ (n := 26) (S := fun w' => w'.cell? (ad271.add (((ji7)).toNat * 2)) = some (.int .i64 ((rd_T58 l0 (ji7)).f0)) ∧ w'.cell? ⟨(ad271.add (((ji7)).toNat * 2)).block, (ad271.add (((ji7)).toNat * 2)).off + 1, none⟩ = some (.float .f32 ((rd_T58 l0 (ji7)).f1)) ∧ w'.cell? (ad271.add ((x5_1).toNat * 2)) = some (.int .i64 ((rd_T58 l0 x5_1).f0)) ∧ w'.cell? ⟨(ad271.add ((x5_1).toNat * 2)).block, (ad271.add ((x5_1).toNat * 2)).off + 1, none⟩ = some (.float .f32 ((rd_T58 l0 x5_1).f1)) ∧ w'.cell? (ad271.add (((ji7)).toNat * 2)) = some (.int .i64 ((rd_T58 l0 (ji7)).f0)) ∧ w'.cell? ⟨(ad271.add (((ji7)).toNat * 2)).block, (ad271.add (((ji7)).toNat * 2)).off + 1, none⟩ = some (.float .f32 ((rd_T58 l0 (ji7)).f1))) (ds := []) #[false, false, false, false, false, false, false, false, false, false, false, false, false, false, false, false, false, false, false, false, false, false, false, false, false, false] (by kernel_rfl) rfl rfl ⟨((HB.out.cell (World.block_lt_of_cell? w _ hw273_0)).trans hw273_0), ((HB.out.cell (World.block_lt_of_cell? w _ hw273_1)).trans hw273_1), ((HB.out.cell (World.block_lt_of_cell? w _ hw274_0)).trans hw274_0), ((HB.out.cell (World.block_lt_of_cell? w _ hw274_1)).trans hw274_1), ((HB.out.cell (World.block_lt_of_cell? w _ hw275_0)).trans hw275_0), ((HB.out.cell (World.block_lt_of_cell? w _ hw275_1)).trans hw275_1)⟩ (fun hHeld => ?_); refine with_tabW curve_Slope.tab8 curve_Slope.bits8 (fun HT_ HW_ => ?_)
           generalize w14.drew = w15 at HO_4 HB hx273_0 hx273_1 hx274_0 hx274_1 hx275_0 hx275_1 hHeld ⊢
           refine pure_ (i := 0) (N := some 28) (v := ?_) (a' := ?_) #[true, false, false, false, false, false, false, false, false, false, false, false, false, false, false, false, false, false, false, false, false, false, false, false, false, false] rfl rfl (any_of HT_.out (by kernel_rfl)) (fun _ _ _ h => h) (Or.inl ⟨by rfl, ?_⟩) ?_ ?_
           rotate_left
           ·intro w'
            go_simp
            with_reducible rfl
           rotate_left
           ·simp only [Act.put, List.setIfInBounds_toArray, List.set_cons_zero, List.set_cons_succ, i64_w, i32_w]
            rfl
           refine pure_ (i := 1) (N := some 29) (v := ?_) (a' := ?_) #[true, true, false, false, false, false, false, false, false, false, false, false, false, false, false, false, false, false, false, false, false, false, false, false, false, false] rfl rfl (any_of HT_.out (by kernel_rfl)) (fun _ _ _ h => h) (Or.inl ⟨by rfl, ?_⟩) ?_ ?_
           rotate_left
           ·intro w'
            go_simp
            with_reducible rfl
           rotate_left
           ·simp only [Act.put, List.setIfInBounds_toArray, List.set_cons_zero, List.set_cons_succ, i64_w, i32_w]
            rfl
           refine pure_ (i := 2) (N := some 30) (v := ?_) (a' := ?_) #[true, true, true, false, false, false, false, false, false, false, false, false, false, false, false, false, false, false, false, false, false, false, false, false, false, false] rfl rfl (any_of HT_.out (by kernel_rfl)) (fun _ _ _ h => h) (Or.inl ⟨by rfl, ?_⟩) ?_ ?_
           rotate_left
           ·intro w'
            go_simp
            with_reducible rfl
           rotate_left
           ·simp only [Act.put, List.setIfInBounds_toArray, List.set_cons_zero, List.set_cons_succ, i64_w, i32_w]
            rfl
           refine pure_ (i := 3) (N := some 31) (v := ?_) (a' := ?_) #[true, true, true, true, false, false, false, false, false, false, false, false, false, false, false, false, false, false, false, false, false, false, false, false, false, false] rfl rfl (any_of HT_.out (by kernel_rfl)) (fun _ _ _ h => h) (Or.inl ⟨by rfl, ?_⟩) ?_ ?_
           rotate_left
           ·intro w'
            go_simp
            with_reducible rfl
           rotate_left
           ·simp only [Act.put, List.setIfInBounds_toArray, List.set_cons_zero, List.set_cons_succ, i64_w, i32_w]
            rfl
           refine pure_ (i := 4) (N := some 32) (v := ?_) (a' := ?_) #[true, true, true, true, true, false, false, false, false, false, false, false, false, false, false, false, false, false, false, false, false, false, false, false, false, false] rfl rfl (any_of HT_.out (by kernel_rfl)) (fun _ _ _ h => h) (Or.inl ⟨by rfl, ?_⟩) ?_ ?_
           rotate_left
           ·intro w'
            go_simp
            with_reducible rfl
           rotate_left
           ·simp only [Act.put, List.setIfInBounds_toArray, List.set_cons_zero, List.set_cons_succ, i64_w, i32_w]
            rfl
           refine pure_ (i := 5) (N := some 33) (v := ?_) (a' := ?_) #[true, true, true, true, true, true, false, false, false, false, false, false, false, false, false, false, false, false, false, false, false, false, false, false, false, false] rfl rfl (any_of HT_.out (by kernel_rfl)) (fun _ _ _ h => h) (Or.inl ⟨by rfl, ?_⟩) ?_ ?_
           rotate_left
           ·intro w'
            go_simp
            with_reducible rfl
           rotate_left
           ·simp only [Act.put, List.setIfInBounds_toArray, List.set_cons_zero, List.set_cons_succ, i64_w, i32_w]
            rfl
           refine pure_ (i := 7) (N := some 35) (v := ?_) (a' := ?_) #[true, true, true, true, true, true, false, true, false, false, false, false, false, false, false, false, false, false, false, false, false, false, false, false, false, false] rfl rfl (any_of HT_.out (by kernel_rfl)) (fun _ _ _ h => h) (Or.inl ⟨by rfl, ?_⟩) ?_ ?_
           rotate_left
           ·intro w'
            go_simp
            with_reducible rfl
           rotate_left
           ·simp only [Act.put, List.setIfInBounds_toArray, List.set_cons_zero, List.set_cons_succ, i64_w, i32_w]
            rfl
           refine pure_ (i := 8) (N := some 36) (v := ?_) (a' := ?_) #[true, true, true, true, true, true, false, true, true, false, false, false, false, false, false, false, false, false, false, false, false, false, false, false, false, false] rfl rfl (any_of HT_.out (by kernel_rfl)) (fun _ _ _ h => h) (Or.inl ⟨by rfl, ?_⟩) ?_ ?_
           rotate_left
           ·intro w'
            go_simp
            with_reducible rfl
           rotate_left
           ·simp only [Act.put, List.setIfInBounds_toArray, List.set_cons_zero, List.set_cons_succ, i64_w, i32_w]
            rfl
           refine pure_ (i := 9) (N := some 37) (v := ?_) (a' := ?_) #[true, true, true, true, true, true, false, true, true, true, false, false, false, false, false, false, false, false, false, false, false, false, false, false, false, false] rfl rfl (any_of HT_.out (by kernel_rfl)) (fun _ _ _ h => h) (Or.inl ⟨by rfl, ?_⟩) ?_ ?_
           rotate_left
           ·intro w'
            go_simp
            with_reducible rfl
           rotate_left
           ·simp only [Act.put, List.setIfInBounds_toArray, List.set_cons_zero, List.set_cons_succ, i64_w, i32_w]
            rfl
           refine pure_ (i := 10) (N := some 38) (v := ?_) (a' := ?_) #[true, true, true, true, true, true, false, true, true, true, true, false, false, false, false, false, false, false, false, false, false, false, false, false, false, false] rfl rfl (any_of HT_.out (by kernel_rfl)) (fun _ _ _ h => h) (Or.inl ⟨by rfl, ?_⟩) ?_ ?_
           rotate_left
           ·intro w'
            go_simp
            with_reducible rfl
           rotate_left
           ·simp only [Act.put, List.setIfInBounds_toArray, List.set_cons_zero, List.set_cons_succ, i64_w, i32_w]
            rfl
           refine pure_ (i := 11) (N := some 39) (v := ?_) (a' := ?_) #[true, true, true, true, true, true, false, true, true, true, true, true, false, false, false, false, false, false, false, false, false, false, false, false, false, false] rfl rfl (any_of HT_.out (by kernel_rfl)) (fun _ _ _ h => h) (Or.inl ⟨by rfl, ?_⟩) ?_ ?_
           rotate_left
           ·intro w'
            go_simp
            with_reducible rfl
           rotate_left
           ·simp only [Act.put, List.setIfInBounds_toArray, List.set_cons_zero, List.set_cons_succ, i64_w, i32_w]
            rfl
           refine pure_ (i := 13) (N := some 41) (v := ?_) (a' := ?_) #[true, true, true, true, true, true, false, true, true, true, true, true, false, true, false, false, false, false, false, false, false, false, false, false, false, false] rfl rfl (any_of HT_.out (by kernel_rfl)) (fun _ _ _ h => h) (Or.inl ⟨by rfl, ?_⟩) ?_ ?_
           rotate_left
           ·intro w'
            go_simp
            with_reducible rfl
           rotate_left
           ·simp only [Act.put, List.setIfInBounds_toArray, List.set_cons_zero, List.set_cons_succ, i64_w, i32_w]
            rfl
           refine pure_ (i := 14) (N := some 42) (v := ?_) (a' := ?_) #[true, true, true, true, true, true, false, true, true, true, true, true, false, true, true, false, false, false, false, false, false, false, false, false, false, false] rfl rfl (any_of HT_.out (by kernel_rfl)) (fun _ _ _ h => h) (Or.inl ⟨by rfl, ?_⟩) ?_ ?_
           rotate_left
           ·intro w'
            go_simp
            with_reducible rfl
           rotate_left
           ·simp only [Act.put, List.setIfInBounds_toArray, List.set_cons_zero, List.set_cons_succ, i64_w, i32_w]
            rfl
           refine pure_ (i := 15) (N := some 43) (v := ?_) (a' := ?_) #[true, true, true, true, true, true, false, true, true, true, true, true, false, true, true, true, false, false, false, false, false, false, false, false, false, false] rfl rfl (any_of HT_.out (by kernel_rfl)) (fun _ _ _ h => h) (Or.inl ⟨by rfl, ?_⟩) ?_ ?_
           rotate_left
           ·intro w'
            go_simp
            with_reducible rfl
           rotate_left
           ·simp only [Act.put, List.setIfInBounds_toArray, List.set_cons_zero, List.set_cons_succ, i64_w, i32_w]
            rfl
           refine pure_ (i := 16) (N := some 44) (v := ?_) (a' := ?_) #[true, true, true, true, true, true, false, true, true, true, true, true, false, true, true, true, true, false, false, false, false, false, false, false, false, false] rfl rfl (any_of HT_.out (by kernel_rfl)) (fun _ _ _ h => h) (Or.inl ⟨by rfl, ?_⟩) ?_ ?_
           rotate_left
           ·intro w'
            go_simp
            with_reducible rfl
           rotate_left
           ·simp only [Act.put, List.setIfInBounds_toArray, List.set_cons_zero, List.set_cons_succ, i64_w, i32_w]
            rfl
           refine pure_ (i := 17) (N := some 45) (v := ?_) (a' := ?_) #[true, true, true, true, true, true, false, true, true, true, true, true, false, true, true, true, true, true, false, false, false, false, false, false, false, false] rfl rfl (any_of HT_.out (by kernel_rfl)) (fun _ _ _ h => h) (Or.inl ⟨by rfl, ?_⟩) ?_ ?_
           rotate_left
           ·intro w'
            go_simp
            with_reducible rfl
           rotate_left
           ·simp only [Act.put, List.setIfInBounds_toArray, List.set_cons_zero, List.set_cons_succ, i64_w, i32_w]
            rfl
           refine take_ (i := 6) (N := some 34) (v := ?_) (a' := ?_) #[true, true, true, true, true, true, true, true, true, true, true, true, false, true, true, true, true, true, false, false, false, false, false, false, false, false] rfl rfl (take_ofW HT_.out HW_.out (by kernel_rfl)) (fun _ _ _ h => h) (Or.inl ⟨by rfl, ?_⟩) hHeld ?_ ?_
           rotate_left
           ·rintro w' ⟨s0, s1, s2, s3, s4, s5⟩
            go_simp
            with_reducible rfl
           rotate_left
           ·simp only [Act.put, List.setIfInBounds_toArray, List.set_cons_zero, List.set_cons_succ, i64_w, i32_w]
            rfl
           refine take_ (i := 12) (N := some 40) (v := ?_) (a' := ?_) #[true, true, true, true, true, true, true, true, true, true, true, true, true, true, true, true, true, true, false, false, false, false, false, false, false, false] rfl rfl (take_ofW HT_.out HW_.out (by kernel_rfl)) (fun _ _ _ h => h) (Or.inl ⟨by rfl, ?_⟩) hHeld ?_ ?_
           rotate_left
           ·rintro w' ⟨s0, s1, s2, s3, s4, s5⟩
            go_simp
            with_reducible rfl
           rotate_left
           ·simp only [Act.put, List.setIfInBounds_toArray, List.set_cons_zero, List.set_cons_succ, i64_w, i32_w]
            rfl
           refine take_ (i := 18) (N := some 46) (v := ?_) (a' := ?_) #[true, true, true, true, true, true, true, true, true, true, true, true, true, true, true, true, true, true, true, false, false, false, false, false, false, false] rfl rfl (take_ofW HT_.out HW_.out (by kernel_rfl)) (fun _ _ _ h => h) (Or.inl ⟨by rfl, ?_⟩) hHeld ?_ ?_
           rotate_left
           ·rintro w' ⟨s0, s1, s2, s3, s4, s5⟩
            go_simp
            with_reducible rfl
           rotate_left
           ·simp only [Act.put, List.setIfInBounds_toArray, List.set_cons_zero, List.set_cons_succ, i64_w, i32_w]
            rfl
           refine pure_ (i := 19) (N := some 47) (v := ?_) (a' := ?_) #[true, true, true, true, true, true, true, true, true, true, true, true, true, true, true, true, true, true, true, true, false, false, false, false, false, false] rfl rfl (any_of HT_.out (by kernel_rfl)) (fun _ _ _ h => h) (Or.inl ⟨by rfl, ?_⟩) ?_ ?_
           rotate_left
           ·intro w'
            go_simp
            with_reducible rfl
           rotate_left
           ·simp only [Act.put, List.setIfInBounds_toArray, List.set_cons_zero, List.set_cons_succ, i64_w, i32_w]
            rfl
           refine one_ (i := 20) (N := some 48) #[true, true, true, true, true, true, true, true, true, true, true, true, true, true, true, true, true, true, true, true, true, false, false, false, false, false] rfl rfl (one_of HT_.out (by kernel_rfl)) (by decide) (fun K hK => ?_)
           refine goes_ Try.func33 (by kernel_rfl) rfl #[.int .i64 (wrap64 (((rd_T58 l0 x5_1).f0) - ((rd_T58 l0 (ji7)).f0)))] (by rfl) rfl rfl (by (try simp only [List.map_toArray, List.map_cons, List.map_nil]); first | done | (simp only [hji7]; rfl) | rfl | (simp only [List.length_drop, List.length_take]; rfl)) ?_
           with_reducible refine (curve_whole.calls (wrap64 (((rd_T58 l0 x5_1).f0) - ((rd_T58 l0 (ji7)).f0))) t276 _ A11.out).mono ?_
           rintro e w' ⟨rfl, ⟨nd, rfl⟩⟩
           refine ⟨_, rfl, ?_⟩
           refine hK.out _ _ ⟨((HB.out.cell (World.block_lt_of_cell? w _ hw273_0)).trans hw273_0), ((HB.out.cell (World.block_lt_of_cell? w _ hw273_1)).trans hw273_1), ((HB.out.cell (World.block_lt_of_cell? w _ hw274_0)).trans hw274_0), ((HB.out.cell (World.block_lt_of_cell? w _ hw274_1)).trans hw274_1), ((HB.out.cell (World.block_lt_of_cell? w _ hw275_0)).trans hw275_0), ((HB.out.cell (World.block_lt_of_cell? w _ hw275_1)).trans hw275_1)⟩ (fun hHeld => ?_)
           clear hK K
           refine norm_ (a' := ?_) ?_ ?_
           rotate_left
           ·show Act.put _ (some 48) _ = _
            simp only [Act.put, List.setIfInBounds_toArray, List.set_cons_zero, List.set_cons_succ, i64_w, i32_w]
            rfl
           refine pure_ (i := 21) (N := some 49) (v := ?_) (a' := ?_) #[true, true, true, true, true, true, true, true, true, true, true, true, true, true, true, true, true, true, true, true, true, true, false, false, false, false] rfl rfl (any_of HT_.out (by kernel_rfl)) (fun _ _ _ h => h) (Or.inl ⟨by rfl, ?_⟩) ?_ ?_
           rotate_left
           ·intro w'
            go_simp
            with_reducible rfl
           rotate_left
           ·simp only [Act.put, List.setIfInBounds_toArray, List.set_cons_zero, List.set_cons_succ, i64_w, i32_w]
            rfl
           refine pure_ (i := 22) (N := some 50) (v := ?_) (a' := ?_) #[true, true, true, true, true, true, true, true, true, true, true, true, true, true, true, true, true, true, true, true, true, true, true, false, false, false] rfl rfl (any_of HT_.out (by kernel_rfl)) (fun _ _ _ h => h) (Or.inl ⟨by rfl, ?_⟩) ?_ ?_
           rotate_left
           ·intro w'
            go_simp
            with_reducible rfl
           rotate_left
           ·simp only [Act.put, List.setIfInBounds_toArray, List.set_cons_zero, List.set_cons_succ, i64_w, i32_w]
            rfl
           refine one_ (i := 23) (N := some 51) #[true, true, true, true, true, true, true, true, true, true, true, true, true, true, true, true, true, true, true, true, true, true, true, true, false, false] rfl rfl (one_of HT_.out (by kernel_rfl)) (by decide) (fun K hK => ?_)
           refine value_ (w1 := ?_) (v := ?_) (by rfl) rfl ?_ ?_
           rotate_left 2
           ·go_simp
            constructor
            ·rfl
            ·rfl
           refine hK.out _ _ ⟨(World.cell?_alloc_lt _ _ _ (World.block_lt_of_cell? _ _ (((HB.out.cell (World.block_lt_of_cell? w _ hw273_0)).trans hw273_0)))).trans (((HB.out.cell (World.block_lt_of_cell? w _ hw273_0)).trans hw273_0)), (World.cell?_alloc_lt _ _ _ (World.block_lt_of_cell? _ _ (((HB.out.cell (World.block_lt_of_cell? w _ hw273_1)).trans hw273_1)))).trans (((HB.out.cell (World.block_lt_of_cell? w _ hw273_1)).trans hw273_1)), (World.cell?_alloc_lt _ _ _ (World.block_lt_of_cell? _ _ (((HB.out.cell (World.block_lt_of_cell? w _ hw274_0)).trans hw274_0)))).trans (((HB.out.cell (World.block_lt_of_cell? w _ hw274_0)).trans hw274_0)), (World.cell?_alloc_lt _ _ _ (World.block_lt_of_cell? _ _ (((HB.out.cell (World.block_lt_of_cell? w _ hw274_1)).trans hw274_1)))).trans (((HB.out.cell (World.block_lt_of_cell? w _ hw274_1)).trans hw274_1)), (World.cell?_alloc_lt _ _ _ (World.block_lt_of_cell? _ _ (((HB.out.cell (World.block_lt_of_cell? w _ hw275_0)).trans hw275_0)))).trans (((HB.out.cell (World.block_lt_of_cell? w _ hw275_0)).trans hw275_0)), (World.cell?_alloc_lt _ _ _ (World.block_lt_of_cell? _ _ (((HB.out.cell (World.block_lt_of_cell? w _ hw275_1)).trans hw275_1)))).trans (((HB.out.cell (World.block_lt_of_cell? w _ hw275_1)).trans hw275_1))⟩ (fun hHeld => ?_)
           clear hK K
           refine norm_ (a' := ?_) ?_ ?_
           rotate_left
           ·show Act.put _ (some 51) _ = _
            simp only [Act.put, List.setIfInBounds_toArray, List.set_cons_zero, List.set_cons_succ, i64_w, i32_w]
            rfl
           refine one_ (i := 24) (N := some 52) #[true, true, true, true, true, true, true, true, true, true, true, true, true, true, true, true, true, true, true, true, true, true, true, true, true, false] rfl rfl (one_of HT_.out (by kernel_rfl)) (by decide) (fun K hK => ?_)
           refine Kd.R_append_step k58 (w0 := w) w.heap.size (by rfl) (.tmp 28) (.tmp 51) 31 58 (.agg #[(.int .i64 0), (.float .f32 0)]) 16 rfl Try.underlying31 info58 rfl (by decide) (by omega) u4 x4_1 (⟨(rd_T58 l0 (ji7)).f0, fl_quo (fl_sub ((rd_T58 l0 x5_1).f1) ((rd_T58 l0 (ji7)).f1)) t276⟩ : S58) [.int .i64 ((rd_T58 l0 (ji7)).f0), .float .f32 (fl_quo (fl_sub ((rd_T58 l0 x5_1).f1) ((rd_T58 l0 (ji7)).f1)) t276)] (fun _ => True) (fun _ => False) rfl rfl ?aP (fun _ hk => hk.elim) ?aF ?aO ?aB ?aS ?aL ?_
           (case aP => exact k58_mkM _ _ _ (⟨(rd_T58 l0 (ji7)).f0, fl_quo (fl_sub ((rd_T58 l0 x5_1).f1) ((rd_T58 l0 (ji7)).f1)) t276⟩ : S58))
           (case aB => exact blx)
           (case aF => exact (fun _ _ => trivial))
           (case aO => exact (by (with_reducible repeat (first | apply Kd.R_alloc | apply Kd.R_drewN | apply Kd.R_drew)); exact HO_4.out))
           (case aS => exact (below_size blx))
           (case aL => have := LMc13.out; omega)
           intro v278 w16 ho hb hg hat
           rw [← Ny277.out] at ho
           have n0_ := Aside0.mk (hb)
           have n1_ := Aside0.mk (ho)
           clear HB
           clear HO_4
           have HB := n0_
           have HO279 := n1_
           clear n0_ n1_
           clear ho hb hg hat
           refine hK.out _ _ ⟨((HB.out.cell (World.block_lt_of_cell? w _ hw273_0)).trans hw273_0), ((HB.out.cell (World.block_lt_of_cell? w _ hw273_1)).trans hw273_1), ((HB.out.cell (World.block_lt_of_cell? w _ hw274_0)).trans hw274_0), ((HB.out.cell (World.block_lt_of_cell? w _ hw274_1)).trans hw274_1), ((HB.out.cell (World.block_lt_of_cell? w _ hw275_0)).trans hw275_0), ((HB.out.cell (World.block_lt_of_cell? w _ hw275_1)).trans hw275_1)⟩ (fun hHeld => ?_)
           clear hK K
           refine norm_ (a' := ?_) ?_ ?_
           rotate_left
           ·show Act.put _ (some 52) _ = _
            simp only [Act.put, List.setIfInBounds_toArray, List.set_cons_zero, List.set_cons_succ, i64_w, i32_w]
            rfl
           refine pure_ (i := 25) (N := some 4) (v := ?_) (a' := ?_) #[true, true, true, true, true, true, true, true, true, true, true, true, true, true, true, true, true, true, true, true, true, true, true, true, true, true] rfl rfl (any_of HT_.out (by kernel_rfl)) (fun _ _ _ h => h) (Or.inl ⟨by rfl, ?_⟩) ?_ ?_
           rotate_left
           ·intro w'
            go_simp
            with_reducible rfl
           rotate_left
           ·simp only [Act.put, List.setIfInBounds_toArray, List.set_cons_zero, List.set_cons_succ, i64_w, i32_w]
            rfl
           refine done_ (done_of HT_.out (by kernel_rfl)) ?_
           try go_wp2
           go_roundg k1
           case measure => have := HK1.out; omega
           case rel => exact ⟨(y277), (wrap64 (x5_1 + 1)), (by first | rfl | (simp; done) | (simp [*]; done)), H', ⟨by have := HK1.out; omega⟩, ⟨by (with_reducible repeat (first | apply Kd.R_alloc | apply Kd.R_drewN | apply Kd.R_drew)); exact HO279.out⟩, ⟨blx⟩⟩
          ·rw [if_neg c13] at H
           exact absurd H (by simp)
         ·rw [if_neg c12] at H
          exact absurd H (by simp)
        ·rw [if_neg c10] at H
         exact absurd H (by simp)
       ·rw [if_neg c9] at H
        exact absurd H (by simp)
      ·rw [if_neg c8] at H
       exact absurd H (by simp)
     ·rw [if_neg c6] at H
      exact absurd H (by simp)
    ·rw [if_neg c5] at H
     have c5b0 : decide (x5_1 < (l0.length : Int)) = false := decide_eq_false c5
     clear c5
     simp only [Option.some.injEq, Prod.mk.injEq] at H
     obtain ⟨rfl, rfl⟩ := H
     go_wp2
     go_ret2
     exact ⟨_, by first | rfl | (simp [errW_none, errW_some] <;> rfl) | (simp [*, errW_none, errW_some] <;> rfl), by (with_reducible repeat (first | apply Kd.R_alloc | apply Kd.R_drewN | apply Kd.R_drew)); exact HO_4.out, blx⟩
 ·replace c3 := Bool.eq_false_iff.mpr c3
  subst c3
  have H1 : (some (([] : List (S58)), 172)) = some (r1, r2) := by rw [if_neg (show ¬ (false = true) by decide)] at H; exact H
  clear H
  have H := H1
  clear H1
  simp only [Option.some.injEq, Prod.mk.injEq] at H
  obtain ⟨rfl, rfl⟩ := H
  go_enter Try.func29, Try.ntmps29
  go_wp2_with (first | ((with_reducible refine gate_callee (f := 48) rfl ?_); refine goesL_ (some 8) rfl rfl Try.func48 (by kernel_rfl) rfl #[.slice A0 l0.length c0] rfl agx ?_; (with_reducible refine (curve_ordered.calls k _ _ l0 false _ ?side1 ?side2 A2.out).mono ?_); (case side1 => repeat (first | exact HR0.out | (with_reducible refine Kd.C_alloc ?_ _) | (with_reducible refine Kd.C_drewN ?_ _) | (with_reducible refine Kd.C_drew ?_))); (case side2 => exact HC0.out); rintro e w17 ⟨rfl, hb⟩; refine ⟨_, rfl, ?_⟩; have n0_ := Aside0.mk (below_step blx hb); clear HB; have HB := n0_; clear n0_; (try clear hb); (try clear hb2); (try clear hk); (try clear hi)))
  go_ret2
  exact ⟨_, by first | rfl | (simp [errW_none, errW_some] <;> rfl) | (simp [*, errW_none, errW_some] <;> rfl), by first | exact Kd.R_nil _ _ _ _ _ | exact Kd.N_nil _ _ _ _ _ | exact Kd.V_nil _ _ _ _ _ | exact Kd.Q_nil _ _ _ _ _ | exact Kd.S_nil _ _ _ _ _, blx⟩
end Go.Proofs.Ytfhgomcfpmbhnaa.PS
end

section
namespace Go.Proofs.Ytfhgomcfpmbhnaa.F
open Go.RowKit Go.Proofs.Ytfhgomcfpmbhnaa.Y Go.Proofs.Ytfhgomcfpmbhnaa.PS Ieee
open Go.Proofs.YtfhgomcfpmbhnaaW.PrintWords Go.Proofs.YtfhgomcfpmbhnaaW.PrintMore
set_option linter.unusedVariables false
set_option linter.unusedSimpArgs false
def AllNum (l : List S73) : Prop := ∀ d ∈ l, 0 ≤ d.f1 ∧ isNum d.f1.toNat
theorem AllNum.snoc {l : List S73} (h : AllNum l) (x : Int) (r : Nat) (hr : isNum r) : AllNum (l ++ [(⟨x, r⟩ : S73)]) := by
  intro d hd
  rcases List.mem_append.1 hd with hd | hd
  · exact h d hd
  · rw [List.mem_singleton.1 hd]
    exact ⟨Int.natCast_nonneg r, hr⟩
end Go.Proofs.Ytfhgomcfpmbhnaa.F
end

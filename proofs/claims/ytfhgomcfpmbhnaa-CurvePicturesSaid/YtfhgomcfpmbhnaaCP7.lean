-- Part 7 of the texts of the claim CP (wrote by programs: words of the kit's print.sh, printed functions; and my own texts; joined by wip/tools/pack.py).
import Derived.Test.YtfhgomcfpmbhnaaCP6
import Derived.Laws.AppendOwn

section
namespace Go.Proofs.Ytfhgomcfpmbhnaa.Y
open Go.RowKit Go.Proofs.Ytfhgomcfpmbhnaa.PS Go.Proofs.Ytfhgomcfpmbhnaa.F Go.Proofs.YtfhgomcfpmbhnaaW.PrintWords Go.Proofs.YtfhgomcfpmbhnaaW.PrintMore Go.Proofs.YtfhgomcfpmbhnaaW.Fits
attribute [local go_sem] frun_store frun_bits frun_from
set_option linter.unusedVariables false
set_option maxRecDepth 100000
def two {α : Type} (f1 f2 : α → Value) (l : List α) : List Value := l.flatMap fun x => [f1 x, f2 x]
theorem two_len {α : Type} (f1 f2 : α → Value) (l : List α) : (two f1 f2 l).length = l.length * 2 := by
  unfold two
  induction l with
  | nil => rfl
  | cons d t ih => rw [List.flatMap_cons, List.length_append, ih]; simp; omega
theorem two_at {α : Type} (f1 f2 : α → Value) : ∀ (l : List α) (j : Nat), (two f1 f2 l)[j * 2]? = l[j]?.map f1 ∧ (two f1 f2 l)[j * 2 + 1]? = l[j]?.map f2
  | [], j => by simp [two]
  | x :: t, 0 => by simp [two]
  | x :: t, j + 1 => by
    have ih := two_at f1 f2 t j
    have e : two f1 f2 (x :: t) = f1 x :: f2 x :: two f1 f2 t := rfl
    rw [e, show (j + 1) * 2 = j * 2 + 1 + 1 by omega, show (j * 2 + 1 + 1 + 1) = (j * 2 + 1) + 1 + 1 by omega]
    simp only [List.getElem?_cons_succ]
    exact ih
def dotv (l : List S73) : List Value := two (fun d => .int .i64 d.f0) (fun d => .int .u32 d.f1) l
def pntv (l : List S58) : List Value := two (fun d => .int .i64 d.f0) (fun d => .float .f32 d.f1) l
theorem ptv_pnt (l : List S73) : ptv l = pntv (l.map dP) := by
  unfold ptv pntv two
  rw [List.flatMap_map]
  rfl
theorem C_dot {w : World} {g n : Nat} {l : List S73} (hn : n = l.length) (hmax : n ≤ 9223372036854775807) (h : ∀ j u, (dotv l)[j]? = some u → w.cell? ⟨g, j, none⟩ = some u) : Kd.C k73 w (some ⟨g, 0, none⟩) n l := by
  subst hn
  refine ⟨rfl, hmax, fun _ => ⟨_, rfl, fun j p hj => ?_⟩⟩
  refine ⟨_, rfl, k73_mk w p, fun i u hu => ?_⟩
  rw [add_at]
  refine h _ u ?_
  obtain ⟨h0, h1⟩ := two_at (fun d : S73 => .int .i64 d.f0) (fun d => .int .u32 d.f1) l j
  rw [hj] at h0 h1
  unfold dotv
  match i, hu with
  | 0, hu => rw [show 0 + (j * k73.sz + 0) = j * 2 by show 0 + (j * 2 + 0) = _; omega, h0]; exact hu
  | 1, hu => rw [show 0 + (j * k73.sz + 1) = j * 2 + 1 by show 0 + (j * 2 + 1) = _; omega, h1]; exact hu
  | i + 2, hu => simp at hu
theorem C_pnt {w : World} {g n : Nat} {l : List S58} (hn : n = l.length) (hmax : n ≤ 9223372036854775807) (h : ∀ j u, (pntv l)[j]? = some u → w.cell? ⟨g, j, none⟩ = some u) : Kd.C k58 w (some ⟨g, 0, none⟩) n l := by
  subst hn
  refine ⟨rfl, hmax, fun _ => ⟨_, rfl, fun j p hj => ?_⟩⟩
  refine ⟨_, rfl, k58_mk w p, fun i u hu => ?_⟩
  rw [add_at]
  refine h _ u ?_
  obtain ⟨h0, h1⟩ := two_at (fun d : S58 => .int .i64 d.f0) (fun d => .float .f32 d.f1) l j
  rw [hj] at h0 h1
  unfold pntv
  match i, hu with
  | 0, hu => rw [show 0 + (j * k58.sz + 0) = j * 2 by show 0 + (j * 2 + 0) = _; omega, h0]; exact hu
  | 1, hu => rw [show 0 + (j * k58.sz + 1) = j * 2 + 1 by show 0 + (j * 2 + 1) = _; omega, h1]; exact hu
  | i + 2, hu => simp at hu
structure InRow (w : World) (g : Nat) (l : List S58) : Prop where
  cell : ∀ j u, (pntv l)[j]? = some u → w.cell? ⟨g, j, none⟩ = some u
  m0 : w.cell? ⟨g, l.length * 2, none⟩ = some (.int .i64 (-7701))
  m1 : w.cell? ⟨g, (l.length + 1) * 2, none⟩ = some (.int .i64 (-7702))
  fr : ∀ j, w.frozen? ⟨g, j, none⟩ = false
theorem InRow.of_own {w : World} {base g : Nat} {l : List S73} (h : w.ownsRow base 58 2 (.slice (some ⟨g, 0, none⟩) (l.length + 2) (l.length + 2)) (l.length + 2) (ptv l ++ [.int .i64 (-7701), .float .f32 0, .int .i64 (-7702), .float .f32 0])) : InRow w g (l.map dP) := by
  have hlen := ptv_len l
  have hc : ∀ j u, (ptv l ++ [.int .i64 (-7701), .float .f32 0, .int .i64 (-7702), .float .f32 0])[j]? = some u → w.cell? ⟨g, j, none⟩ = some u := fun j u hu => by
    have := h.cells (g := g) rfl j u hu
    rwa [add_plain] at this
  refine ⟨fun j u hu => hc j u ?_, hc _ _ ?_, hc _ _ ?_, h.frozenAt⟩
  · rw [← ptv_pnt] at hu
    rw [List.getElem?_append_left (List.getElem?_eq_some_iff.1 hu).1]
    exact hu
  · rw [List.getElem?_append_right (by rw [hlen, List.length_map]; omega), hlen, List.length_map, Nat.sub_self]; rfl
  · rw [List.getElem?_append_right (by rw [hlen, List.length_map]; omega), hlen, List.length_map, show (l.length + 1) * 2 - l.length * 2 = 2 by omega]; rfl
theorem InRow.keep {w w' : World} {g : Nat} {l : List S58} (h : InRow w g l) (hb : w'.heap[g]? = w.heap[g]?) : InRow w' g l :=
  ⟨fun j u hu => (World.cell?_of_block (a := ⟨g, j, none⟩) hb).trans (h.cell j u hu), (World.cell?_of_block (a := ⟨g, _, none⟩) hb).trans h.m0, (World.cell?_of_block (a := ⟨g, _, none⟩) hb).trans h.m1, fun j => (World.frozen?_of_block (a := ⟨g, j, none⟩) hb).trans (h.fr j)⟩
theorem InRow.C {w : World} {g : Nat} {l : List S58} (h : InRow w g l) (hmax : l.length ≤ 9223372036854775807) : Kd.C k58 w (some ⟨g, 0, none⟩) l.length l := C_pnt rfl hmax h.cell
set_option maxHeartbeats 1000000 in
theorem marked_calls (g n cap : Nat) (w : World) (hcap : n + 2 ≤ cap) (hn : n ≤ 8796093022208) (hm0 : w.cell? ⟨g, n * 2, none⟩ = some (.int .i64 (-7701))) (hm1 : w.cell? ⟨g, (n + 1) * 2, none⟩ = some (.int .i64 (-7702))) :
    Calls Try.prog 39 #[.slice (some ⟨g, 0, none⟩) n cap] w fun e w' => e = .returned (.bool true) ∧ w = w' := by
  have h1 : (n : Int) + 2 ≤ (cap : Int) := by omega
  have h2 : (n : Int) ≤ 8796093022208 := by omega
  go_enter Try.func39, Try.ntmps39
  go_wp2
  go_ret
  exact ⟨rfl, rfl⟩
set_option maxHeartbeats 4000000 in
theorem kept_calls (g cap : Nat) (l : List S73) (A : Option Addr) (c1 : Nat) (w : World) (hin : InRow w g (l.map dP)) (hcap : l.length + 2 ≤ cap) (hr : Kd.C k73 w A l.length l) (hc : l.length ≤ c1) (hlen : l.length ≤ 8796093022208) (hg : F.Good l) :
    Calls Try.prog 18 #[.slice (some ⟨g, 0, none⟩) l.length cap, .slice A l.length c1] w fun e w' => e = .returned (.bool true) ∧ Drawn0 w w' := by
  have HIN := Aside0.mk hin
  have HR := Aside0.mk hr
  have HG := Aside0.mk hg
  have hm0 : w.cell? ⟨g, l.length * 2, none⟩ = some (.int .i64 (-7701)) := by have := hin.m0; rwa [List.length_map] at this
  have hm1 : w.cell? ⟨g, (l.length + 1) * 2, none⟩ = some (.int .i64 (-7702)) := by have := hin.m1; rwa [List.length_map] at this
  have HM0 := Aside0.mk hm0
  have HM1 := Aside0.mk hm1
  clear hin hr hg hm0 hm1
  go_enter Try.func18, Try.ntmps18
  go_wp2_with (first | (go_at_call 39; refine (marked_calls g l.length cap w hcap hlen HM0.out HM1.out).mono ?_; rintro e w' ⟨rfl, rfl⟩))
  go_loopg [5] (l.length + 1) (fun kq v5 w' => ∃ i : Nat, v5 = .int .i64 (i : Int) ∧ Aside0 (kq + i = l.length + 1) ∧ Aside0 (i ≤ l.length) ∧ Aside0 (Drawn0 w w'))
  case atStart => exact ⟨0, rfl, ⟨by omega⟩, ⟨by omega⟩, ⟨Drawn0.refl _⟩⟩
  case round =>
    obtain ⟨i, rfl, HK, HI, HD⟩ := hrel
    cases gk with
    | zero => exact absurd HK.out (by have := HI.out; omega)
    | succ k1 =>
      by_cases hlt : i < l.length
      · have hb0 : decide ((i : Int) < (l.length : Int)) = true := decide_eq_true (by omega)
        obtain ⟨ad, e1, hx0, hx1⟩ := at_T73 HR.out (i : Int) (by omega) (by omega)
        cases e1
        rw [Int.toNat_natCast] at hx0 hx1
        obtain ⟨hy0, hy1⟩ := two_at (fun d : S58 => .int .i64 d.f0) (fun d => .float .f32 d.f1) (l.map dP) i
        have hri : l[i]? = some (rd_T73 l (i : Int)) := by
          unfold rd_T73
          rw [List.getD_eq_getElem?_getD, Int.toNat_natCast, List.getElem?_eq_getElem hlt]
          rfl
        rw [List.getElem?_map, hri] at hy0 hy1
        replace hy0 := HIN.out.cell _ _ hy0
        replace hy1 := HIN.out.cell _ _ hy1
        have hbt := (hB_lt HG.out (i : Int)).2
        obtain ⟨nd, rfl⟩ := HD.out.out
        obtain ⟨X, hX⟩ : ∃ X, (rd_T73 l (i : Int)).f0 = X := ⟨_, rfl⟩
        obtain ⟨Y, hY⟩ : ∃ Y, hB l (i : Int) = Y := ⟨_, rfl⟩
        replace hy0 : w.cell? ⟨g, i * 2, none⟩ = some (.int .i64 X) := by rw [← hX]; exact hy0
        replace hy1 : w.cell? ⟨g, i * 2 + 1, none⟩ = some (.float .f32 Y) := by rw [← hY]; exact hy1
        rw [hX] at hx0
        rw [hbt, hY] at hx1
        have HBT := Aside0.mk hbt
        have HX := Aside0.mk hX
        have HY := Aside0.mk hY
        clear hbt hX hY hri
        have p0 : (0 : Int) ≤ (i : Int) := by omega
        have p1 : (i : Int) < (l.length : Int) := by omega
        go_wp2_with fail
        have q0 : (decide (Y = Y)) = true := by simp
        go_quiet (fail)
        go_wp2
        go_roundg k1
        case measure => omega
        case rel => exact ⟨i + 1, by simp, ⟨by have := HK.out; omega⟩, ⟨by omega⟩, ⟨⟨_, rfl⟩⟩⟩
      · obtain rfl : i = l.length := by have := HI.out; omega
        have hb0 : decide ((l.length : Int) < (l.length : Int)) = false := decide_eq_false (by omega)
        go_wp2
        go_ret
        exact ⟨rfl, HD.out⟩
def setY (l : List S73) (i : Nat) (y : Int) : List S73 := l.set i ⟨(l.getD i z73).f0, y⟩
def turnedL (l : List S73) : List S73 := if l.length = 0 then l else setY (setY l 0 1077936128) (l.length - 1) 3221225472
theorem setY_len (l : List S73) (i : Nat) (y : Int) : (setY l i y).length = l.length := by simp [setY]
theorem turnedL_len (l : List S73) : (turnedL l).length = l.length := by
  unfold turnedL
  split
  · rfl
  · rw [setY_len, setY_len]
theorem two_set {α : Type} (f1 f2 : α → Value) : ∀ (l : List α) (i : Nat) (x y : α), l[i]? = some x → f1 y = f1 x → (two f1 f2 l).set (i * 2 + 1) (f2 y) = two f1 f2 (l.set i y)
  | [], i, x, y, h, _ => by simp at h
  | z :: t, 0, x, y, h, e => by
    obtain rfl : z = x := by simpa using h
    simp [two, e]
  | z :: t, i + 1, x, y, h, e => by
    have ih := two_set f1 f2 t i x y (by simpa using h) e
    have e1 : two f1 f2 (z :: t) = f1 z :: f2 z :: two f1 f2 t := rfl
    have e2 : two f1 f2 ((z :: t).set (i + 1) y) = f1 z :: f2 z :: two f1 f2 (t.set i y) := rfl
    rw [e1, e2, show (i + 1) * 2 + 1 = (i * 2 + 1) + 1 + 1 by omega, List.set_cons_succ, List.set_cons_succ, ih]
theorem dotv_set (l : List S73) (i : Nat) (y : Int) (hi : i < l.length) : (dotv l).set (i * 2 + 1) (.int .u32 y) = dotv (setY l i y) := by
  unfold dotv setY
  rw [List.getD_eq_getElem?_getD, List.getElem?_eq_getElem hi]
  exact two_set (fun d : S73 => .int .i64 d.f0) (fun d => .int .u32 d.f1) l i l[i] ⟨l[i].f0, y⟩ (List.getElem?_eq_getElem hi) rfl
theorem pntv_set (l : List S73) (i : Nat) (y : Nat) (hi : i < l.length) : (pntv (l.map dP)).set (i * 2 + 1) (.float .f32 y) = pntv ((setY l i y).map dP) := by
  unfold pntv setY
  rw [List.getD_eq_getElem?_getD, List.getElem?_eq_getElem hi, List.map_set]
  exact two_set (fun d : S58 => .int .i64 d.f0) (fun d => .float .f32 d.f1) (l.map dP) i (dP l[i]) (dP ⟨l[i].f0, y⟩) (by rw [List.getElem?_map, List.getElem?_eq_getElem hi]; rfl) rfl
theorem InRow.set {w : World} {g : Nat} {l : List S73} (h : InRow w g (l.map dP)) (i : Nat) (y : Nat) (hi : i < l.length) : InRow (w.setCell ⟨g, i * 2 + 1, none⟩ (.float .f32 y)) g ((setY l i y).map dP) := by
  have hlt : i * 2 + 1 < (pntv (l.map dP)).length := by unfold pntv; rw [two_len, List.length_map]; omega
  have hother : ∀ j, j ≠ i * 2 + 1 → (w.setCell ⟨g, i * 2 + 1, none⟩ (.float .f32 y)).cell? ⟨g, j, none⟩ = w.cell? ⟨g, j, none⟩ := fun j hj => World.cell?_setCell_other w _ _ _ (fun e => hj (by injection e with _ e2 _; exact e2.symm))
  have hm0 := h.m0
  have hm1 := h.m1
  rw [List.length_map] at hm0 hm1
  refine ⟨fun j u hu => ?_, ?_, ?_, fun j => ?_⟩
  · rw [← pntv_set l i y hi] at hu
    by_cases hj : j = i * 2 + 1
    · subst hj
      rw [List.getElem?_set_self hlt] at hu
      obtain rfl := Option.some.inj hu
      exact World.cell?_setCell_same w _ _ (h.cell _ _ (List.getElem?_eq_getElem hlt))
    · rw [List.getElem?_set_ne (fun e => hj e.symm)] at hu
      rw [hother j hj]
      exact h.cell j u hu
  · rw [List.length_map, setY_len, hother _ (by omega)]; exact hm0
  · rw [List.length_map, setY_len, hother _ (by omega)]; exact hm1
  · rw [World.frozen?_setCell]; exact h.fr j
theorem info73 : (Try.prog.info? 73).map (fun i => (i.zero, i.size, i.bytes)) = some (some (.agg #[.int .i64 0, .int .u32 0]), 2, 16) := by kernel_rfl
theorem dotv_cells {w : World} {A : Option Addr} {l : List S73} (h : Kd.C k73 w A l.length l) (hp : 0 < l.length) : ∃ ad, A = some ad ∧ ∀ j u, (dotv l)[j]? = some u → w.cell? (ad.add j) = some u := by
  obtain ⟨_, _, h3⟩ := h
  obtain ⟨ad, e, hc⟩ := h3 hp
  refine ⟨ad, e, fun j u hu => ?_⟩
  obtain ⟨q, r, hr, rfl⟩ : ∃ q r, r < 2 ∧ j = q * 2 + r := ⟨j / 2, j % 2, by omega, by omega⟩
  have hj := (List.getElem?_eq_some_iff.1 hu).1
  unfold dotv at hu hj
  rw [two_len] at hj
  have hq : q < l.length := by omega
  obtain ⟨c, hcl, hK, hcc⟩ := hc q l[q] (List.getElem?_eq_getElem hq)
  obtain rfl := k73_open hK
  obtain ⟨h0, h1⟩ := two_at (fun d : S73 => .int .i64 d.f0) (fun d => .int .u32 d.f1) l q
  rw [List.getElem?_eq_getElem hq] at h0 h1
  match r, hr with
  | 0, _ => exact hcc 0 u (by rw [Nat.add_zero] at hu; rw [h0] at hu; exact hu)
  | 1, _ => exact hcc 1 u (by rw [h1] at hu; exact hu)
theorem grown_some {w w' : World} {g : Nat} (h : w.grownBy w' none) : w.grownBy w' (some g) := ⟨h.os, h.tape, h.output, h.size, fun i hi _ => h.block i hi (by simp)⟩
set_option maxHeartbeats 4000000 in
theorem turned_nil (v : Value) (A : Option Addr) (c1 : Nat) (g cap : Nat) (l : List S73) (w : World) (h0 : l.length = 0) (hr : Kd.C k73 w A l.length l) (hc : l.length ≤ c1) (hg : g < w.heap.size) :
    Calls Try.prog 19 #[.slice (some ⟨g, 0, none⟩) l.length cap, .slice A l.length c1] w fun e w' => ∃ A' c', e = .returned (.slice A' (turnedL l).length c') ∧ (turnedL l).length ≤ c' ∧ Kd.C k73 w' A' (turnedL l).length (turnedL l) ∧ w.grownBy w' (some g) ∧ (InRow w g (l.map dP) → InRow w' g ((turnedL l).map dP)) := by
  obtain rfl : l = [] := List.eq_nil_of_length_eq_zero h0
  have HR := Aside0.mk hr
  clear hr
  simp only [List.length_nil]
  go_enter Try.func19, Try.ntmps19
  go_wp2_with (first | (at_builtin; refine Kd.N_append_rows k73 w.heap.size rfl _ _ 41 73 (.agg #[.int .i64 0, .int .u32 0]) 16 rfl Try.underlying41 info73 (by decide) (by decide) (by decide) (.slice none 0 0) [] [] A 0 c1 (fun _ => True) (fun _ => False) rfl rfl (Kd.N_nil _ _ _ _ _) (fun W' _ => ⟨HR.out.1, HR.out.2.1, fun h => absurd h (by simp)⟩) (fun _ h => h.elim) (fun _ _ => trivial) (Below.refl _ w) (Nat.le_refl _) (by simp) ?_; intro v1 w1 hN hB hG hat))
  obtain ⟨A', c', rfl, hc', hC⟩ := Kd.N_reads hN
  go_ret
  exact ⟨A', c', rfl, hc', hC, grown_some hG, fun h => h.keep (hG.block g hg (by simp [Value.ownBlock]))⟩
theorem InRow.cellY {w : World} {g : Nat} {l : List S73} (h : InRow w g (l.map dP)) (i : Nat) (hi : i < l.length) : ∃ u, w.cell? ⟨g, i * 2 + 1, none⟩ = some u := by
  obtain ⟨_, h1⟩ := two_at (fun d : S58 => .int .i64 d.f0) (fun d => .float .f32 d.f1) (l.map dP) i
  rw [List.getElem?_map, List.getElem?_eq_getElem hi] at h1
  exact ⟨_, h.cell _ _ h1⟩
structure Fits4 (w1 : World) (g g1 m : Nat) (l : List S73) : Prop where
  a0 : ∃ u, w1.cell? ⟨g, 1, none⟩ = some u
  a1 : w1.frozen? ⟨g, 1, none⟩ = false
  b0 : ∃ u, (w1.setCell ⟨g, 1, none⟩ (.float .f32 1077936128)).cell? ⟨g, m * 2 + 1, none⟩ = some u
  b1 : w1.frozen? ⟨g, m * 2 + 1, none⟩ = false
  c0 : ∃ u, ((w1.setCell ⟨g, 1, none⟩ (.float .f32 1077936128)).setCell ⟨g, m * 2 + 1, none⟩ (.float .f32 3221225472)).cell? ⟨g1, 1, none⟩ = some u
  c1 : w1.frozen? ⟨g1, 1, none⟩ = false
  d0 : ∃ u, (((w1.setCell ⟨g, 1, none⟩ (.float .f32 1077936128)).setCell ⟨g, m * 2 + 1, none⟩ (.float .f32 3221225472)).setCell ⟨g1, 1, none⟩ (.int .u32 1077936128)).cell? ⟨g1, m * 2 + 1, none⟩ = some u
  d1 : w1.frozen? ⟨g1, m * 2 + 1, none⟩ = false
theorem fits4 {w1 : World} {g g1 m cp1 base : Nat} {l : List S73} (hm : l.length = m + 1) (hin : InRow w1 g (l.map dP)) (hne : g ≠ g1) (hown : w1.ownsRow base 73 2 (.slice (some ⟨g1, 0, none⟩) (m + 1) cp1) (m + 1) (dotv l)) : Fits4 w1 g g1 m l := by
  have hd : (dotv l).length = (m + 1) * 2 := by unfold dotv; rw [two_len, hm]
  have far : ∀ {W : World} {j : Nat} {p : Addr} {u : Value}, p.block = g → (W.setCell p u).cell? ⟨g1, j, none⟩ = W.cell? ⟨g1, j, none⟩ := fun {W j p u} hp => World.cell?_setCell_other W _ _ _ (fun e => hne (by rw [← hp, e]))
  refine ⟨?_, hin.fr _, ?_, hin.fr _, ?_, hown.frozenAt _, ?_, hown.frozenAt _⟩
  · have := hin.cellY 0 (by omega)
    exact this
  · obtain ⟨u, hu⟩ := hin.cellY m (by omega)
    obtain ⟨v, hv⟩ := cell?_setCell_some (p := ⟨g, 1, none⟩) (x := .float .f32 1077936128) hu
    exact ⟨v, hv⟩
  · rw [far rfl, far rfl, hown.cellAt 1 (by omega), List.getElem?_eq_getElem (by omega)]
    exact ⟨_, rfl⟩
  · obtain ⟨u, hu⟩ : ∃ u, w1.cell? ⟨g1, m * 2 + 1, none⟩ = some u := by
      rw [hown.cellAt _ (by omega), List.getElem?_eq_getElem (by omega)]
      exact ⟨_, rfl⟩
    rw [← far (p := ⟨g, 1, none⟩) (u := .float .f32 1077936128) rfl, ← far (p := ⟨g, m * 2 + 1, none⟩) (u := .float .f32 3221225472) rfl] at hu
    exact cell?_setCell_some hu
theorem turn_end {w w1 : World} {g g1 m cp1 base : Nat} {l : List S73} (hm : l.length = m + 1) (hin : InRow w1 g (l.map dP)) (hg : g < w.heap.size) (hg1 : w.heap.size ≤ g1) (hgrow : w.grownBy w1 none) (hown : w1.ownsRow base 73 2 (.slice (some ⟨g1, 0, none⟩) (m + 1) cp1) (m + 1) (dotv l)) :
    let W5 := (((w1.setCell ⟨g, 1, none⟩ (.float .f32 1077936128)).setCell ⟨g, m * 2 + 1, none⟩ (.float .f32 3221225472)).setCell ⟨g1, 1, none⟩ (.int .u32 1077936128)).setCell ⟨g1, m * 2 + 1, none⟩ (.int .u32 3221225472)
    (m + 1 ≤ cp1) ∧ Kd.C k73 W5 (some ⟨g1, 0, none⟩) (m + 1) (turnedL l) ∧ w.grownBy W5 (some g) ∧ InRow W5 g ((turnedL l).map dP) := by
  intro W5
  have hne : g ≠ g1 := by omega
  have hT : turnedL l = setY (setY l 0 1077936128) m 3221225472 := by
    unfold turnedL
    rw [if_neg (by omega), show l.length - 1 = m by omega]
  have hcp : m + 1 ≤ cp1 ∧ cp1 ≤ maxLen := by
    rcases hown.2 with ⟨e, _⟩ | ⟨g', cap, cur, e, _, _, h1, h2, _⟩
    · cases e
    · injection e with _ _ e3
      subst e3
      exact ⟨h1, h2⟩
  have own1 : (w1.setCell ⟨g, 1, none⟩ (.float .f32 1077936128)).ownsRow base 73 2 (.slice (some ⟨g1, 0, none⟩) (m + 1) cp1) (m + 1) (dotv l) := own_setCell hown (by simp [Value.ownBlock]; omega) _
  have own2 := own_setCell (p := ⟨g, m * 2 + 1, none⟩) own1 (by simp [Value.ownBlock]; omega) (.float .f32 3221225472)
  have own3 := (own2.stored (0 * 2 + 1) (.int .u32 1077936128)).1
  rw [dotv_set l 0 _ (by omega)] at own3
  have own4 := (own3.stored (m * 2 + 1) (.int .u32 3221225472)).1
  rw [dotv_set _ m _ (by rw [setY_len]; omega), ← hT] at own4
  refine ⟨hcp.1, C_dot (by rw [turnedL_len, hm]) (by have := hcp.2; unfold maxLen at this; omega) (fun j u hu => ?_), ?_, ?_⟩
  · have := own4.cells (g := g1) rfl j u hu
    rwa [add_plain] at this
  · refine ⟨hgrow.os, hgrow.tape, hgrow.output, by simpa [W5] using hgrow.size, fun i hi hne0 => ?_⟩
    have hne' : i ≠ g := fun e => hne0 (by rw [e])
    have h0 : i ≠ g1 := by omega
    refine (Below.heap_setCell _ _ _ i h0).trans ((Below.heap_setCell _ _ _ i h0).trans ((Below.heap_setCell _ _ _ i hne').trans ((Below.heap_setCell _ _ _ i hne').trans (hgrow.block i hi (by simp)))))
  · have in1 := hin.set 0 1077936128 (by omega)
    have in2 := in1.set m 3221225472 (by rw [setY_len]; omega)
    have e : setY (setY l 0 ((1077936128 : Nat) : Int)) m ((3221225472 : Nat) : Int) = turnedL l := hT.symm
    rw [e] at in2
    exact in2.keep ((Below.heap_setCell _ _ _ g hne).trans (Below.heap_setCell _ _ _ g hne))
set_option maxHeartbeats 4000000 in
theorem turned_pos (A : Option Addr) (c1 : Nat) (g cap : Nat) (l : List S73) (w : World) (h0 : 0 < l.length) (hr : Kd.C k73 w A l.length l) (hc : l.length ≤ c1) (hcap : l.length + 2 ≤ cap) (hlen : l.length * 16 ≤ 140737488355328) (hg : g < w.heap.size) (hin : InRow w g (l.map dP)) :
    Calls Try.prog 19 #[.slice (some ⟨g, 0, none⟩) l.length cap, .slice A l.length c1] w fun e w' => ∃ A' c', e = .returned (.slice A' (turnedL l).length c') ∧ (turnedL l).length ≤ c' ∧ Kd.C k73 w' A' (turnedL l).length (turnedL l) ∧ w.grownBy w' (some g) ∧ InRow w' g ((turnedL l).map dP) := by
  obtain ⟨ad, rfl, hcell⟩ := dotv_cells hr h0
  obtain ⟨i0, hi0, hz0, hz1, hz2⟩ := info_parts info73
  have HCELL := Aside0.mk hcell
  have HIN := Aside0.mk hin
  clear hr hcell hin
  obtain ⟨m, hm⟩ : ∃ m, l.length = m + 1 := ⟨l.length - 1, by omega⟩
  have HM := Aside0.mk hm
  rw [hm] at h0 hc hcap hlen ⊢
  clear hm
  have b0 : (m : Int) ≤ 8796093022208 := by omega
  have b1 : (m : Int) + 1 ≤ (cap : Int) := by omega
  go_enter Try.func19, Try.ntmps19
  go_wp2_with (first | (at_builtin; (refine wpList_append_own _ rfl _ _ 41 rfl w.heap.size 73 i0 (.agg #[.int .i64 0, .int .u32 0]) 2 16 Try.underlying41 hi0 hz0 hz1 hz2 rfl (by decide) (.slice none 0 0) 0 [] rfl (own_nil _ _ _ _) ad (m + 1) c1 (dotv l) rfl (by unfold dotv; rw [two_len, HM.out]) HCELL.out (by intro u hu; unfold dotv two at hu; simp at hu; obtain ⟨d, _, rfl | rfl⟩ := hu <;> rfl) (by unfold maxLen; omega) (by omega) (Nat.le_refl _) ?_); intro v1 w1 hown hgrow _; obtain ⟨g1, cp1, e1, hg1, hg1'⟩ := hown.form (by omega); subst e1; have HOWN := Aside0.mk hown; have HGROW := Aside0.mk hgrow; have HG1 := Aside0.mk hg1; clear hown hgrow hg1; obtain ⟨⟨u1, a0⟩, a1, ⟨u2, b0⟩, b1, ⟨u3, c0⟩, c1, ⟨u4, d0⟩, d1⟩ := fits4 (w1 := w1) (g := g) (g1 := g1) HM.out (HIN.out.keep (HGROW.out.block g hg (by simp [Value.ownBlock]))) (by have := HG1.out; omega) (by have := HOWN.out; rw [Nat.zero_add, List.nil_append] at this; exact this)))
  go_ret
  have hown := HOWN.out
  rw [Nat.zero_add, List.nil_append] at hown
  obtain ⟨k1, k2, k3, k4⟩ := turn_end HM.out (HIN.out.keep (HGROW.out.block g hg (by simp [Value.ownBlock]))) hg HG1.out HGROW.out hown
  exact ⟨some ⟨g1, 0, none⟩, cp1, by rw [turnedL_len, HM.out]; rfl, by rw [turnedL_len, HM.out]; exact k1, by rw [turnedL_len, HM.out]; exact k2, k3, k4⟩
end Go.Proofs.Ytfhgomcfpmbhnaa.Y
end

section
namespace Go.Proofs.Ytfhgomcfpmbhnaa.F
open Go.RowKit Go.Proofs.Ytfhgomcfpmbhnaa.Y Go.Proofs.Ytfhgomcfpmbhnaa.PS Ieee
open Go.Proofs.YtfhgomcfpmbhnaaW.PrintWords Go.Proofs.YtfhgomcfpmbhnaaW.PrintMore
set_option linter.unusedVariables false
set_option linter.unusedSimpArgs false
theorem fk_of {x y r : Nat} : (single.add x y = some r → fk_add x y = true ∧ fl_add x y = r) ∧ (single.sub x y = some r → fk_sub x y = true ∧ fl_sub x y = r) ∧ (single.mul x y = some r → fk_mul x y = true ∧ fl_mul x y = r) ∧ (single.div x y = some r → fk_quo x y = true ∧ fl_quo x y = r) := by
  refine ⟨fun h => ?_, fun h => ?_, fun h => ?_, fun h => ?_⟩
  · exact ⟨by unfold fk_add; rw [h]; rfl, by unfold fl_add; rw [h]; rfl⟩
  · exact ⟨by unfold fk_sub; rw [h]; rfl, by unfold fl_sub; rw [h]; rfl⟩
  · exact ⟨by unfold fk_mul; rw [h]; rfl, by unfold fl_mul; rw [h]; rfl⟩
  · exact ⟨by unfold fk_quo; rw [h]; rfl, by unfold fl_quo; rw [h]; rfl⟩
theorem sub_ev {x y r : Nat} (hx : x < 4294967296) (hy : y < 4294967296) (h : single.sub x y = some r) : Ev (fun k => levyref17_Sub.f k (x : Int) (y : Int)) (r : Int) := by
  have e := sub_is x y hx hy
  rwa [h, orN_some] at e
theorem add_ev {x y r : Nat} (hx : x < 4294967296) (hy : y < 4294967296) (h : single.add x y = some r) : Ev (fun k => levyref17_Add.f k (x : Int) (y : Int)) (r : Int) := by
  have e := add_is x y hx hy
  rwa [h, orN_some] at e
theorem div_ev {x y r : Nat} (hx : x < 4294967296) (hy : y < 4294967296) (fy : y % 2147483648 < 2139095040) (hm : mX y ≠ 0) (h : single.div x y = some r) : Ev (fun k => levyref17_Div.f k (x : Int) (y : Int)) (r : Int) := by
  have e := div_is x y hx hy fy hm
  rwa [h, orN_some] at e
theorem mul_ev {x y r : Nat} (hx : x < 4294967296) (hy : y < 4294967296) (fx : x % 2147483648 < 2139095040) (fy : y % 2147483648 < 2139095040) (h : single.mul x y = some r) : levyref17_Mul.f (x : Int) (y : Int) = some (r : Int) := by
  have e := mul_is x y hx hy fx fy
  rwa [h, orN_some] at e
end Go.Proofs.Ytfhgomcfpmbhnaa.F
end

section
namespace Go.Proofs.Ytfhgomcfpmbhnaa.F
open Go.RowKit Go.Proofs.Ytfhgomcfpmbhnaa.Y Go.Proofs.Ytfhgomcfpmbhnaa.PS Ieee
open Go.Proofs.YtfhgomcfpmbhnaaW.PrintWords Go.Proofs.YtfhgomcfpmbhnaaW.PrintMore
set_option linter.unusedVariables false
set_option linter.unusedSimpArgs false
theorem bits_from (l : List S73) (hl : l.length < 8796093022208) : ∀ (n : Nat) (i : Nat), i + n = l.length → Ev (fun k => levylaw17_bits.l0 k l ((l.take i).map dB) (i : Int)) (l.map dB) := by
  intro n
  induction n with
  | zero =>
    intro i hi
    refine Ev.step (f := fun _ => some (l.map dB)) (fun k => ?_) (Ev.now _)
    rw [levylaw17_bits.l0, if_neg (by omega), List.take_of_length_le (by omega)]
  | succ n ih =>
    intro i hi
    refine Ev.step (fun k => ?_) (ih (i + 1) (by omega))
    have hlt : i < l.length := by omega
    have e1 : (l.take (i + 1)).map dB = (l.take i).map dB ++ [(⟨(rd_T73 l (i : Int)).f0, (rd_T73 l (i : Int)).f1⟩ : S38)] := by
      rw [List.take_add_one, List.map_append]
      unfold rd_T73
      rw [List.getD_eq_getElem?_getD, Int.toNat_natCast, List.getElem?_eq_getElem hlt]
      rfl
    rw [levylaw17_bits.l0, if_pos (by omega), if_pos (by omega), if_pos (by rw [List.length_map, List.length_take]; omega), e1, show wrap64 ((i : Int) + 1) = ((i + 1 : Nat) : Int) by unfold wrap64; omega]
theorem bits_is (l : List S73) (hl : l.length < 8796093022208) : Ev (fun k => levylaw17_bits.f k l) (l.map dB) := bits_from l hl l.length 0 (by omega)
end Go.Proofs.Ytfhgomcfpmbhnaa.F
end

section
namespace Go.Proofs.Ytfhgomcfpmbhnaa.Y
open Go.RowKit Go.Proofs.Ytfhgomcfpmbhnaa.PS Go.Proofs.Ytfhgomcfpmbhnaa.F Go.Proofs.YtfhgomcfpmbhnaaW.PrintWords Go.Proofs.YtfhgomcfpmbhnaaW.PrintMore Go.Proofs.YtfhgomcfpmbhnaaW.Fits
set_option linter.unusedVariables false
set_option maxRecDepth 100000
theorem turned_calls (A : Option Addr) (c1 : Nat) (g cap : Nat) (l : List S73) (w : World) (hr : Kd.C k73 w A l.length l) (hc : l.length ≤ c1) (hcap : l.length + 2 ≤ cap) (hlen : l.length * 16 ≤ 140737488355328) (hg : g < w.heap.size) (hin : InRow w g (l.map dP)) :
    Calls Try.prog 19 #[.slice (some ⟨g, 0, none⟩) l.length cap, .slice A l.length c1] w fun e w' => ∃ A' c', e = .returned (.slice A' (turnedL l).length c') ∧ (turnedL l).length ≤ c' ∧ Kd.C k73 w' A' (turnedL l).length (turnedL l) ∧ w.grownBy w' (some g) ∧ InRow w' g ((turnedL l).map dP) := by
  by_cases h0 : l.length = 0
  · exact (turned_nil (.bool true) A c1 g cap l w h0 hr hc hg).mono fun e w' ⟨A', c', h1, h2, h3, h4, h5⟩ => ⟨A', c', h1, h2, h3, h4, h5 hin⟩
  · exact turned_pos A c1 g cap l w (by omega) hr hc hcap hlen hg hin
theorem good_turned {l : List S73} (h : F.Good l) : F.Good (turnedL l) := by
  refine ⟨by rw [turnedL_len]; exact h.1, ?_⟩
  have hz : ∀ i, (0 ≤ (l.getD i z73).f1 ∧ (l.getD i z73).f1 < 4294967296) ∧ -9223372036854775808 ≤ (l.getD i z73).f0 ∧ (l.getD i z73).f0 ≤ 9223372036854775807 := fun i => by
    rw [List.getD_eq_getElem?_getD]
    by_cases hi : i < l.length
    · rw [List.getElem?_eq_getElem hi]
      exact h.2 _ (List.getElem_mem hi)
    · rw [List.getElem?_eq_none (by omega)]
      show (0 ≤ (0 : Int) ∧ (0 : Int) < 4294967296) ∧ -9223372036854775808 ≤ (0 : Int) ∧ (0 : Int) ≤ 9223372036854775807
      omega
  have step : ∀ (m : List S73) (i : Nat) (y : Int), (∀ d ∈ m, (0 ≤ d.f1 ∧ d.f1 < 4294967296) ∧ -9223372036854775808 ≤ d.f0 ∧ d.f0 ≤ 9223372036854775807) → 0 ≤ y → y < 4294967296 → ∀ d ∈ setY m i y, (0 ≤ d.f1 ∧ d.f1 < 4294967296) ∧ -9223372036854775808 ≤ d.f0 ∧ d.f0 ≤ 9223372036854775807 := by
    intro m i y hm y0 y1 d hd
    unfold setY at hd
    rcases List.mem_or_eq_of_mem_set hd with hd | rfl
    · exact hm d hd
    · refine ⟨⟨y0, y1⟩, ?_⟩
      rw [List.getD_eq_getElem?_getD]
      by_cases hi : i < m.length
      · rw [List.getElem?_eq_getElem hi]
        exact (hm _ (List.getElem_mem hi)).2
      · rw [List.getElem?_eq_none (by omega)]
        show -9223372036854775808 ≤ (0 : Int) ∧ (0 : Int) ≤ 9223372036854775807
        omega
  unfold turnedL
  split
  · exact h.2
  · exact step _ _ _ (step _ _ _ h.2 (by omega) (by omega)) (by omega) (by omega)
theorem C_cells {α : Type} {d : Kd α} (hd : ∀ {W W' : World} {x : α} {cs : List Value}, d.K W x cs → d.K W' x cs) {w w' : World} {A : Option Addr} {n : Nat} {l : List α} (h : d.C w A n l) (hk : ∀ a v, w.cell? a = some v → a.block < w.heap.size → w'.cell? a = some v) : d.C w' A n l := by
  refine ⟨h.1, h.2.1, fun hp => ?_⟩
  obtain ⟨ad, e, hc⟩ := h.2.2 hp
  refine ⟨ad, e, fun j p hj => ?_⟩
  obtain ⟨c, hcl, hK, hcc⟩ := hc j p hj
  exact ⟨c, hcl, hd hK, fun i u hu => hk _ _ (hcc i u hu) (World.block_lt_of_cell? w _ (hcc i u hu))⟩
def TrueBelow (w : World) (e : Ending) (w' : World) : Prop := e = .returned (.bool true) ∧ Below w.heap.size w w'
theorem k73_K {W W' : World} {x : S73} {cs : List Value} (h : k73.K W x cs) : k73.K W' x cs := by
  rw [k73_open h]
  exact k73_mk W' x
theorem C_old {α : Type} {d : Kd α} (hd : ∀ {W W' : World} {x : α} {cs : List Value}, d.K W x cs → d.K W' x cs) {w w' : World} {A : Option Addr} {n : Nat} {l : List α} (h : d.C w A n l) (hk : ∀ i, i < w.heap.size → w'.heap[i]? = w.heap[i]?) : d.C w' A n l :=
  C_cells hd h fun a v hv hlt => (World.cell?_of_block (hk _ hlt)).trans hv
theorem good_ok (l : List S73) (hl : l.length < 4611686018427387904) (h : ∀ x ∈ l, (Lit.int .i64 x.f0).wf = true ∧ (Lit.int .u32 x.f1).wf = true) : F.Good l := by
  refine ⟨hl, fun d hd => ?_⟩
  obtain ⟨h0, h1⟩ := h d hd
  have a : IntKind.i64.min ≤ d.f0 ∧ d.f0 ≤ IntKind.i64.max := by simpa [Lit.wf] using h0
  have b : IntKind.u32.min ≤ d.f1 ∧ d.f1 ≤ IntKind.u32.max := by simpa [Lit.wf] using h1
  exact ⟨⟨b.1, Int.lt_of_le_of_lt b.2 (by decide)⟩, a.1, a.2⟩
end Go.Proofs.Ytfhgomcfpmbhnaa.Y
end

section
namespace Go.Proofs.Ytfhgomcfpmbhnaa.F
open Go.RowKit Go.Proofs.Ytfhgomcfpmbhnaa.Y Go.Proofs.Ytfhgomcfpmbhnaa.PS Ieee
open Go.Proofs.YtfhgomcfpmbhnaaW.PrintWords Go.Proofs.YtfhgomcfpmbhnaaW.PrintMore
set_option linter.unusedVariables false
set_option linter.unusedSimpArgs false
def AllNum (l : List S73) : Prop := ∀ d ∈ l, 0 ≤ d.f1 ∧ isNum d.f1.toNat
theorem AllNum.snoc {l : List S73} (h : AllNum l) (x : Int) (r : Nat) (hr : isNum r) : AllNum (l ++ [(⟨x, r⟩ : S73)]) := by
  intro d hd
  rcases List.mem_append.1 hd with hd | hd
  · exact h d hd
  · rw [List.mem_singleton.1 hd]
    exact ⟨Int.natCast_nonneg r, hr⟩
end Go.Proofs.Ytfhgomcfpmbhnaa.F
end

-- Part 6 of the texts of the claim CR (wrote by programs: words of the kit's print.sh, printed functions; and my own texts; joined by wip/tools/pack.py).
import Derived.Test.YtfhgomcfpmbhnaaCR5
import Derived.Laws.AppendOwn

section
namespace Go.Proofs.Ytfhgomcfpmbhnaa.Y
open Go.RowKit Go.Proofs.Ytfhgomcfpmbhnaa.PS Go.Proofs.Ytfhgomcfpmbhnaa.F Go.Proofs.YtfhgomcfpmbhnaaW.PrintWords Go.Proofs.YtfhgomcfpmbhnaaW.PrintMore Go.Proofs.YtfhgomcfpmbhnaaW.Fits
attribute [local go_sem] frun_store frun_bits frun_from
set_option linter.unusedVariables false
set_option maxRecDepth 100000
def two {α : Type} (f1 f2 : α → Value) (l : List α) : List Value := l.flatMap fun x => [f1 x, f2 x]
theorem two_len {α : Type} (f1 f2 : α → Value) (l : List α) : (two f1 f2 l).length = l.length * 2 := by
  unfold two
  induction l with
  | nil => rfl
  | cons d t ih => rw [List.flatMap_cons, List.length_append, ih]; simp; omega
theorem two_at {α : Type} (f1 f2 : α → Value) : ∀ (l : List α) (j : Nat), (two f1 f2 l)[j * 2]? = l[j]?.map f1 ∧ (two f1 f2 l)[j * 2 + 1]? = l[j]?.map f2
  | [], j => by simp [two]
  | x :: t, 0 => by simp [two]
  | x :: t, j + 1 => by
    have ih := two_at f1 f2 t j
    have e : two f1 f2 (x :: t) = f1 x :: f2 x :: two f1 f2 t := rfl
    rw [e, show (j + 1) * 2 = j * 2 + 1 + 1 by omega, show (j * 2 + 1 + 1 + 1) = (j * 2 + 1) + 1 + 1 by omega]
    simp only [List.getElem?_cons_succ]
    exact ih
def dotv (l : List S73) : List Value := two (fun d => .int .i64 d.f0) (fun d => .int .u32 d.f1) l
def pntv (l : List S58) : List Value := two (fun d => .int .i64 d.f0) (fun d => .float .f32 d.f1) l
theorem ptv_pnt (l : List S73) : ptv l = pntv (l.map dP) := by
  unfold ptv pntv two
  rw [List.flatMap_map]
  rfl
theorem C_dot {w : World} {g n : Nat} {l : List S73} (hn : n = l.length) (hmax : n ≤ 9223372036854775807) (h : ∀ j u, (dotv l)[j]? = some u → w.cell? ⟨g, j, none⟩ = some u) : Kd.C k73 w (some ⟨g, 0, none⟩) n l := by
  subst hn
  refine ⟨rfl, hmax, fun _ => ⟨_, rfl, fun j p hj => ?_⟩⟩
  refine ⟨_, rfl, k73_mk w p, fun i u hu => ?_⟩
  rw [add_at]
  refine h _ u ?_
  obtain ⟨h0, h1⟩ := two_at (fun d : S73 => .int .i64 d.f0) (fun d => .int .u32 d.f1) l j
  rw [hj] at h0 h1
  unfold dotv
  match i, hu with
  | 0, hu => rw [show 0 + (j * k73.sz + 0) = j * 2 by show 0 + (j * 2 + 0) = _; omega, h0]; exact hu
  | 1, hu => rw [show 0 + (j * k73.sz + 1) = j * 2 + 1 by show 0 + (j * 2 + 1) = _; omega, h1]; exact hu
  | i + 2, hu => simp at hu
theorem C_pnt {w : World} {g n : Nat} {l : List S58} (hn : n = l.length) (hmax : n ≤ 9223372036854775807) (h : ∀ j u, (pntv l)[j]? = some u → w.cell? ⟨g, j, none⟩ = some u) : Kd.C k58 w (some ⟨g, 0, none⟩) n l := by
  subst hn
  refine ⟨rfl, hmax, fun _ => ⟨_, rfl, fun j p hj => ?_⟩⟩
  refine ⟨_, rfl, k58_mk w p, fun i u hu => ?_⟩
  rw [add_at]
  refine h _ u ?_
  obtain ⟨h0, h1⟩ := two_at (fun d : S58 => .int .i64 d.f0) (fun d => .float .f32 d.f1) l j
  rw [hj] at h0 h1
  unfold pntv
  match i, hu with
  | 0, hu => rw [show 0 + (j * k58.sz + 0) = j * 2 by show 0 + (j * 2 + 0) = _; omega, h0]; exact hu
  | 1, hu => rw [show 0 + (j * k58.sz + 1) = j * 2 + 1 by show 0 + (j * 2 + 1) = _; omega, h1]; exact hu
  | i + 2, hu => simp at hu
structure InRow (w : World) (g : Nat) (l : List S58) : Prop where
  cell : ∀ j u, (pntv l)[j]? = some u → w.cell? ⟨g, j, none⟩ = some u
  m0 : w.cell? ⟨g, l.length * 2, none⟩ = some (.int .i64 (-7701))
  m1 : w.cell? ⟨g, (l.length + 1) * 2, none⟩ = some (.int .i64 (-7702))
  fr : ∀ j, w.frozen? ⟨g, j, none⟩ = false
theorem InRow.of_own {w : World} {base g : Nat} {l : List S73} (h : w.ownsRow base 58 2 (.slice (some ⟨g, 0, none⟩) (l.length + 2) (l.length + 2)) (l.length + 2) (ptv l ++ [.int .i64 (-7701), .float .f32 0, .int .i64 (-7702), .float .f32 0])) : InRow w g (l.map dP) := by
  have hlen := ptv_len l
  have hc : ∀ j u, (ptv l ++ [.int .i64 (-7701), .float .f32 0, .int .i64 (-7702), .float .f32 0])[j]? = some u → w.cell? ⟨g, j, none⟩ = some u := fun j u hu => by
    have := h.cells (g := g) rfl j u hu
    rwa [add_plain] at this
  refine ⟨fun j u hu => hc j u ?_, hc _ _ ?_, hc _ _ ?_, h.frozenAt⟩
  · rw [← ptv_pnt] at hu
    rw [List.getElem?_append_left (List.getElem?_eq_some_iff.1 hu).1]
    exact hu
  · rw [List.getElem?_append_right (by rw [hlen, List.length_map]; omega), hlen, List.length_map, Nat.sub_self]; rfl
  · rw [List.getElem?_append_right (by rw [hlen, List.length_map]; omega), hlen, List.length_map, show (l.length + 1) * 2 - l.length * 2 = 2 by omega]; rfl
theorem InRow.keep {w w' : World} {g : Nat} {l : List S58} (h : InRow w g l) (hb : w'.heap[g]? = w.heap[g]?) : InRow w' g l :=
  ⟨fun j u hu => (World.cell?_of_block (a := ⟨g, j, none⟩) hb).trans (h.cell j u hu), (World.cell?_of_block (a := ⟨g, _, none⟩) hb).trans h.m0, (World.cell?_of_block (a := ⟨g, _, none⟩) hb).trans h.m1, fun j => (World.frozen?_of_block (a := ⟨g, j, none⟩) hb).trans (h.fr j)⟩
theorem InRow.C {w : World} {g : Nat} {l : List S58} (h : InRow w g l) (hmax : l.length ≤ 9223372036854775807) : Kd.C k58 w (some ⟨g, 0, none⟩) l.length l := C_pnt rfl hmax h.cell
set_option maxHeartbeats 1000000 in
theorem marked_calls (g n cap : Nat) (w : World) (hcap : n + 2 ≤ cap) (hn : n ≤ 8796093022208) (hm0 : w.cell? ⟨g, n * 2, none⟩ = some (.int .i64 (-7701))) (hm1 : w.cell? ⟨g, (n + 1) * 2, none⟩ = some (.int .i64 (-7702))) :
    Calls Try.prog 39 #[.slice (some ⟨g, 0, none⟩) n cap] w fun e w' => e = .returned (.bool true) ∧ w = w' := by
  have h1 : (n : Int) + 2 ≤ (cap : Int) := by omega
  have h2 : (n : Int) ≤ 8796093022208 := by omega
  go_enter Try.func39, Try.ntmps39
  go_wp2
  go_ret
  exact ⟨rfl, rfl⟩
set_option maxHeartbeats 4000000 in
theorem kept_calls (g cap : Nat) (l : List S73) (A : Option Addr) (c1 : Nat) (w : World) (hin : InRow w g (l.map dP)) (hcap : l.length + 2 ≤ cap) (hr : Kd.C k73 w A l.length l) (hc : l.length ≤ c1) (hlen : l.length ≤ 8796093022208) (hg : F.Good l) :
    Calls Try.prog 18 #[.slice (some ⟨g, 0, none⟩) l.length cap, .slice A l.length c1] w fun e w' => e = .returned (.bool true) ∧ Drawn0 w w' := by
  have HIN := Aside0.mk hin
  have HR := Aside0.mk hr
  have HG := Aside0.mk hg
  have hm0 : w.cell? ⟨g, l.length * 2, none⟩ = some (.int .i64 (-7701)) := by have := hin.m0; rwa [List.length_map] at this
  have hm1 : w.cell? ⟨g, (l.length + 1) * 2, none⟩ = some (.int .i64 (-7702)) := by have := hin.m1; rwa [List.length_map] at this
  have HM0 := Aside0.mk hm0
  have HM1 := Aside0.mk hm1
  clear hin hr hg hm0 hm1
  go_enter Try.func18, Try.ntmps18
  go_wp2_with (first | (go_at_call 39; refine (marked_calls g l.length cap w hcap hlen HM0.out HM1.out).mono ?_; rintro e w' ⟨rfl, rfl⟩))
  go_loopg [5] (l.length + 1) (fun kq v5 w' => ∃ i : Nat, v5 = .int .i64 (i : Int) ∧ Aside0 (kq + i = l.length + 1) ∧ Aside0 (i ≤ l.length) ∧ Aside0 (Drawn0 w w'))
  case atStart => exact ⟨0, rfl, ⟨by omega⟩, ⟨by omega⟩, ⟨Drawn0.refl _⟩⟩
  case round =>
    obtain ⟨i, rfl, HK, HI, HD⟩ := hrel
    cases gk with
    | zero => exact absurd HK.out (by have := HI.out; omega)
    | succ k1 =>
      by_cases hlt : i < l.length
      · have hb0 : decide ((i : Int) < (l.length : Int)) = true := decide_eq_true (by omega)
        obtain ⟨ad, e1, hx0, hx1⟩ := at_T73 HR.out (i : Int) (by omega) (by omega)
        cases e1
        rw [Int.toNat_natCast] at hx0 hx1
        obtain ⟨hy0, hy1⟩ := two_at (fun d : S58 => .int .i64 d.f0) (fun d => .float .f32 d.f1) (l.map dP) i
        have hri : l[i]? = some (rd_T73 l (i : Int)) := by
          unfold rd_T73
          rw [List.getD_eq_getElem?_getD, Int.toNat_natCast, List.getElem?_eq_getElem hlt]
          rfl
        rw [List.getElem?_map, hri] at hy0 hy1
        replace hy0 := HIN.out.cell _ _ hy0
        replace hy1 := HIN.out.cell _ _ hy1
        have hbt := (hB_lt HG.out (i : Int)).2
        obtain ⟨nd, rfl⟩ := HD.out.out
        obtain ⟨X, hX⟩ : ∃ X, (rd_T73 l (i : Int)).f0 = X := ⟨_, rfl⟩
        obtain ⟨Y, hY⟩ : ∃ Y, hB l (i : Int) = Y := ⟨_, rfl⟩
        replace hy0 : w.cell? ⟨g, i * 2, none⟩ = some (.int .i64 X) := by rw [← hX]; exact hy0
        replace hy1 : w.cell? ⟨g, i * 2 + 1, none⟩ = some (.float .f32 Y) := by rw [← hY]; exact hy1
        rw [hX] at hx0
        rw [hbt, hY] at hx1
        have HBT := Aside0.mk hbt
        have HX := Aside0.mk hX
        have HY := Aside0.mk hY
        clear hbt hX hY hri
        have p0 : (0 : Int) ≤ (i : Int) := by omega
        have p1 : (i : Int) < (l.length : Int) := by omega
        go_wp2_with fail
        have q0 : (decide (Y = Y)) = true := by simp
        go_quiet (fail)
        go_wp2
        go_roundg k1
        case measure => omega
        case rel => exact ⟨i + 1, by simp, ⟨by have := HK.out; omega⟩, ⟨by omega⟩, ⟨⟨_, rfl⟩⟩⟩
      · obtain rfl : i = l.length := by have := HI.out; omega
        have hb0 : decide ((l.length : Int) < (l.length : Int)) = false := decide_eq_false (by omega)
        go_wp2
        go_ret
        exact ⟨rfl, HD.out⟩
def setY (l : List S73) (i : Nat) (y : Int) : List S73 := l.set i ⟨(l.getD i z73).f0, y⟩
def turnedL (l : List S73) : List S73 := if l.length = 0 then l else setY (setY l 0 1077936128) (l.length - 1) 3221225472
theorem setY_len (l : List S73) (i : Nat) (y : Int) : (setY l i y).length = l.length := by simp [setY]
theorem turnedL_len (l : List S73) : (turnedL l).length = l.length := by
  unfold turnedL
  split
  · rfl
  · rw [setY_len, setY_len]
theorem two_set {α : Type} (f1 f2 : α → Value) : ∀ (l : List α) (i : Nat) (x y : α), l[i]? = some x → f1 y = f1 x → (two f1 f2 l).set (i * 2 + 1) (f2 y) = two f1 f2 (l.set i y)
  | [], i, x, y, h, _ => by simp at h
  | z :: t, 0, x, y, h, e => by
    obtain rfl : z = x := by simpa using h
    simp [two, e]
  | z :: t, i + 1, x, y, h, e => by
    have ih := two_set f1 f2 t i x y (by simpa using h) e
    have e1 : two f1 f2 (z :: t) = f1 z :: f2 z :: two f1 f2 t := rfl
    have e2 : two f1 f2 ((z :: t).set (i + 1) y) = f1 z :: f2 z :: two f1 f2 (t.set i y) := rfl
    rw [e1, e2, show (i + 1) * 2 + 1 = (i * 2 + 1) + 1 + 1 by omega, List.set_cons_succ, List.set_cons_succ, ih]
theorem dotv_set (l : List S73) (i : Nat) (y : Int) (hi : i < l.length) : (dotv l).set (i * 2 + 1) (.int .u32 y) = dotv (setY l i y) := by
  unfold dotv setY
  rw [List.getD_eq_getElem?_getD, List.getElem?_eq_getElem hi]
  exact two_set (fun d : S73 => .int .i64 d.f0) (fun d => .int .u32 d.f1) l i l[i] ⟨l[i].f0, y⟩ (List.getElem?_eq_getElem hi) rfl
theorem pntv_set (l : List S73) (i : Nat) (y : Nat) (hi : i < l.length) : (pntv (l.map dP)).set (i * 2 + 1) (.float .f32 y) = pntv ((setY l i y).map dP) := by
  unfold pntv setY
  rw [List.getD_eq_getElem?_getD, List.getElem?_eq_getElem hi, List.map_set]
  exact two_set (fun d : S58 => .int .i64 d.f0) (fun d => .float .f32 d.f1) (l.map dP) i (dP l[i]) (dP ⟨l[i].f0, y⟩) (by rw [List.getElem?_map, List.getElem?_eq_getElem hi]; rfl) rfl
theorem InRow.set {w : World} {g : Nat} {l : List S73} (h : InRow w g (l.map dP)) (i : Nat) (y : Nat) (hi : i < l.length) : InRow (w.setCell ⟨g, i * 2 + 1, none⟩ (.float .f32 y)) g ((setY l i y).map dP) := by
  have hlt : i * 2 + 1 < (pntv (l.map dP)).length := by unfold pntv; rw [two_len, List.length_map]; omega
  have hother : ∀ j, j ≠ i * 2 + 1 → (w.setCell ⟨g, i * 2 + 1, none⟩ (.float .f32 y)).cell? ⟨g, j, none⟩ = w.cell? ⟨g, j, none⟩ := fun j hj => World.cell?_setCell_other w _ _ _ (fun e => hj (by injection e with _ e2 _; exact e2.symm))
  have hm0 := h.m0
  have hm1 := h.m1
  rw [List.length_map] at hm0 hm1
  refine ⟨fun j u hu => ?_, ?_, ?_, fun j => ?_⟩
  · rw [← pntv_set l i y hi] at hu
    by_cases hj : j = i * 2 + 1
    · subst hj
      rw [List.getElem?_set_self hlt] at hu
      obtain rfl := Option.some.inj hu
      exact World.cell?_setCell_same w _ _ (h.cell _ _ (List.getElem?_eq_getElem hlt))
    · rw [List.getElem?_set_ne (fun e => hj e.symm)] at hu
      rw [hother j hj]
      exact h.cell j u hu
  · rw [List.length_map, setY_len, hother _ (by omega)]; exact hm0
  · rw [List.length_map, setY_len, hother _ (by omega)]; exact hm1
  · rw [World.frozen?_setCell]; exact h.fr j
theorem info73 : (Try.prog.info? 73).map (fun i => (i.zero, i.size, i.bytes)) = some (some (.agg #[.int .i64 0, .int .u32 0]), 2, 16) := by kernel_rfl
theorem dotv_cells {w : World} {A : Option Addr} {l : List S73} (h : Kd.C k73 w A l.length l) (hp : 0 < l.length) : ∃ ad, A = some ad ∧ ∀ j u, (dotv l)[j]? = some u → w.cell? (ad.add j) = some u := by
  obtain ⟨_, _, h3⟩ := h
  obtain ⟨ad, e, hc⟩ := h3 hp
  refine ⟨ad, e, fun j u hu => ?_⟩
  obtain ⟨q, r, hr, rfl⟩ : ∃ q r, r < 2 ∧ j = q * 2 + r := ⟨j / 2, j % 2, by omega, by omega⟩
  have hj := (List.getElem?_eq_some_iff.1 hu).1
  unfold dotv at hu hj
  rw [two_len] at hj
  have hq : q < l.length := by omega
  obtain ⟨c, hcl, hK, hcc⟩ := hc q l[q] (List.getElem?_eq_getElem hq)
  obtain rfl := k73_open hK
  obtain ⟨h0, h1⟩ := two_at (fun d : S73 => .int .i64 d.f0) (fun d => .int .u32 d.f1) l q
  rw [List.getElem?_eq_getElem hq] at h0 h1
  match r, hr with
  | 0, _ => exact hcc 0 u (by rw [Nat.add_zero] at hu; rw [h0] at hu; exact hu)
  | 1, _ => exact hcc 1 u (by rw [h1] at hu; exact hu)
theorem grown_some {w w' : World} {g : Nat} (h : w.grownBy w' none) : w.grownBy w' (some g) := ⟨h.os, h.tape, h.output, h.size, fun i hi _ => h.block i hi (by simp)⟩
set_option maxHeartbeats 4000000 in
theorem turned_nil (v : Value) (A : Option Addr) (c1 : Nat) (g cap : Nat) (l : List S73) (w : World) (h0 : l.length = 0) (hr : Kd.C k73 w A l.length l) (hc : l.length ≤ c1) (hg : g < w.heap.size) :
    Calls Try.prog 19 #[.slice (some ⟨g, 0, none⟩) l.length cap, .slice A l.length c1] w fun e w' => ∃ A' c', e = .returned (.slice A' (turnedL l).length c') ∧ (turnedL l).length ≤ c' ∧ Kd.C k73 w' A' (turnedL l).length (turnedL l) ∧ w.grownBy w' (some g) ∧ (InRow w g (l.map dP) → InRow w' g ((turnedL l).map dP)) := by
  obtain rfl : l = [] := List.eq_nil_of_length_eq_zero h0
  have HR := Aside0.mk hr
  clear hr
  simp only [List.length_nil]
  go_enter Try.func19, Try.ntmps19
  go_wp2_with (first | (at_builtin; refine Kd.N_append_rows k73 w.heap.size rfl _ _ 41 73 (.agg #[.int .i64 0, .int .u32 0]) 16 rfl Try.underlying41 info73 (by decide) (by decide) (by decide) (.slice none 0 0) [] [] A 0 c1 (fun _ => True) (fun _ => False) rfl rfl (Kd.N_nil _ _ _ _ _) (fun W' _ => ⟨HR.out.1, HR.out.2.1, fun h => absurd h (by simp)⟩) (fun _ h => h.elim) (fun _ _ => trivial) (Below.refl _ w) (Nat.le_refl _) (by simp) ?_; intro v1 w1 hN hB hG hat))
  obtain ⟨A', c', rfl, hc', hC⟩ := Kd.N_reads hN
  go_ret
  exact ⟨A', c', rfl, hc', hC, grown_some hG, fun h => h.keep (hG.block g hg (by simp [Value.ownBlock]))⟩
theorem InRow.cellY {w : World} {g : Nat} {l : List S73} (h : InRow w g (l.map dP)) (i : Nat) (hi : i < l.length) : ∃ u, w.cell? ⟨g, i * 2 + 1, none⟩ = some u := by
  obtain ⟨_, h1⟩ := two_at (fun d : S58 => .int .i64 d.f0) (fun d => .float .f32 d.f1) (l.map dP) i
  rw [List.getElem?_map, List.getElem?_eq_getElem hi] at h1
  exact ⟨_, h.cell _ _ h1⟩
structure Fits4 (w1 : World) (g g1 m : Nat) (l : List S73) : Prop where
  a0 : ∃ u, w1.cell? ⟨g, 1, none⟩ = some u
  a1 : w1.frozen? ⟨g, 1, none⟩ = false
  b0 : ∃ u, (w1.setCell ⟨g, 1, none⟩ (.float .f32 1077936128)).cell? ⟨g, m * 2 + 1, none⟩ = some u
  b1 : w1.frozen? ⟨g, m * 2 + 1, none⟩ = false
  c0 : ∃ u, ((w1.setCell ⟨g, 1, none⟩ (.float .f32 1077936128)).setCell ⟨g, m * 2 + 1, none⟩ (.float .f32 3221225472)).cell? ⟨g1, 1, none⟩ = some u
  c1 : w1.frozen? ⟨g1, 1, none⟩ = false
  d0 : ∃ u, (((w1.setCell ⟨g, 1, none⟩ (.float .f32 1077936128)).setCell ⟨g, m * 2 + 1, none⟩ (.float .f32 3221225472)).setCell ⟨g1, 1, none⟩ (.int .u32 1077936128)).cell? ⟨g1, m * 2 + 1, none⟩ = some u
  d1 : w1.frozen? ⟨g1, m * 2 + 1, none⟩ = false
theorem fits4 {w1 : World} {g g1 m cp1 base : Nat} {l : List S73} (hm : l.length = m + 1) (hin : InRow w1 g (l.map dP)) (hne : g ≠ g1) (hown : w1.ownsRow base 73 2 (.slice (some ⟨g1, 0, none⟩) (m + 1) cp1) (m + 1) (dotv l)) : Fits4 w1 g g1 m l := by
  have hd : (dotv l).length = (m + 1) * 2 := by unfold dotv; rw [two_len, hm]
  have far : ∀ {W : World} {j : Nat} {p : Addr} {u : Value}, p.block = g → (W.setCell p u).cell? ⟨g1, j, none⟩ = W.cell? ⟨g1, j, none⟩ := fun {W j p u} hp => World.cell?_setCell_other W _ _ _ (fun e => hne (by rw [← hp, e]))
  refine ⟨?_, hin.fr _, ?_, hin.fr _, ?_, hown.frozenAt _, ?_, hown.frozenAt _⟩
  · have := hin.cellY 0 (by omega)
    exact this
  · obtain ⟨u, hu⟩ := hin.cellY m (by omega)
    obtain ⟨v, hv⟩ := cell?_setCell_some (p := ⟨g, 1, none⟩) (x := .float .f32 1077936128) hu
    exact ⟨v, hv⟩
  · rw [far rfl, far rfl, hown.cellAt 1 (by omega), List.getElem?_eq_getElem (by omega)]
    exact ⟨_, rfl⟩
  · obtain ⟨u, hu⟩ : ∃ u, w1.cell? ⟨g1, m * 2 + 1, none⟩ = some u := by
      rw [hown.cellAt _ (by omega), List.getElem?_eq_getElem (by omega)]
      exact ⟨_, rfl⟩
    rw [← far (p := ⟨g, 1, none⟩) (u := .float .f32 1077936128) rfl, ← far (p := ⟨g, m * 2 + 1, none⟩) (u := .float .f32 3221225472) rfl] at hu
    exact cell?_setCell_some hu
theorem turn_end {w w1 : World} {g g1 m cp1 base : Nat} {l : List S73} (hm : l.length = m + 1) (hin : InRow w1 g (l.map dP)) (hg : g < w.heap.size) (hg1 : w.heap.size ≤ g1) (hgrow : w.grownBy w1 none) (hown : w1.ownsRow base 73 2 (.slice (some ⟨g1, 0, none⟩) (m + 1) cp1) (m + 1) (dotv l)) :
    let W5 := (((w1.setCell ⟨g, 1, none⟩ (.float .f32 1077936128)).setCell ⟨g, m * 2 + 1, none⟩ (.float .f32 3221225472)).setCell ⟨g1, 1, none⟩ (.int .u32 1077936128)).setCell ⟨g1, m * 2 + 1, none⟩ (.int .u32 3221225472)
    (m + 1 ≤ cp1) ∧ Kd.C k73 W5 (some ⟨g1, 0, none⟩) (m + 1) (turnedL l) ∧ w.grownBy W5 (some g) ∧ InRow W5 g ((turnedL l).map dP) := by
  intro W5
  have hne : g ≠ g1 := by omega
  have hT : turnedL l = setY (setY l 0 1077936128) m 3221225472 := by
    unfold turnedL
    rw [if_neg (by omega), show l.length - 1 = m by omega]
  have hcp : m + 1 ≤ cp1 ∧ cp1 ≤ maxLen := by
    rcases hown.2 with ⟨e, _⟩ | ⟨g', cap, cur, e, _, _, h1, h2, _⟩
    · cases e
    · injection e with _ _ e3
      subst e3
      exact ⟨h1, h2⟩
  have own1 : (w1.setCell ⟨g, 1, none⟩ (.float .f32 1077936128)).ownsRow base 73 2 (.slice (some ⟨g1, 0, none⟩) (m + 1) cp1) (m + 1) (dotv l) := own_setCell hown (by simp [Value.ownBlock]; omega) _
  have own2 := own_setCell (p := ⟨g, m * 2 + 1, none⟩) own1 (by simp [Value.ownBlock]; omega) (.float .f32 3221225472)
  have own3 := (own2.stored (0 * 2 + 1) (.int .u32 1077936128)).1
  rw [dotv_set l 0 _ (by omega)] at own3
  have own4 := (own3.stored (m * 2 + 1) (.int .u32 3221225472)).1
  rw [dotv_set _ m _ (by rw [setY_len]; omega), ← hT] at own4
  refine ⟨hcp.1, C_dot (by rw [turnedL_len, hm]) (by have := hcp.2; unfold maxLen at this; omega) (fun j u hu => ?_), ?_, ?_⟩
  · have := own4.cells (g := g1) rfl j u hu
    rwa [add_plain] at this
  · refine ⟨hgrow.os, hgrow.tape, hgrow.output, by simpa [W5] using hgrow.size, fun i hi hne0 => ?_⟩
    have hne' : i ≠ g := fun e => hne0 (by rw [e])
    have h0 : i ≠ g1 := by omega
    refine (Below.heap_setCell _ _ _ i h0).trans ((Below.heap_setCell _ _ _ i h0).trans ((Below.heap_setCell _ _ _ i hne').trans ((Below.heap_setCell _ _ _ i hne').trans (hgrow.block i hi (by simp)))))
  · have in1 := hin.set 0 1077936128 (by omega)
    have in2 := in1.set m 3221225472 (by rw [setY_len]; omega)
    have e : setY (setY l 0 ((1077936128 : Nat) : Int)) m ((3221225472 : Nat) : Int) = turnedL l := hT.symm
    rw [e] at in2
    exact in2.keep ((Below.heap_setCell _ _ _ g hne).trans (Below.heap_setCell _ _ _ g hne))
set_option maxHeartbeats 4000000 in
theorem turned_pos (A : Option Addr) (c1 : Nat) (g cap : Nat) (l : List S73) (w : World) (h0 : 0 < l.length) (hr : Kd.C k73 w A l.length l) (hc : l.length ≤ c1) (hcap : l.length + 2 ≤ cap) (hlen : l.length * 16 ≤ 140737488355328) (hg : g < w.heap.size) (hin : InRow w g (l.map dP)) :
    Calls Try.prog 19 #[.slice (some ⟨g, 0, none⟩) l.length cap, .slice A l.length c1] w fun e w' => ∃ A' c', e = .returned (.slice A' (turnedL l).length c') ∧ (turnedL l).length ≤ c' ∧ Kd.C k73 w' A' (turnedL l).length (turnedL l) ∧ w.grownBy w' (some g) ∧ InRow w' g ((turnedL l).map dP) := by
  obtain ⟨ad, rfl, hcell⟩ := dotv_cells hr h0
  obtain ⟨i0, hi0, hz0, hz1, hz2⟩ := info_parts info73
  have HCELL := Aside0.mk hcell
  have HIN := Aside0.mk hin
  clear hr hcell hin
  obtain ⟨m, hm⟩ : ∃ m, l.length = m + 1 := ⟨l.length - 1, by omega⟩
  have HM := Aside0.mk hm
  rw [hm] at h0 hc hcap hlen ⊢
  clear hm
  have b0 : (m : Int) ≤ 8796093022208 := by omega
  have b1 : (m : Int) + 1 ≤ (cap : Int) := by omega
  go_enter Try.func19, Try.ntmps19
  go_wp2_with (first | (at_builtin; (refine wpList_append_own _ rfl _ _ 41 rfl w.heap.size 73 i0 (.agg #[.int .i64 0, .int .u32 0]) 2 16 Try.underlying41 hi0 hz0 hz1 hz2 rfl (by decide) (.slice none 0 0) 0 [] rfl (own_nil _ _ _ _) ad (m + 1) c1 (dotv l) rfl (by unfold dotv; rw [two_len, HM.out]) HCELL.out (by intro u hu; unfold dotv two at hu; simp at hu; obtain ⟨d, _, rfl | rfl⟩ := hu <;> rfl) (by unfold maxLen; omega) (by omega) (Nat.le_refl _) ?_); intro v1 w1 hown hgrow _; obtain ⟨g1, cp1, e1, hg1, hg1'⟩ := hown.form (by omega); subst e1; have HOWN := Aside0.mk hown; have HGROW := Aside0.mk hgrow; have HG1 := Aside0.mk hg1; clear hown hgrow hg1; obtain ⟨⟨u1, a0⟩, a1, ⟨u2, b0⟩, b1, ⟨u3, c0⟩, c1, ⟨u4, d0⟩, d1⟩ := fits4 (w1 := w1) (g := g) (g1 := g1) HM.out (HIN.out.keep (HGROW.out.block g hg (by simp [Value.ownBlock]))) (by have := HG1.out; omega) (by have := HOWN.out; rw [Nat.zero_add, List.nil_append] at this; exact this)))
  go_ret
  have hown := HOWN.out
  rw [Nat.zero_add, List.nil_append] at hown
  obtain ⟨k1, k2, k3, k4⟩ := turn_end HM.out (HIN.out.keep (HGROW.out.block g hg (by simp [Value.ownBlock]))) hg HG1.out HGROW.out hown
  exact ⟨some ⟨g1, 0, none⟩, cp1, by rw [turnedL_len, HM.out]; rfl, by rw [turnedL_len, HM.out]; exact k1, by rw [turnedL_len, HM.out]; exact k2, k3, k4⟩
end Go.Proofs.Ytfhgomcfpmbhnaa.Y
end

section
namespace Go.Proofs.Ytfhgomcfpmbhnaa.F
open Go.RowKit Go.Proofs.Ytfhgomcfpmbhnaa.Y Go.Proofs.Ytfhgomcfpmbhnaa.PS Ieee
open Go.Proofs.YtfhgomcfpmbhnaaW.PrintWords Go.Proofs.YtfhgomcfpmbhnaaW.PrintMore
set_option linter.unusedVariables false
set_option linter.unusedSimpArgs false
theorem fk_of {x y r : Nat} : (single.add x y = some r → fk_add x y = true ∧ fl_add x y = r) ∧ (single.sub x y = some r → fk_sub x y = true ∧ fl_sub x y = r) ∧ (single.mul x y = some r → fk_mul x y = true ∧ fl_mul x y = r) ∧ (single.div x y = some r → fk_quo x y = true ∧ fl_quo x y = r) := by
  refine ⟨fun h => ?_, fun h => ?_, fun h => ?_, fun h => ?_⟩
  · exact ⟨by unfold fk_add; rw [h]; rfl, by unfold fl_add; rw [h]; rfl⟩
  · exact ⟨by unfold fk_sub; rw [h]; rfl, by unfold fl_sub; rw [h]; rfl⟩
  · exact ⟨by unfold fk_mul; rw [h]; rfl, by unfold fl_mul; rw [h]; rfl⟩
  · exact ⟨by unfold fk_quo; rw [h]; rfl, by unfold fl_quo; rw [h]; rfl⟩
theorem sub_ev {x y r : Nat} (hx : x < 4294967296) (hy : y < 4294967296) (h : single.sub x y = some r) : Ev (fun k => levyref17_Sub.f k (x : Int) (y : Int)) (r : Int) := by
  have e := sub_is x y hx hy
  rwa [h, orN_some] at e
theorem add_ev {x y r : Nat} (hx : x < 4294967296) (hy : y < 4294967296) (h : single.add x y = some r) : Ev (fun k => levyref17_Add.f k (x : Int) (y : Int)) (r : Int) := by
  have e := add_is x y hx hy
  rwa [h, orN_some] at e
theorem div_ev {x y r : Nat} (hx : x < 4294967296) (hy : y < 4294967296) (fy : y % 2147483648 < 2139095040) (hm : mX y ≠ 0) (h : single.div x y = some r) : Ev (fun k => levyref17_Div.f k (x : Int) (y : Int)) (r : Int) := by
  have e := div_is x y hx hy fy hm
  rwa [h, orN_some] at e
end Go.Proofs.Ytfhgomcfpmbhnaa.F
end

section
namespace Go.Proofs.Ytfhgomcfpmbhnaa.F
open Go.RowKit Go.Proofs.Ytfhgomcfpmbhnaa.Y Go.Proofs.Ytfhgomcfpmbhnaa.PS Ieee
open Go.Proofs.YtfhgomcfpmbhnaaW.PrintWords Go.Proofs.YtfhgomcfpmbhnaaW.PrintMore
set_option linter.unusedVariables false
set_option linter.unusedSimpArgs false
theorem bits_from (l : List S73) (hl : l.length < 8796093022208) : ∀ (n : Nat) (i : Nat), i + n = l.length → Ev (fun k => levylaw17_bits.l0 k l ((l.take i).map dB) (i : Int)) (l.map dB) := by
  intro n
  induction n with
  | zero =>
    intro i hi
    refine Ev.step (f := fun _ => some (l.map dB)) (fun k => ?_) (Ev.now _)
    rw [levylaw17_bits.l0, if_neg (by omega), List.take_of_length_le (by omega)]
  | succ n ih =>
    intro i hi
    refine Ev.step (fun k => ?_) (ih (i + 1) (by omega))
    have hlt : i < l.length := by omega
    have e1 : (l.take (i + 1)).map dB = (l.take i).map dB ++ [(⟨(rd_T73 l (i : Int)).f0, (rd_T73 l (i : Int)).f1⟩ : S38)] := by
      rw [List.take_add_one, List.map_append]
      unfold rd_T73
      rw [List.getD_eq_getElem?_getD, Int.toNat_natCast, List.getElem?_eq_getElem hlt]
      rfl
    rw [levylaw17_bits.l0, if_pos (by omega), if_pos (by omega), if_pos (by rw [List.length_map, List.length_take]; omega), e1, show wrap64 ((i : Int) + 1) = ((i + 1 : Nat) : Int) by unfold wrap64; omega]
theorem bits_is (l : List S73) (hl : l.length < 8796093022208) : Ev (fun k => levylaw17_bits.f k l) (l.map dB) := bits_from l hl l.length 0 (by omega)
end Go.Proofs.Ytfhgomcfpmbhnaa.F
end

section
namespace Go.Proofs.Ytfhgomcfpmbhnaa.Y
open Go.RowKit Go.Proofs.Ytfhgomcfpmbhnaa.PS Go.Proofs.Ytfhgomcfpmbhnaa.F Go.Proofs.YtfhgomcfpmbhnaaW.PrintWords Go.Proofs.YtfhgomcfpmbhnaaW.PrintMore Go.Proofs.YtfhgomcfpmbhnaaW.Fits
set_option linter.unusedVariables false
set_option maxRecDepth 100000
theorem turned_calls (A : Option Addr) (c1 : Nat) (g cap : Nat) (l : List S73) (w : World) (hr : Kd.C k73 w A l.length l) (hc : l.length ≤ c1) (hcap : l.length + 2 ≤ cap) (hlen : l.length * 16 ≤ 140737488355328) (hg : g < w.heap.size) (hin : InRow w g (l.map dP)) :
    Calls Try.prog 19 #[.slice (some ⟨g, 0, none⟩) l.length cap, .slice A l.length c1] w fun e w' => ∃ A' c', e = .returned (.slice A' (turnedL l).length c') ∧ (turnedL l).length ≤ c' ∧ Kd.C k73 w' A' (turnedL l).length (turnedL l) ∧ w.grownBy w' (some g) ∧ InRow w' g ((turnedL l).map dP) := by
  by_cases h0 : l.length = 0
  · exact (turned_nil (.bool true) A c1 g cap l w h0 hr hc hg).mono fun e w' ⟨A', c', h1, h2, h3, h4, h5⟩ => ⟨A', c', h1, h2, h3, h4, h5 hin⟩
  · exact turned_pos A c1 g cap l w (by omega) hr hc hcap hlen hg hin
theorem good_turned {l : List S73} (h : F.Good l) : F.Good (turnedL l) := by
  refine ⟨by rw [turnedL_len]; exact h.1, ?_⟩
  have hz : ∀ i, (0 ≤ (l.getD i z73).f1 ∧ (l.getD i z73).f1 < 4294967296) ∧ -9223372036854775808 ≤ (l.getD i z73).f0 ∧ (l.getD i z73).f0 ≤ 9223372036854775807 := fun i => by
    rw [List.getD_eq_getElem?_getD]
    by_cases hi : i < l.length
    · rw [List.getElem?_eq_getElem hi]
      exact h.2 _ (List.getElem_mem hi)
    · rw [List.getElem?_eq_none (by omega)]
      show (0 ≤ (0 : Int) ∧ (0 : Int) < 4294967296) ∧ -9223372036854775808 ≤ (0 : Int) ∧ (0 : Int) ≤ 9223372036854775807
      omega
  have step : ∀ (m : List S73) (i : Nat) (y : Int), (∀ d ∈ m, (0 ≤ d.f1 ∧ d.f1 < 4294967296) ∧ -9223372036854775808 ≤ d.f0 ∧ d.f0 ≤ 9223372036854775807) → 0 ≤ y → y < 4294967296 → ∀ d ∈ setY m i y, (0 ≤ d.f1 ∧ d.f1 < 4294967296) ∧ -9223372036854775808 ≤ d.f0 ∧ d.f0 ≤ 9223372036854775807 := by
    intro m i y hm y0 y1 d hd
    unfold setY at hd
    rcases List.mem_or_eq_of_mem_set hd with hd | rfl
    · exact hm d hd
    · refine ⟨⟨y0, y1⟩, ?_⟩
      rw [List.getD_eq_getElem?_getD]
      by_cases hi : i < m.length
      · rw [List.getElem?_eq_getElem hi]
        exact (hm _ (List.getElem_mem hi)).2
      · rw [List.getElem?_eq_none (by omega)]
        show -9223372036854775808 ≤ (0 : Int) ∧ (0 : Int) ≤ 9223372036854775807
        omega
  unfold turnedL
  split
  · exact h.2
  · exact step _ _ _ (step _ _ _ h.2 (by omega) (by omega)) (by omega) (by omega)
theorem C_cells {α : Type} {d : Kd α} (hd : ∀ {W W' : World} {x : α} {cs : List Value}, d.K W x cs → d.K W' x cs) {w w' : World} {A : Option Addr} {n : Nat} {l : List α} (h : d.C w A n l) (hk : ∀ a v, w.cell? a = some v → a.block < w.heap.size → w'.cell? a = some v) : d.C w' A n l := by
  refine ⟨h.1, h.2.1, fun hp => ?_⟩
  obtain ⟨ad, e, hc⟩ := h.2.2 hp
  refine ⟨ad, e, fun j p hj => ?_⟩
  obtain ⟨c, hcl, hK, hcc⟩ := hc j p hj
  exact ⟨c, hcl, hd hK, fun i u hu => hk _ _ (hcc i u hu) (World.block_lt_of_cell? w _ (hcc i u hu))⟩
def TrueBelow (w : World) (e : Ending) (w' : World) : Prop := e = .returned (.bool true) ∧ Below w.heap.size w w'
theorem k73_K {W W' : World} {x : S73} {cs : List Value} (h : k73.K W x cs) : k73.K W' x cs := by
  rw [k73_open h]
  exact k73_mk W' x
theorem C_old {α : Type} {d : Kd α} (hd : ∀ {W W' : World} {x : α} {cs : List Value}, d.K W x cs → d.K W' x cs) {w w' : World} {A : Option Addr} {n : Nat} {l : List α} (h : d.C w A n l) (hk : ∀ i, i < w.heap.size → w'.heap[i]? = w.heap[i]?) : d.C w' A n l :=
  C_cells hd h fun a v hv hlt => (World.cell?_of_block (hk _ hlt)).trans hv
theorem good_ok (l : List S73) (hl : l.length < 4611686018427387904) (h : ∀ x ∈ l, (Lit.int .i64 x.f0).wf = true ∧ (Lit.int .u32 x.f1).wf = true) : F.Good l := by
  refine ⟨hl, fun d hd => ?_⟩
  obtain ⟨h0, h1⟩ := h d hd
  have a : IntKind.i64.min ≤ d.f0 ∧ d.f0 ≤ IntKind.i64.max := by simpa [Lit.wf] using h0
  have b : IntKind.u32.min ≤ d.f1 ∧ d.f1 ≤ IntKind.u32.max := by simpa [Lit.wf] using h1
  exact ⟨⟨b.1, Int.lt_of_le_of_lt b.2 (by decide)⟩, a.1, a.2⟩
end Go.Proofs.Ytfhgomcfpmbhnaa.Y
end

section
namespace Go.Proofs.Ytfhgomcfpmbhnaa.PS
open Go.RowKit Go.Proofs.YtfhgomcfpmbhnaaW.PrintWords Go.Proofs.YtfhgomcfpmbhnaaW.PrintLast Go.Proofs.YtfhgomcfpmbhnaaW.PrintMore
attribute [local go_sem] frun_add frun_sub frun_mul frun_quo frun_neg frun_of frun_same frun_store frun_bits frun_from
attribute [local go_sem] max2_int min2_int max_two min_two max_three min_three max_four min_four
set_option linter.unusedVariables false
set_option linter.unusedSimpArgs false
def curve_Rate.l0 : Nat → List (S58) → List (S58) → Int → Int → Option ((List (S58)))
 | 0, _, _, _, _ => none
 | k + 1, x3, x6, x7, x8 => if x8 < x7 then (if 0 ≤ x8 then (if x8 < (x6.length : Int) then (if ((rd_T58 x6 x8).f0) = 0 then (curve_Rate.l0 k x3 x6 x7 (wrap64 (x8 + 1))) else ((curve_finite.f ((rd_T58 x6 x8).f1)).bind fun t261 => (if t261 = true then ((curve_whole.f ((rd_T58 x6 x8).f0)).bind fun t262 => (if fk_quo ((rd_T58 x6 x8).f1) t262 = true then (if x3.length < 8796093022208 then (curve_Rate.l0 k (x3 ++ [(⟨(rd_T58 x6 x8).f0, fl_quo ((rd_T58 x6 x8).f1) t262⟩ : S58)]) x6 x7 (wrap64 (x8 + 1))) else (none)) else (none))) else (curve_Rate.l0 k x3 x6 x7 (wrap64 (x8 + 1)))))) else (none)) else (none)) else (some x3)
def curve_Rate.f (k : Nat) (l0 : List (S58)) : Option ((List (S58))) := curve_Rate.l0 k ([] : List (S58)) l0 (l0.length : Int) 0
theorem curve_Rate.mono_l : ∀ k, (∀ y0 y1 y2 y3, LeO (curve_Rate.l0 k y0 y1 y2 y3) (curve_Rate.l0 (k + 1) y0 y1 y2 y3))
 | 0 => fun _ _ _ _ r h => by simp [curve_Rate.l0] at h
 | k + 1 => by
  have ih0 := curve_Rate.mono_l k
  ·intro y0 y1 y2 y3
   unfold curve_Rate.l0
   repeat' first
   | (with_reducible exact ih0 _ _ _ _)
   | (with_reducible exact LeO.refl _)
   | (with_reducible exact LeO.none _)
   | (with_reducible refine LeO.ite ?_ ?_)
   | (with_reducible refine LeO.bind ?_ (fun _ => ?_))
   | exact ih0 _ _ _ _
   | exact LeO.none _
   | refine LeO.ite ?_ ?_
   | refine LeO.bind ?_ (fun _ => ?_)
theorem curve_Rate.mono : ∀ a0 k, LeO (curve_Rate.f k a0) (curve_Rate.f (k + 1) a0) := by
 intro a0 k
 have ih0 := curve_Rate.mono_l k
 unfold curve_Rate.f
 repeat' first
   | (with_reducible exact ih0 _ _ _ _)
   | (with_reducible exact LeO.refl _)
   | (with_reducible exact LeO.none _)
   | (with_reducible refine LeO.ite ?_ ?_)
   | (with_reducible refine LeO.bind ?_ (fun _ => ?_))
   | exact ih0 _ _ _ _
   | exact LeO.none _
   | refine LeO.ite ?_ ?_
   | refine LeO.bind ?_ (fun _ => ?_)
def curve_Rate.T6 : Bool × List (List Nat × List Nat) := (true, [([], []), ([], []), ([1], [1]), ([], []), ([3], [3]), ([], []), ([5], [5]), ([6], [6]), ([4, 7], [4, 7]), ([2, 8], [2, 8]), ([9], [9]), ([0, 10, 7], [0, 10]), ([11, 11, 0, 1, 2, 3, 4, 5, 6, 7, 8, 9, 10, 11], [0, 11])])
def curve_Rate.B6 : List Nat := [0, 0, 2, 0, 8, 0, 32, 96, 248, 510, 1022, 2047, 4095]
theorem curve_Rate.tab6 : rtab .any (opsOf Try.f30 6) = curve_Rate.T6 := by kernel_rfl
theorem curve_Rate.bits6 : waitsOk curve_Rate.T6.2 curve_Rate.B6 = true := by kernel_rfl
set_option maxHeartbeats 8000000 in
set_option maxRecDepth 100000 in
theorem curve_Rate.calls (k : Nat) (A0 : Option Addr) (c0 : Nat) (l0 : List (S58)) (r : List (S58)) (w : World) (hr0 : Kd.C k58 w A0 l0.length l0) (hc0 : l0.length ≤ c0) (h : curve_Rate.f k l0 = some r) :
  Calls Try.prog 30 #[.slice A0 l0.length c0] w fun e w' => ∃ v0_ : Value, e = .returned (v0_) ∧ Kd.R k58 58 w' w.heap.size (fun _ => True) v0_ r ∧ Below w.heap.size w w' := by
 have hu58 := Try.underlying58
 have HR0 := Aside0.mk hr0
 have HC0 := Aside0.mk hc0
 clear hr0 hc0
 have HB := Aside0.mk (Below.refl w.heap.size w)
 have H : (curve_Rate.l0 k ([] : List (S58)) l0 (l0.length : Int) 0) = some r := h
 clear h
 have H' := Aside0.mk H
 clear H
 go_enter Try.func30, Try.ntmps30
 go_wp2
 go_loopg [3, 8] k (fun kq v3 v8 w' => ∃ (x3_1 : List (S58)) (x8_1 : Int), v8 = .int .i64 x8_1 ∧ Aside0 (curve_Rate.l0 kq x3_1 l0 (l0.length : Int) x8_1 = some r) ∧ Aside0 (kq ≤ k) ∧ Aside0 (Kd.R k58 58 w' w.heap.size (fun _ => True) v3 x3_1) ∧ Aside0 (Below w.heap.size w w'))
 case atStart => exact ⟨(([] : List (S58))), (0), (by first | rfl | (simp; done) | (simp [*]; done)), H', ⟨Nat.le_refl _⟩, ⟨by first | exact Kd.R_nil _ _ _ _ _ | exact Kd.N_nil _ _ _ _ _ | exact Kd.V_nil _ _ _ _ _ | exact Kd.Q_nil _ _ _ _ _ | exact Kd.S_nil _ _ _ _ _⟩, ⟨blx⟩⟩
 case round =>
  clear H'
  obtain ⟨x3_1, x8_1, rfl, HA, HK1, HO_3, HB⟩ := hrel
  cases gk with
  | zero => exact absurd HA.out (by simp [curve_Rate.l0])
  | succ k1 =>
   have H := HA.out
   clear HA
   simp only [curve_Rate.l0] at H
   by_cases c2 : x8_1 < (l0.length : Int)
   ·rw [if_pos c2] at H
    have c2b0 : decide (x8_1 < (l0.length : Int)) = true := decide_eq_true c2
    clear c2
    by_cases c3 : 0 ≤ x8_1
    ·rw [if_pos c3] at H
     have c3b0 : decide (0 ≤ x8_1) = true := decide_eq_true c3
     clear c3
     by_cases c4 : x8_1 < (l0.length : Int)
     ·rw [if_pos c4] at H
      have c4b0 : decide (x8_1 < (l0.length : Int)) = true := decide_eq_true c4
      clear c4
      by_cases c5 : ((rd_T58 l0 x8_1).f0) = 0
      ·rw [if_pos c5] at H
       have c5b0 : (((rd_T58 l0 x8_1).f0) == 0) = true := beq_iff_eq.mpr c5
       have c5b1 : (((rd_T58 l0 x8_1).f0) != 0) = false := bne_eq_false_iff_eq.mpr c5
       clear c5
       have H' := Aside0.mk H
       clear H
       have p259 : 0 ≤ (x8_1 : Int) := odx
       have q259 : x8_1 < (l0.length : Int) := odx
       obtain ⟨ad259, e259, hx259_0, hx259_1⟩ := at_T58 HR0.out x8_1 p259 q259
       cases e259
       replace hx259_0 := (HB.out.cell (World.block_lt_of_cell? w _ hx259_0)).trans hx259_0
       replace hx259_1 := (HB.out.cell (World.block_lt_of_cell? w _ hx259_1)).trans hx259_1
       replace p259 := eq_true p259
       replace q259 := eq_true q259
       go_wp2_with (first | ((with_reducible refine gate_dst (N := 5) rfl ?_); refine box_event ?hg (N := 5) ?hd (cs := #[.int .i64 0, .float .f32 (0 : Nat)]) (t := 58) ?hr ?_; (case hd => rfl); (case hg => rfl); (case hr => first | (go_simp; done) | (go_simp; rfl)); intro gb260 hg w6 hbox hb; have n0_ := Aside0.mk (Kd.R_below (Kd.R_elderB (by (with_reducible repeat (first | apply Kd.R_alloc | apply Kd.R_drewN | apply Kd.R_drew)); exact HO_3.out) gb260 (Nat.le_of_eq hg.symm)) hb); have n1_ := Aside0.mk (below_step blx hb); have n2_ := Aside0.mk (hbox); have n3_ := Aside0.mk ((by rw [hg]; exact (below_size blx) : w.heap.size ≤ gb260)); have n4_ := Aside0.mk ((by rw [hg]; exact (below_size blx) : w.heap.size ≤ gb260)); clear HO_3; clear HB; have HO_3 := n0_; have HB := n1_; have BK260 := n2_; have GW260 := n3_; have GE260 := n4_; clear n0_ n1_ n2_ n3_ n4_; clear hb hbox hg; have hcz7_0 : w6.cell? ⟨gb260, 0, none⟩ = some (.int .i64 0) := (blk_cell BK260.out 0).trans rfl; have hcz7_1 : w6.cell? ⟨gb260, 1, none⟩ = some (.float .f32 (0 : Nat)) := (blk_cell BK260.out 1).trans rfl; have hfz7_0 := blk_frozen BK260.out 0; have hfz7_1 := blk_frozen BK260.out 1))
       go_roundg k1
       case measure => have := HK1.out; omega
       case rel => exact ⟨(x3_1), (wrap64 (x8_1 + 1)), (by first | rfl | (simp; done) | (simp [*]; done)), H', ⟨by have := HK1.out; omega⟩, ⟨by (with_reducible repeat (first | apply Kd.R_alloc | apply Kd.R_drewN | apply Kd.R_drew)); exact Kd.R_mono (Kd.R_far (p := ⟨gb260, 1, none⟩) (Kd.R_far (p := ⟨gb260, 0, none⟩) (Kd.R_mono HO_3.out (fun k_ hk => (⟨hk, hk.2⟩ : _ ∧ k_ ≠ gb260))) (fun _ hk => hk.2) (.int .i64 ((rd_T58 l0 x8_1).f0))) (fun _ hk => hk.2) (.float .f32 ((rd_T58 l0 x8_1).f1))) (fun _ hk => trivial)⟩, ⟨blx⟩⟩
      ·rw [if_neg c5] at H
       have c5b0 : (((rd_T58 l0 x8_1).f0) == 0) = false := beq_eq_false_iff_ne.mpr c5
       have c5b1 : (((rd_T58 l0 x8_1).f0) != 0) = true := bne_iff_ne.mpr c5
       replace H := Option.bind_eq_some_iff.mp H
       obtain ⟨t261, A80, H⟩ := H
       replace H : (if t261 = true then ((curve_whole.f ((rd_T58 l0 x8_1).f0)).bind fun t262 => (if fk_quo ((rd_T58 l0 x8_1).f1) t262 = true then (if x3_1.length < 8796093022208 then (curve_Rate.l0 k1 (x3_1 ++ [(⟨(rd_T58 l0 x8_1).f0, fl_quo ((rd_T58 l0 x8_1).f1) t262⟩ : S58)]) l0 (l0.length : Int) (wrap64 (x8_1 + 1))) else (none)) else (none))) else (curve_Rate.l0 k1 x3_1 l0 (l0.length : Int) (wrap64 (x8_1 + 1)))) = some r := H
       have A8 := Aside0.mk A80
       clear A80
       by_cases c9 : t261 = true
       ·subst c9
        have H1 : ((curve_whole.f ((rd_T58 l0 x8_1).f0)).bind fun t262 => (if fk_quo ((rd_T58 l0 x8_1).f1) t262 = true then (if x3_1.length < 8796093022208 then (curve_Rate.l0 k1 (x3_1 ++ [(⟨(rd_T58 l0 x8_1).f0, fl_quo ((rd_T58 l0 x8_1).f1) t262⟩ : S58)]) l0 (l0.length : Int) (wrap64 (x8_1 + 1))) else (none)) else (none))) = some r := by rw [if_pos rfl] at H; exact H
        clear H
        have H := H1
        clear H1
        replace H := Option.bind_eq_some_iff.mp H
        obtain ⟨t262, A100, H⟩ := H
        replace H : (if fk_quo ((rd_T58 l0 x8_1).f1) t262 = true then (if x3_1.length < 8796093022208 then (curve_Rate.l0 k1 (x3_1 ++ [(⟨(rd_T58 l0 x8_1).f0, fl_quo ((rd_T58 l0 x8_1).f1) t262⟩ : S58)]) l0 (l0.length : Int) (wrap64 (x8_1 + 1))) else (none)) else (none)) = some r := H
        have A10 := Aside0.mk A100
        clear A100
        by_cases c11 : fk_quo ((rd_T58 l0 x8_1).f1) t262 = true
        ·rw [if_pos c11] at H
         have c11b0 := eq_true c11
         have c11b1 : decide (fk_quo ((rd_T58 l0 x8_1).f1) t262 = true) = true := decide_eq_true c11
         clear c11
         by_cases c12 : x3_1.length < 8796093022208
         ·rw [if_pos c12] at H
          have LMc12 := Aside0.mk c12
          clear c12
          obtain ⟨y263, hy263⟩ : ∃ y_ : List (S58), y_ = (x3_1 ++ [(⟨(rd_T58 l0 x8_1).f0, fl_quo ((rd_T58 l0 x8_1).f1) t262⟩ : S58)]) := ⟨_, rfl⟩
          replace H : (curve_Rate.l0 k1 y263 l0 (l0.length : Int) (wrap64 (x8_1 + 1))) = some r := by first | (rw [hy263]; with_reducible exact H) | (have H2_ := (Option.bind_some _ _).symm.trans H; rw [hy263]; with_reducible exact H2_) | (have H2_ := (Option.bind_some _ _).symm.trans H; with_reducible exact H2_) | with_reducible exact H | (rw [hy263]; exact H) | exact H
          have Ny263 := Aside0.mk hy263
          clear hy263
          have H' := Aside0.mk H
          clear H
          have p259 : 0 ≤ (x8_1 : Int) := odx
          have q259 : x8_1 < (l0.length : Int) := odx
          obtain ⟨ad259, e259, hx259_0, hx259_1⟩ := at_T58 HR0.out x8_1 p259 q259
          cases e259
          replace hx259_0 := (HB.out.cell (World.block_lt_of_cell? w _ hx259_0)).trans hx259_0
          replace hx259_1 := (HB.out.cell (World.block_lt_of_cell? w _ hx259_1)).trans hx259_1
          replace p259 := eq_true p259
          replace q259 := eq_true q259
          try go_wp2_with (first | ((with_reducible refine gate_dst (N := 5) rfl ?_); refine box_event ?hg (N := 5) ?hd (cs := #[.int .i64 0, .float .f32 (0 : Nat)]) (t := 58) ?hr ?_; (case hd => rfl); (case hg => rfl); (case hr => first | (go_simp; done) | (go_simp; rfl)); intro gb260 hg w13 hbox hb; have n0_ := Aside0.mk (Kd.R_below (Kd.R_elderB (by (with_reducible repeat (first | apply Kd.R_alloc | apply Kd.R_drewN | apply Kd.R_drew)); exact HO_3.out) gb260 (Nat.le_of_eq hg.symm)) hb); have n1_ := Aside0.mk (below_step blx hb); have n2_ := Aside0.mk (hbox); have n3_ := Aside0.mk ((by rw [hg]; exact (below_size blx) : w.heap.size ≤ gb260)); have n4_ := Aside0.mk ((by rw [hg]; exact (below_size blx) : w.heap.size ≤ gb260)); clear HO_3; clear HB; have HO_3 := n0_; have HB := n1_; have BK260 := n2_; have GW260 := n3_; have GE260 := n4_; clear n0_ n1_ n2_ n3_ n4_; clear hb hbox hg; have hcz14_0 : w13.cell? ⟨gb260, 0, none⟩ = some (.int .i64 0) := (blk_cell BK260.out 0).trans rfl; have hcz14_1 : w13.cell? ⟨gb260, 1, none⟩ = some (.float .f32 (0 : Nat)) := (blk_cell BK260.out 1).trans rfl; have hfz14_0 := blk_frozen BK260.out 0; have hfz14_1 := blk_frozen BK260.out 1) | (go_at_call 50; (with_reducible refine (curve_finite.calls ((rd_T58 l0 x8_1).f1) true _ A8.out).mono ?_); rintro e w' ⟨rfl, ⟨nd, rfl⟩⟩))
          have n0_ : Aside0 (Kd.R k58 58 ((w13.setCell ⟨gb260, 0, none⟩ (.int .i64 ((rd_T58 l0 x8_1).f0))).setCell ⟨gb260, 1, none⟩ (.float .f32 ((rd_T58 l0 x8_1).f1))) w.heap.size (fun k_ => k_ ≠ gb260) u3 x3_1) := ⟨by (with_reducible repeat (first | apply Kd.R_alloc | apply Kd.R_drewN | apply Kd.R_drew)); exact Kd.R_mono (Kd.R_far (p := ⟨gb260, 1, none⟩) (Kd.R_far (p := ⟨gb260, 0, none⟩) (Kd.R_mono HO_3.out (fun k_ hk => (⟨hk, hk.2⟩ : _ ∧ k_ ≠ gb260))) (fun _ hk => hk.2) (.int .i64 ((rd_T58 l0 x8_1).f0))) (fun _ hk => hk.2) (.float .f32 ((rd_T58 l0 x8_1).f1))) (fun _ hk => hk.1.2)⟩
          have n1_ : Aside0 (((w13.setCell ⟨gb260, 0, none⟩ (.int .i64 ((rd_T58 l0 x8_1).f0))).setCell ⟨gb260, 1, none⟩ (.float .f32 ((rd_T58 l0 x8_1).f1))).heap[gb260]? = some (.cells #[.int .i64 ((rd_T58 l0 x8_1).f0), .float .f32 ((rd_T58 l0 x8_1).f1)] 58 (0, 0))) := ⟨by (with_reducible repeat (first | refine blk_drewN ?_ _ | refine blk_drew ?_ | refine blk_alloc ?_ _)); refine blk_put (cs := #[.int .i64 ((rd_T58 l0 x8_1).f0), .float .f32 (0 : Nat)]) ?_ 1 _ rfl; (with_reducible repeat (first | refine blk_drewN ?_ _ | refine blk_drew ?_ | refine blk_alloc ?_ _)); refine blk_put (cs := #[.int .i64 0, .float .f32 (0 : Nat)]) ?_ 0 _ rfl; (with_reducible repeat (first | refine blk_drewN ?_ _ | refine blk_drew ?_ | refine blk_alloc ?_ _)); exact BK260.out⟩
          have n2_ : Aside0 (Below w.heap.size w ((w13.setCell ⟨gb260, 0, none⟩ (.int .i64 ((rd_T58 l0 x8_1).f0))).setCell ⟨gb260, 1, none⟩ (.float .f32 ((rd_T58 l0 x8_1).f1)))) := ⟨blx⟩
          (try clear HO_3)
          (try clear BK260)
          (try clear HB)
          generalize ((w13.setCell ⟨gb260, 0, none⟩ (.int .i64 ((rd_T58 l0 x8_1).f0))).setCell ⟨gb260, 1, none⟩ (.float .f32 ((rd_T58 l0 x8_1).f1))) = w15 at n0_ n1_ n2_ ⊢
          have HO_3 := n0_
          have BK260 := n1_
          have HB := n2_
          clear n0_ n1_ n2_
          (try (rw [drewN_self w15]; generalize hq_ : World.drewN w15 _ = w15; have n0_ : Aside0 (Kd.R k58 58 w15 w.heap.size (fun k_ => k_ ≠ gb260) u3 x3_1) := ⟨by rw [← hq_]; exact (by (with_reducible repeat (first | apply Kd.R_alloc | apply Kd.R_drewN | apply Kd.R_drew)); exact HO_3.out)⟩; have n1_ : Aside0 (w15.heap[gb260]? = some (.cells #[.int .i64 ((rd_T58 l0 x8_1).f0), .float .f32 ((rd_T58 l0 x8_1).f1)] 58 (0, 0))) := ⟨by rw [← hq_]; exact bkx⟩; have n2_ : Aside0 (Below w.heap.size w w15) := ⟨by rw [← hq_]; exact blx⟩; clear HO_3 BK260 HB hq_; have HO_3 := n0_; have BK260 := n1_; have HB := n2_; clear n0_ n1_ n2_))
          have n0_ := Aside0.mk (Kd.R_drew HO_3.out)
          have n1_ := Aside0.mk (blk_drew BK260.out)
          have n2_ := Aside0.mk (below_drew1 HB.out)
          clear HO_3
          clear BK260
          clear HB
          have HO_3 := n0_
          have BK260 := n1_
          have HB := n2_
          clear n0_ n1_ n2_
          refine start_ (n := 13) (S := fun w' => w'.cell? ⟨gb260, 0, none⟩ = some (.int .i64 ((rd_T58 l0 x8_1).f0)) ∧ w'.cell? ⟨gb260, 1, none⟩ = some (.float .f32 ((rd_T58 l0 x8_1).f1))) (ds := []) #[false, false, false, false, false, false, false, false, false, false, false, false, false] (by kernel_rfl) rfl rfl ⟨(blk_cell BK260.out 0).trans rfl, (blk_cell BK260.out 1).trans rfl⟩ (fun hHeld => ?_); refine with_tabW curve_Rate.tab6 curve_Rate.bits6 (fun HT_ HW_ => ?_)
          generalize w15.drew = w16 at HO_3 BK260 HB hHeld ⊢
          refine pure_ (i := 0) (N := some 20) (v := ?_) (a' := ?_) #[true, false, false, false, false, false, false, false, false, false, false, false, false] rfl rfl (any_of HT_.out (by kernel_rfl)) (fun _ _ _ h => h) (Or.inl ⟨by rfl, ?_⟩) ?_ ?_
          rotate_left
          ·intro w'
           go_simp
           with_reducible rfl
          rotate_left
          ·simp only [Act.put, List.setIfInBounds_toArray, List.set_cons_zero, List.set_cons_succ, i64_w, i32_w]
           rfl
          refine pure_ (i := 1) (N := some 21) (v := ?_) (a' := ?_) #[true, true, false, false, false, false, false, false, false, false, false, false, false] rfl rfl (any_of HT_.out (by kernel_rfl)) (fun _ _ _ h => h) (Or.inl ⟨by rfl, ?_⟩) ?_ ?_
          rotate_left
          ·intro w'
           go_simp
           with_reducible rfl
          rotate_left
          ·simp only [Act.put, List.setIfInBounds_toArray, List.set_cons_zero, List.set_cons_succ, i64_w, i32_w]
           rfl
          refine pure_ (i := 3) (N := some 23) (v := ?_) (a' := ?_) #[true, true, false, true, false, false, false, false, false, false, false, false, false] rfl rfl (any_of HT_.out (by kernel_rfl)) (fun _ _ _ h => h) (Or.inl ⟨by rfl, ?_⟩) ?_ ?_
          rotate_left
          ·intro w'
           go_simp
           with_reducible rfl
          rotate_left
          ·simp only [Act.put, List.setIfInBounds_toArray, List.set_cons_zero, List.set_cons_succ, i64_w, i32_w]
           rfl
          refine pure_ (i := 5) (N := some 25) (v := ?_) (a' := ?_) #[true, true, false, true, false, true, false, false, false, false, false, false, false] rfl rfl (any_of HT_.out (by kernel_rfl)) (fun _ _ _ h => h) (Or.inl ⟨by rfl, ?_⟩) ?_ ?_
          rotate_left
          ·intro w'
           go_simp
           with_reducible rfl
          rotate_left
          ·simp only [Act.put, List.setIfInBounds_toArray, List.set_cons_zero, List.set_cons_succ, i64_w, i32_w]
           rfl
          refine take_ (i := 2) (N := some 22) (v := ?_) (a' := ?_) #[true, true, true, true, false, true, false, false, false, false, false, false, false] rfl rfl (take_ofW HT_.out HW_.out (by kernel_rfl)) (fun _ _ _ h => h) (Or.inl ⟨by rfl, ?_⟩) hHeld ?_ ?_
          rotate_left
          ·rintro w' ⟨s0, s1⟩
           go_simp
           with_reducible rfl
          rotate_left
          ·simp only [Act.put, List.setIfInBounds_toArray, List.set_cons_zero, List.set_cons_succ, i64_w, i32_w]
           rfl
          refine take_ (i := 4) (N := some 24) (v := ?_) (a' := ?_) #[true, true, true, true, true, true, false, false, false, false, false, false, false] rfl rfl (take_ofW HT_.out HW_.out (by kernel_rfl)) (fun _ _ _ h => h) (Or.inl ⟨by rfl, ?_⟩) hHeld ?_ ?_
          rotate_left
          ·rintro w' ⟨s0, s1⟩
           go_simp
           with_reducible rfl
          rotate_left
          ·simp only [Act.put, List.setIfInBounds_toArray, List.set_cons_zero, List.set_cons_succ, i64_w, i32_w]
           rfl
          refine take_ (i := 6) (N := some 26) (v := ?_) (a' := ?_) #[true, true, true, true, true, true, true, false, false, false, false, false, false] rfl rfl (take_ofW HT_.out HW_.out (by kernel_rfl)) (fun _ _ _ h => h) (Or.inl ⟨by rfl, ?_⟩) hHeld ?_ ?_
          rotate_left
          ·rintro w' ⟨s0, s1⟩
           go_simp
           with_reducible rfl
          rotate_left
          ·simp only [Act.put, List.setIfInBounds_toArray, List.set_cons_zero, List.set_cons_succ, i64_w, i32_w]
           rfl
          refine one_ (i := 7) (N := some 27) #[true, true, true, true, true, true, true, true, false, false, false, false, false] rfl rfl (one_of HT_.out (by kernel_rfl)) (by decide) (fun K hK => ?_)
          refine goes_ Try.func33 (by kernel_rfl) rfl #[.int .i64 ((rd_T58 l0 x8_1).f0)] (by rfl) rfl rfl agx ?_
          with_reducible refine (curve_whole.calls ((rd_T58 l0 x8_1).f0) t262 _ A10.out).mono ?_
          rintro e w' ⟨rfl, ⟨nd, rfl⟩⟩
          refine ⟨_, rfl, ?_⟩
          refine hK.out _ _ ⟨(blk_cell BK260.out 0).trans rfl, (blk_cell BK260.out 1).trans rfl⟩ (fun hHeld => ?_)
          clear hK K
          refine norm_ (a' := ?_) ?_ ?_
          rotate_left
          ·show Act.put _ (some 27) _ = _
           simp only [Act.put, List.setIfInBounds_toArray, List.set_cons_zero, List.set_cons_succ, i64_w, i32_w]
           rfl
          refine pure_ (i := 8) (N := some 28) (v := ?_) (a' := ?_) #[true, true, true, true, true, true, true, true, true, false, false, false, false] rfl rfl (any_of HT_.out (by kernel_rfl)) (fun _ _ _ h => h) (Or.inl ⟨by rfl, ?_⟩) ?_ ?_
          rotate_left
          ·intro w'
           go_simp
           with_reducible rfl
          rotate_left
          ·simp only [Act.put, List.setIfInBounds_toArray, List.set_cons_zero, List.set_cons_succ, i64_w, i32_w]
           rfl
          refine pure_ (i := 9) (N := some 29) (v := ?_) (a' := ?_) #[true, true, true, true, true, true, true, true, true, true, false, false, false] rfl rfl (any_of HT_.out (by kernel_rfl)) (fun _ _ _ h => h) (Or.inl ⟨by rfl, ?_⟩) ?_ ?_
          rotate_left
          ·intro w'
           go_simp
           with_reducible rfl
          rotate_left
          ·simp only [Act.put, List.setIfInBounds_toArray, List.set_cons_zero, List.set_cons_succ, i64_w, i32_w]
           rfl
          refine one_ (i := 10) (N := some 30) #[true, true, true, true, true, true, true, true, true, true, true, false, false] rfl rfl (one_of HT_.out (by kernel_rfl)) (by decide) (fun K hK => ?_)
          refine value_ (w1 := ?_) (v := ?_) (by rfl) rfl ?_ ?_
          rotate_left 2
          ·go_simp
           constructor
           ·rfl
           ·rfl
          refine hK.out _ _ ⟨(blk_cell (blk_alloc BK260.out _) 0).trans rfl, (blk_cell (blk_alloc BK260.out _) 1).trans rfl⟩ (fun hHeld => ?_)
          clear hK K
          refine norm_ (a' := ?_) ?_ ?_
          rotate_left
          ·show Act.put _ (some 30) _ = _
           simp only [Act.put, List.setIfInBounds_toArray, List.set_cons_zero, List.set_cons_succ, i64_w, i32_w]
           rfl
          refine one_ (i := 11) (N := some 31) #[true, true, true, true, true, true, true, true, true, true, true, true, false] rfl rfl (one_of HT_.out (by kernel_rfl)) (by decide) (fun K hK => ?_)
          refine Kd.R_append_step k58 (w0 := w) w.heap.size (by rfl) (.tmp 20) (.tmp 30) 31 58 (.agg #[(.int .i64 0), (.float .f32 0)]) 16 rfl Try.underlying31 info58 rfl (by decide) (by omega) u3 x3_1 (⟨(rd_T58 l0 x8_1).f0, fl_quo ((rd_T58 l0 x8_1).f1) t262⟩ : S58) [.int .i64 ((rd_T58 l0 x8_1).f0), .float .f32 (fl_quo ((rd_T58 l0 x8_1).f1) t262)] (fun k_ => k_ ≠ gb260) (fun _ => False) rfl rfl ?aP (fun _ hk => hk.elim) ?aF ?aO ?aB ?aS ?aL ?_
          (case aP => exact k58_mkM _ _ _ (⟨(rd_T58 l0 x8_1).f0, fl_quo ((rd_T58 l0 x8_1).f1) t262⟩ : S58))
          (case aB => exact blx)
          (case aF => exact (fun k_ hk => Kd.freshB (g := gb260) (o := .cells #[.int .i64 ((rd_T58 l0 x8_1).f0), .float .f32 ((rd_T58 l0 x8_1).f1)] 58 (0, 0)) bkx k_ hk))
          (case aO => exact (by (with_reducible repeat (first | apply Kd.R_alloc | apply Kd.R_drewN | apply Kd.R_drew)); exact HO_3.out))
          (case aS => exact (below_size blx))
          (case aL => have := LMc12.out; omega)
          intro v264 w17 ho hb hg hat
          rw [← Ny263.out] at ho
          have n0_ := Aside0.mk (blk_grown (g := gb260) (o := .cells #[.int .i64 ((rd_T58 l0 x8_1).f0), .float .f32 ((rd_T58 l0 x8_1).f1)] 58 (0, 0)) bkx hg (Kd.R_away HO_3.out (fun _ hk => hk)))
          have n1_ := Aside0.mk (hb)
          have n2_ := Aside0.mk (ho)
          clear BK260
          clear HB
          clear HO_3
          have BK260 := n0_
          have HB := n1_
          have HO265 := n2_
          clear n0_ n1_ n2_
          clear ho hb hg hat
          refine hK.out _ _ ⟨(blk_cell BK260.out 0).trans rfl, (blk_cell BK260.out 1).trans rfl⟩ (fun hHeld => ?_)
          clear hK K
          refine norm_ (a' := ?_) ?_ ?_
          rotate_left
          ·show Act.put _ (some 31) _ = _
           simp only [Act.put, List.setIfInBounds_toArray, List.set_cons_zero, List.set_cons_succ, i64_w, i32_w]
           rfl
          refine pure_ (i := 12) (N := some 3) (v := ?_) (a' := ?_) #[true, true, true, true, true, true, true, true, true, true, true, true, true] rfl rfl (any_of HT_.out (by kernel_rfl)) (fun _ _ _ h => h) (Or.inl ⟨by rfl, ?_⟩) ?_ ?_
          rotate_left
          ·intro w'
           go_simp
           with_reducible rfl
          rotate_left
          ·simp only [Act.put, List.setIfInBounds_toArray, List.set_cons_zero, List.set_cons_succ, i64_w, i32_w]
           rfl
          refine done_ (done_of HT_.out (by kernel_rfl)) ?_
          try go_wp2
          go_roundg k1
          case measure => have := HK1.out; omega
          case rel => exact ⟨(y263), (wrap64 (x8_1 + 1)), (by first | rfl | (simp; done) | (simp [*]; done)), H', ⟨by have := HK1.out; omega⟩, ⟨by (with_reducible repeat (first | apply Kd.R_alloc | apply Kd.R_drewN | apply Kd.R_drew)); exact Kd.R_mono HO265.out (fun _ hk => trivial)⟩, ⟨blx⟩⟩
         ·rw [if_neg c12] at H
          exact absurd H (by simp)
        ·rw [if_neg c11] at H
         exact absurd H (by simp)
       ·replace c9 := Bool.eq_false_iff.mpr c9
        subst c9
        have H1 : (curve_Rate.l0 k1 x3_1 l0 (l0.length : Int) (wrap64 (x8_1 + 1))) = some r := by rw [if_neg (show ¬ (false = true) by decide)] at H; exact H
        clear H
        have H := H1
        clear H1
        have H' := Aside0.mk H
        clear H
        have p259 : 0 ≤ (x8_1 : Int) := odx
        have q259 : x8_1 < (l0.length : Int) := odx
        obtain ⟨ad259, e259, hx259_0, hx259_1⟩ := at_T58 HR0.out x8_1 p259 q259
        cases e259
        replace hx259_0 := (HB.out.cell (World.block_lt_of_cell? w _ hx259_0)).trans hx259_0
        replace hx259_1 := (HB.out.cell (World.block_lt_of_cell? w _ hx259_1)).trans hx259_1
        replace p259 := eq_true p259
        replace q259 := eq_true q259
        go_wp2_with (first | ((with_reducible refine gate_dst (N := 5) rfl ?_); refine box_event ?hg (N := 5) ?hd (cs := #[.int .i64 0, .float .f32 (0 : Nat)]) (t := 58) ?hr ?_; (case hd => rfl); (case hg => rfl); (case hr => first | (go_simp; done) | (go_simp; rfl)); intro gb260 hg w18 hbox hb; have n0_ := Aside0.mk (Kd.R_below (Kd.R_elderB (by (with_reducible repeat (first | apply Kd.R_alloc | apply Kd.R_drewN | apply Kd.R_drew)); exact HO_3.out) gb260 (Nat.le_of_eq hg.symm)) hb); have n1_ := Aside0.mk (below_step blx hb); have n2_ := Aside0.mk (hbox); have n3_ := Aside0.mk ((by rw [hg]; exact (below_size blx) : w.heap.size ≤ gb260)); have n4_ := Aside0.mk ((by rw [hg]; exact (below_size blx) : w.heap.size ≤ gb260)); clear HO_3; clear HB; have HO_3 := n0_; have HB := n1_; have BK260 := n2_; have GW260 := n3_; have GE260 := n4_; clear n0_ n1_ n2_ n3_ n4_; clear hb hbox hg; have hcz19_0 : w18.cell? ⟨gb260, 0, none⟩ = some (.int .i64 0) := (blk_cell BK260.out 0).trans rfl; have hcz19_1 : w18.cell? ⟨gb260, 1, none⟩ = some (.float .f32 (0 : Nat)) := (blk_cell BK260.out 1).trans rfl; have hfz19_0 := blk_frozen BK260.out 0; have hfz19_1 := blk_frozen BK260.out 1) | (go_at_call 50; (with_reducible refine (curve_finite.calls ((rd_T58 l0 x8_1).f1) false _ A8.out).mono ?_); rintro e w' ⟨rfl, ⟨nd, rfl⟩⟩))
        go_roundg k1
        case measure => have := HK1.out; omega
        case rel => exact ⟨(x3_1), (wrap64 (x8_1 + 1)), (by first | rfl | (simp; done) | (simp [*]; done)), H', ⟨by have := HK1.out; omega⟩, ⟨by (with_reducible repeat (first | apply Kd.R_alloc | apply Kd.R_drewN | apply Kd.R_drew)); exact Kd.R_mono (Kd.R_far (p := ⟨gb260, 1, none⟩) (Kd.R_far (p := ⟨gb260, 0, none⟩) (Kd.R_mono HO_3.out (fun k_ hk => (⟨hk, hk.2⟩ : _ ∧ k_ ≠ gb260))) (fun _ hk => hk.2) (.int .i64 ((rd_T58 l0 x8_1).f0))) (fun _ hk => hk.2) (.float .f32 ((rd_T58 l0 x8_1).f1))) (fun _ hk => trivial)⟩, ⟨blx⟩⟩
     ·rw [if_neg c4] at H
      exact absurd H (by simp)
    ·rw [if_neg c3] at H
     exact absurd H (by simp)
   ·rw [if_neg c2] at H
    have c2b0 : decide (x8_1 < (l0.length : Int)) = false := decide_eq_false c2
    clear c2
    obtain rfl := Option.some.inj H
    go_wp2
    go_ret
    exact ⟨_, by first | rfl | (simp [errW_none, errW_some] <;> rfl) | (simp [*, errW_none, errW_some] <;> rfl), by (with_reducible repeat (first | apply Kd.R_alloc | apply Kd.R_drewN | apply Kd.R_drew)); exact HO_3.out, blx⟩
end Go.Proofs.Ytfhgomcfpmbhnaa.PS
end

section
namespace Go.Proofs.Ytfhgomcfpmbhnaa.PS
open Go.RowKit Go.Proofs.YtfhgomcfpmbhnaaW.PrintWords Go.Proofs.YtfhgomcfpmbhnaaW.PrintLast Go.Proofs.YtfhgomcfpmbhnaaW.PrintMore
attribute [local go_sem] frun_add frun_sub frun_mul frun_quo frun_neg frun_of frun_same frun_store frun_bits frun_from
attribute [local go_sem] max2_int min2_int max_two min_two max_three min_three max_four min_four
set_option linter.unusedVariables false
set_option linter.unusedSimpArgs false
def curve_Slope.l0 : Nat → List (S58) → List (S58) → Int → Option ((List (S58)) × Int)
 | 0, _, _, _ => none
 | k + 1, x0, x4, x5 => if x5 < (x0.length : Int) then (if 0 ≤ x5 then (if 0 ≤ (wrap64 (x5 - 1)) then (if (wrap64 (x5 - 1)) < (x0.length : Int) then (if fk_sub ((rd_T58 x0 x5).f1) ((rd_T58 x0 (wrap64 (x5 - 1))).f1) = true then ((curve_whole.f (wrap64 (((rd_T58 x0 x5).f0) - ((rd_T58 x0 (wrap64 (x5 - 1))).f0)))).bind fun t276 => (if fk_quo (fl_sub ((rd_T58 x0 x5).f1) ((rd_T58 x0 (wrap64 (x5 - 1))).f1)) t276 = true then (if x4.length < 8796093022208 then (curve_Slope.l0 k x0 (x4 ++ [(⟨(rd_T58 x0 (wrap64 (x5 - 1))).f0, fl_quo (fl_sub ((rd_T58 x0 x5).f1) ((rd_T58 x0 (wrap64 (x5 - 1))).f1)) t276⟩ : S58)]) (wrap64 (x5 + 1))) else (none)) else (none))) else (none)) else (none)) else (none)) else (none)) else (some (x4, 0))
def curve_Slope.f (k : Nat) (l0 : List (S58)) : Option ((List (S58)) × Int) := (curve_ordered.f k l0).bind fun t270 => (if t270 = true then (curve_Slope.l0 k l0 ([] : List (S58)) 1) else (some (([] : List (S58)), 172)))
theorem curve_Slope.mono_l : ∀ k, (∀ y0 y1 y2, LeO (curve_Slope.l0 k y0 y1 y2) (curve_Slope.l0 (k + 1) y0 y1 y2))
 | 0 => fun _ _ _ r h => by simp [curve_Slope.l0] at h
 | k + 1 => by
  have ih0 := curve_Slope.mono_l k
  ·intro y0 y1 y2
   unfold curve_Slope.l0
   repeat' first
   | (with_reducible exact ih0 _ _ _)
   | (with_reducible exact curve_ordered.mono _ _)
   | (with_reducible exact LeO.refl _)
   | (with_reducible exact LeO.none _)
   | (with_reducible refine LeO.ite ?_ ?_)
   | (with_reducible refine LeO.bind ?_ (fun _ => ?_))
   | exact ih0 _ _ _
   | exact curve_ordered.mono _ _
   | exact LeO.none _
   | refine LeO.ite ?_ ?_
   | refine LeO.bind ?_ (fun _ => ?_)
theorem curve_Slope.mono : ∀ a0 k, LeO (curve_Slope.f k a0) (curve_Slope.f (k + 1) a0) := by
 intro a0 k
 have ih0 := curve_Slope.mono_l k
 unfold curve_Slope.f
 repeat' first
   | (with_reducible exact ih0 _ _ _)
   | (with_reducible exact curve_ordered.mono _ _)
   | (with_reducible exact LeO.refl _)
   | (with_reducible exact LeO.none _)
   | (with_reducible refine LeO.ite ?_ ?_)
   | (with_reducible refine LeO.bind ?_ (fun _ => ?_))
   | exact ih0 _ _ _
   | exact curve_ordered.mono _ _
   | exact LeO.none _
   | refine LeO.ite ?_ ?_
   | refine LeO.bind ?_ (fun _ => ?_)
def curve_Slope.T7 : Bool × List (List Nat × List Nat) := (true, [([], []), ([], []), ([0, 1], [0, 1]), ([2], [2]), ([3], [3]), ([], []), ([], []), ([6], [6]), ([5, 7], [5, 7]), ([8], [8]), ([9], [9]), ([4, 10], [4, 10]), ([11, 0, 1, 2, 3, 4, 5, 6, 7, 8, 9, 10, 11], [11])])
def curve_Slope.B7 : List Nat := [0, 0, 3, 7, 15, 0, 0, 64, 224, 480, 992, 2047, 4095]
theorem curve_Slope.tab7 : rtab .any (opsOf Try.f29 7) = curve_Slope.T7 := by kernel_rfl
theorem curve_Slope.bits7 : waitsOk curve_Slope.T7.2 curve_Slope.B7 = true := by kernel_rfl
def curve_Slope.T8 : Bool × List (List Nat × List Nat) := (true, [([], []), ([], []), ([], []), ([2], [2]), ([1, 3], [1, 3]), ([4], [4]), ([5], [5]), ([], []), ([], []), ([], []), ([8, 9], [8, 9]), ([10], [10]), ([11], [11]), ([], []), ([], []), ([14], [14]), ([13, 15], [13, 15]), ([16], [16]), ([17], [17]), ([12, 18], [12, 18]), ([19], [19]), ([7, 20], [7, 20]), ([6, 21], [6, 21]), ([22], [22]), ([0, 23, 20], [0, 23]), ([24, 24, 0, 1, 2, 3, 4, 5, 6, 7, 8, 9, 10, 11, 12, 13, 14, 15, 16, 17, 18, 19, 20, 21, 22, 23, 24], [0, 24])])
def curve_Slope.B8 : List Nat := [0, 0, 0, 4, 14, 30, 62, 0, 0, 0, 768, 1792, 3840, 0, 0, 16384, 57344, 122880, 253952, 524032, 1048320, 2097024, 4194302, 8388606, 16777215, 33554431]
theorem curve_Slope.tab8 : rtab .any (opsOf Try.f29 8) = curve_Slope.T8 := by kernel_rfl
theorem curve_Slope.bits8 : waitsOk curve_Slope.T8.2 curve_Slope.B8 = true := by kernel_rfl
set_option maxHeartbeats 8000000 in
set_option maxRecDepth 100000 in
theorem curve_Slope.calls (k : Nat) (A0 : Option Addr) (c0 : Nat) (l0 : List (S58)) (r1 : List (S58)) (r2 : Int) (w : World) (hr0 : Kd.C k58 w A0 l0.length l0) (hc0 : l0.length ≤ c0) (h : curve_Slope.f k l0 = some (r1, r2)) :
  Calls Try.prog 29 #[.slice A0 l0.length c0] w fun e w' => ∃ v0_ : Value, e = .returned (.tuple #[v0_, .int .i64 r2]) ∧ Kd.R k58 58 w' w.heap.size (fun _ => True) v0_ r1 ∧ Below w.heap.size w w' := by
 have hu58 := Try.underlying58
 have HR0 := Aside0.mk hr0
 have HC0 := Aside0.mk hc0
 clear hr0 hc0
 have HB := Aside0.mk (Below.refl w.heap.size w)
 have H : ((curve_ordered.f k l0).bind fun t270 => (if t270 = true then (curve_Slope.l0 k l0 ([] : List (S58)) 1) else (some (([] : List (S58)), 172)))) = some (r1, r2) := h
 clear h
 replace H := Option.bind_eq_some_iff.mp H
 obtain ⟨t270, A20, H⟩ := H
 replace H : (if t270 = true then (curve_Slope.l0 k l0 ([] : List (S58)) 1) else (some (([] : List (S58)), 172))) = some (r1, r2) := H
 have A2 := Aside0.mk A20
 clear A20
 by_cases c3 : t270 = true
 ·subst c3
  have H1 : (curve_Slope.l0 k l0 ([] : List (S58)) 1) = some (r1, r2) := by rw [if_pos rfl] at H; exact H
  clear H
  have H := H1
  clear H1
  have H' := Aside0.mk H
  clear H
  go_enter Try.func29, Try.ntmps29
  go_wp2_with (first | ((with_reducible refine gate_callee (f := 48) rfl ?_); refine goesL_ (some 8) rfl rfl Try.func48 (by kernel_rfl) rfl #[.slice A0 l0.length c0] rfl agx ?_; (with_reducible refine (curve_ordered.calls k _ _ l0 true _ ?side1 ?side2 A2.out).mono ?_); (case side1 => repeat (first | exact HR0.out | (with_reducible refine Kd.C_alloc ?_ _) | (with_reducible refine Kd.C_drewN ?_ _) | (with_reducible refine Kd.C_drew ?_))); (case side2 => exact HC0.out); rintro e w4 ⟨rfl, hb⟩; refine ⟨_, rfl, ?_⟩; have n0_ := Aside0.mk (below_step blx hb); clear HB; have HB := n0_; clear n0_; (try clear hb); (try clear hb2); (try clear hk); (try clear hi)))
  go_loopg [4, 5] k (fun kq v4 v5 w' => ∃ (x4_1 : List (S58)) (x5_1 : Int), v5 = .int .i64 x5_1 ∧ Aside0 (curve_Slope.l0 kq l0 x4_1 x5_1 = some (r1, r2)) ∧ Aside0 (kq ≤ k) ∧ Aside0 (Kd.R k58 58 w' w.heap.size (fun _ => True) v4 x4_1) ∧ Aside0 (Below w.heap.size w w'))
  case atStart => exact ⟨(([] : List (S58))), (1), (by first | rfl | (simp; done) | (simp [*]; done)), H', ⟨Nat.le_refl _⟩, ⟨by first | exact Kd.R_nil _ _ _ _ _ | exact Kd.N_nil _ _ _ _ _ | exact Kd.V_nil _ _ _ _ _ | exact Kd.Q_nil _ _ _ _ _ | exact Kd.S_nil _ _ _ _ _⟩, ⟨blx⟩⟩
  case round =>
   clear H'
   try clear c2
   try clear p2
   try clear c3
   try clear c4
   obtain ⟨x4_1, x5_1, rfl, HA, HK1, HO_4, HB⟩ := hrel
   cases gk with
   | zero => exact absurd HA.out (by simp [curve_Slope.l0])
   | succ k1 =>
    have H := HA.out
    clear HA
    simp only [curve_Slope.l0] at H
    by_cases c5 : x5_1 < (l0.length : Int)
    ·rw [if_pos c5] at H
     have c5b0 : decide (x5_1 < (l0.length : Int)) = true := decide_eq_true c5
     clear c5
     by_cases c6 : 0 ≤ x5_1
     ·rw [if_pos c6] at H
      have c6b0 : decide (0 ≤ x5_1) = true := decide_eq_true c6
      clear c6
      obtain ⟨ji7, hji7⟩ : ∃ j_ : Int, (wrap64 (x5_1 - 1)) = j_ := ⟨_, rfl⟩
      replace H : (if 0 ≤ (ji7) then (if (ji7) < (l0.length : Int) then (if fk_sub ((rd_T58 l0 x5_1).f1) ((rd_T58 l0 (ji7)).f1) = true then ((curve_whole.f (wrap64 (((rd_T58 l0 x5_1).f0) - ((rd_T58 l0 (ji7)).f0)))).bind fun t276 => (if fk_quo (fl_sub ((rd_T58 l0 x5_1).f1) ((rd_T58 l0 (ji7)).f1)) t276 = true then (if x4_1.length < 8796093022208 then (curve_Slope.l0 k1 l0 (x4_1 ++ [(⟨(rd_T58 l0 (ji7)).f0, fl_quo (fl_sub ((rd_T58 l0 x5_1).f1) ((rd_T58 l0 (ji7)).f1)) t276⟩ : S58)]) (wrap64 (x5_1 + 1))) else (none)) else (none))) else (none)) else (none)) else (none)) = some (r1, r2) := by first | (rw [hji7] at H; exact H) | (simp only [hji7] at H ⊢; exact H)
      have hji7w : (IntKind.i64.wrap (x5_1 - 1)) = ji7 := (i64_w _).trans hji7
      by_cases c8 : 0 ≤ (ji7)
      ·rw [if_pos c8] at H
       have c8b0 : decide (0 ≤ (ji7)) = true := decide_eq_true c8
       clear c8
       by_cases c9 : (ji7) < (l0.length : Int)
       ·rw [if_pos c9] at H
        have c9b0 : decide ((ji7) < (l0.length : Int)) = true := decide_eq_true c9
        clear c9
        by_cases c10 : fk_sub ((rd_T58 l0 x5_1).f1) ((rd_T58 l0 (ji7)).f1) = true
        ·rw [if_pos c10] at H
         have c10b0 := eq_true c10
         have c10b1 : decide (fk_sub ((rd_T58 l0 x5_1).f1) ((rd_T58 l0 (ji7)).f1) = true) = true := decide_eq_true c10
         clear c10
         replace H := Option.bind_eq_some_iff.mp H
         obtain ⟨t276, A110, H⟩ := H
         replace H : (if fk_quo (fl_sub ((rd_T58 l0 x5_1).f1) ((rd_T58 l0 (ji7)).f1)) t276 = true then (if x4_1.length < 8796093022208 then (curve_Slope.l0 k1 l0 (x4_1 ++ [(⟨(rd_T58 l0 (ji7)).f0, fl_quo (fl_sub ((rd_T58 l0 x5_1).f1) ((rd_T58 l0 (ji7)).f1)) t276⟩ : S58)]) (wrap64 (x5_1 + 1))) else (none)) else (none)) = some (r1, r2) := H
         have A11 := Aside0.mk A110
         clear A110
         by_cases c12 : fk_quo (fl_sub ((rd_T58 l0 x5_1).f1) ((rd_T58 l0 (ji7)).f1)) t276 = true
         ·rw [if_pos c12] at H
          have c12b0 := eq_true c12
          have c12b1 : decide (fk_quo (fl_sub ((rd_T58 l0 x5_1).f1) ((rd_T58 l0 (ji7)).f1)) t276 = true) = true := decide_eq_true c12
          clear c12
          by_cases c13 : x4_1.length < 8796093022208
          ·rw [if_pos c13] at H
           have LMc13 := Aside0.mk c13
           clear c13
           obtain ⟨y277, hy277⟩ : ∃ y_ : List (S58), y_ = (x4_1 ++ [(⟨(rd_T58 l0 (ji7)).f0, fl_quo (fl_sub ((rd_T58 l0 x5_1).f1) ((rd_T58 l0 (ji7)).f1)) t276⟩ : S58)]) := ⟨_, rfl⟩
           replace H : (curve_Slope.l0 k1 l0 y277 (wrap64 (x5_1 + 1))) = some (r1, r2) := by first | (rw [hy277]; with_reducible exact H) | (have H2_ := (Option.bind_some _ _).symm.trans H; rw [hy277]; with_reducible exact H2_) | (have H2_ := (Option.bind_some _ _).symm.trans H; with_reducible exact H2_) | with_reducible exact H | (rw [hy277]; exact H) | exact H
           have Ny277 := Aside0.mk hy277
           clear hy277
           have H' := Aside0.mk H
           clear H
           try go_wp2
           have n0_ := Aside0.mk (Kd.R_drew HO_4.out)
           have n1_ := Aside0.mk (below_drew1 HB.out)
           clear HO_4
           clear HB
           have HO_4 := n0_
           have HB := n1_
           clear n0_ n1_
           have p271 : 0 ≤ (x5_1 : Int) := odx
           have q271 : x5_1 < (l0.length : Int) := odx
           obtain ⟨ad271, e271, hx271_0, hx271_1⟩ := at_T58 HR0.out x5_1 p271 q271
           have hw271_1 := hx271_1
           have hw271_0 := hx271_0
           cases e271
           replace hx271_0 := (HB.out.cell (World.block_lt_of_cell? w _ hx271_0)).trans hx271_0
           replace hx271_1 := (HB.out.cell (World.block_lt_of_cell? w _ hx271_1)).trans hx271_1
           replace p271 := eq_true p271
           replace q271 := eq_true q271
           have p272 : 0 ≤ ((ji7) : Int) := odx
           have q272 : (ji7) < (l0.length : Int) := odx
           obtain ⟨ad272, e272, hx272_0, hx272_1⟩ := at_T58 HR0.out (ji7) p272 q272
           have hw272_1 := hx272_1
           have hw272_0 := hx272_0
           obtain rfl : ad271 = ad272 := (by injection e272)
           replace hx272_0 := (HB.out.cell (World.block_lt_of_cell? w _ hx272_0)).trans hx272_0
           replace hx272_1 := (HB.out.cell (World.block_lt_of_cell? w _ hx272_1)).trans hx272_1
           replace p272 := eq_true p272
           replace q272 := eq_true q272
           refine start_ (n := 13) (S := fun w' => w'.cell? (ad271.add ((x5_1).toNat * 2)) = some (.int .i64 ((rd_T58 l0 x5_1).f0)) ∧ w'.cell? ⟨(ad271.add ((x5_1).toNat * 2)).block, (ad271.add ((x5_1).toNat * 2)).off + 1, none⟩ = some (.float .f32 ((rd_T58 l0 x5_1).f1)) ∧ w'.cell? (ad271.add (((ji7)).toNat * 2)) = some (.int .i64 ((rd_T58 l0 (ji7)).f0)) ∧ w'.cell? ⟨(ad271.add (((ji7)).toNat * 2)).block, (ad271.add (((ji7)).toNat * 2)).off + 1, none⟩ = some (.float .f32 ((rd_T58 l0 (ji7)).f1))) (ds := []) #[false, false, false, false, false, false, false, false, false, false, false, false, false] (by kernel_rfl) rfl rfl ⟨((HB.out.cell (World.block_lt_of_cell? w _ hw271_0)).trans hw271_0), ((HB.out.cell (World.block_lt_of_cell? w _ hw271_1)).trans hw271_1), ((HB.out.cell (World.block_lt_of_cell? w _ hw272_0)).trans hw272_0), ((HB.out.cell (World.block_lt_of_cell? w _ hw272_1)).trans hw272_1)⟩ (fun hHeld => ?_); refine with_tabW curve_Slope.tab7 curve_Slope.bits7 (fun HT_ HW_ => ?_)
           generalize wr.drew = w14 at HO_4 HB hx271_0 hx271_1 hx272_0 hx272_1 hHeld ⊢
           refine pure_ (i := 0) (N := some 16) (v := ?_) (a' := ?_) #[true, false, false, false, false, false, false, false, false, false, false, false, false] rfl rfl (any_of HT_.out (by kernel_rfl)) (fun _ _ _ h => h) (Or.inl ⟨by rfl, ?_⟩) ?_ ?_
           rotate_left
           ·intro w'
            go_simp
            with_reducible rfl
           rotate_left
           ·simp only [Act.put, List.setIfInBounds_toArray, List.set_cons_zero, List.set_cons_succ, i64_w, i32_w]
            rfl
           refine pure_ (i := 1) (N := some 17) (v := ?_) (a' := ?_) #[true, true, false, false, false, false, false, false, false, false, false, false, false] rfl rfl (any_of HT_.out (by kernel_rfl)) (fun _ _ _ h => h) (Or.inl ⟨by rfl, ?_⟩) ?_ ?_
           rotate_left
           ·intro w'
            go_simp
            with_reducible rfl
           rotate_left
           ·simp only [Act.put, List.setIfInBounds_toArray, List.set_cons_zero, List.set_cons_succ, i64_w, i32_w]
            rfl
           refine pure_ (i := 2) (N := some 18) (v := ?_) (a' := ?_) #[true, true, true, false, false, false, false, false, false, false, false, false, false] rfl rfl (any_of HT_.out (by kernel_rfl)) (fun _ _ _ h => h) (Or.inl ⟨by rfl, ?_⟩) ?_ ?_
           rotate_left
           ·intro w'
            go_simp
            with_reducible rfl
           rotate_left
           ·simp only [Act.put, List.setIfInBounds_toArray, List.set_cons_zero, List.set_cons_succ, i64_w, i32_w]
            rfl
           refine pure_ (i := 3) (N := some 19) (v := ?_) (a' := ?_) #[true, true, true, true, false, false, false, false, false, false, false, false, false] rfl rfl (any_of HT_.out (by kernel_rfl)) (fun _ _ _ h => h) (Or.inl ⟨by rfl, ?_⟩) ?_ ?_
           rotate_left
           ·intro w'
            go_simp
            with_reducible rfl
           rotate_left
           ·simp only [Act.put, List.setIfInBounds_toArray, List.set_cons_zero, List.set_cons_succ, i64_w, i32_w]
            rfl
           refine pure_ (i := 5) (N := some 21) (v := ?_) (a' := ?_) #[true, true, true, true, false, true, false, false, false, false, false, false, false] rfl rfl (any_of HT_.out (by kernel_rfl)) (fun _ _ _ h => h) (Or.inl ⟨by rfl, ?_⟩) ?_ ?_
           rotate_left
           ·intro w'
            go_simp
            with_reducible rfl
           rotate_left
           ·simp only [Act.put, List.setIfInBounds_toArray, List.set_cons_zero, List.set_cons_succ, i64_w, i32_w]
            rfl
           refine pure_ (i := 6) (N := some 22) (v := ?_) (a' := ?_) #[true, true, true, true, false, true, true, false, false, false, false, false, false] rfl rfl (any_of HT_.out (by kernel_rfl)) (fun _ _ _ h => h) (Or.inl ⟨by rfl, ?_⟩) ?_ ?_
           rotate_left
           ·intro w'
            go_simp
            with_reducible rfl
           rotate_left
           ·simp only [Act.put, List.setIfInBounds_toArray, List.set_cons_zero, List.set_cons_succ, i64_w, i32_w]
            rfl
           refine pure_ (i := 7) (N := some 23) (v := ?_) (a' := ?_) #[true, true, true, true, false, true, true, true, false, false, false, false, false] rfl rfl (any_of HT_.out (by kernel_rfl)) (fun _ _ _ h => h) (Or.inl ⟨by rfl, ?_⟩) ?_ ?_
           rotate_left
           ·intro w'
            go_simp
            with_reducible rfl
           rotate_left
           ·simp only [Act.put, List.setIfInBounds_toArray, List.set_cons_zero, List.set_cons_succ, i64_w, i32_w]
            rfl
           refine pure_ (i := 8) (N := some 24) (v := ?_) (a' := ?_) #[true, true, true, true, false, true, true, true, true, false, false, false, false] rfl rfl (any_of HT_.out (by kernel_rfl)) (fun _ _ _ h => h) (Or.inl ⟨by rfl, ?_⟩) ?_ ?_
           rotate_left
           ·intro w'
            go_simp
            with_reducible rfl
           rotate_left
           ·simp only [Act.put, List.setIfInBounds_toArray, List.set_cons_zero, List.set_cons_succ, i64_w, i32_w]
            rfl
           refine pure_ (i := 9) (N := some 25) (v := ?_) (a' := ?_) #[true, true, true, true, false, true, true, true, true, true, false, false, false] rfl rfl (any_of HT_.out (by kernel_rfl)) (fun _ _ _ h => h) (Or.inl ⟨by rfl, ?_⟩) ?_ ?_
           rotate_left
           ·intro w'
            go_simp
            with_reducible rfl
           rotate_left
           ·simp only [Act.put, List.setIfInBounds_toArray, List.set_cons_zero, List.set_cons_succ, i64_w, i32_w]
            rfl
           refine take_ (i := 4) (N := some 20) (v := ?_) (a' := ?_) #[true, true, true, true, true, true, true, true, true, true, false, false, false] rfl rfl (take_ofW HT_.out HW_.out (by kernel_rfl)) (fun _ _ _ h => h) (Or.inl ⟨by rfl, ?_⟩) hHeld ?_ ?_
           rotate_left
           ·rintro w' ⟨s0, s1, s2, s3⟩
            go_simp
            with_reducible rfl
           rotate_left
           ·simp only [Act.put, List.setIfInBounds_toArray, List.set_cons_zero, List.set_cons_succ, i64_w, i32_w]
            rfl
           refine take_ (i := 10) (N := some 26) (v := ?_) (a' := ?_) #[true, true, true, true, true, true, true, true, true, true, true, false, false] rfl rfl (take_ofW HT_.out HW_.out (by kernel_rfl)) (fun _ _ _ h => h) (Or.inl ⟨by rfl, ?_⟩) hHeld ?_ ?_
           rotate_left
           ·rintro w' ⟨s0, s1, s2, s3⟩
            go_simp
            with_reducible rfl
           rotate_left
           ·simp only [Act.put, List.setIfInBounds_toArray, List.set_cons_zero, List.set_cons_succ, i64_w, i32_w]
            rfl
           refine pure_ (i := 11) (N := some 27) (v := ?_) (a' := ?_) #[true, true, true, true, true, true, true, true, true, true, true, true, false] rfl rfl (any_of HT_.out (by kernel_rfl)) (fun _ _ _ h => h) (Or.inl ⟨by rfl, ?_⟩) ?_ ?_
           rotate_left
           ·intro w'
            go_simp
            with_reducible rfl
           rotate_left
           ·simp only [Act.put, List.setIfInBounds_toArray, List.set_cons_zero, List.set_cons_succ, i64_w, i32_w]
            rfl
           refine pure_ (i := 12) (N := some 6) (v := ?_) (a' := ?_) #[true, true, true, true, true, true, true, true, true, true, true, true, true] rfl rfl (any_of HT_.out (by kernel_rfl)) (fun _ _ _ h => h) (Or.inl ⟨by rfl, ?_⟩) ?_ ?_
           rotate_left
           ·intro w'
            go_simp
            with_reducible rfl
           rotate_left
           ·simp only [Act.put, List.setIfInBounds_toArray, List.set_cons_zero, List.set_cons_succ, i64_w, i32_w]
            rfl
           refine done_ (done_of HT_.out (by kernel_rfl)) ?_
           try go_wp2
           have n0_ := Aside0.mk (Kd.R_drew HO_4.out)
           have n1_ := Aside0.mk (below_drew1 HB.out)
           clear HO_4
           clear HB
           have HO_4 := n0_
           have HB := n1_
           clear n0_ n1_
           have p273 : 0 ≤ ((ji7) : Int) := odx
           have q273 : (ji7) < (l0.length : Int) := odx
           obtain ⟨ad273, e273, hx273_0, hx273_1⟩ := at_T58 HR0.out (ji7) p273 q273
           have hw273_1 := hx273_1
           have hw273_0 := hx273_0
           obtain rfl : ad271 = ad273 := (by injection e273)
           replace hx273_0 := (HB.out.cell (World.block_lt_of_cell? w _ hx273_0)).trans hx273_0
           replace hx273_1 := (HB.out.cell (World.block_lt_of_cell? w _ hx273_1)).trans hx273_1
           replace p273 := eq_true p273
           replace q273 := eq_true q273
           have p274 : 0 ≤ (x5_1 : Int) := odx
           have q274 : x5_1 < (l0.length : Int) := odx
           obtain ⟨ad274, e274, hx274_0, hx274_1⟩ := at_T58 HR0.out x5_1 p274 q274
           have hw274_1 := hx274_1
           have hw274_0 := hx274_0
           obtain rfl : ad271 = ad274 := (by injection e274)
           replace hx274_0 := (HB.out.cell (World.block_lt_of_cell? w _ hx274_0)).trans hx274_0
           replace hx274_1 := (HB.out.cell (World.block_lt_of_cell? w _ hx274_1)).trans hx274_1
           replace p274 := eq_true p274
           replace q274 := eq_true q274
           have p275 : 0 ≤ ((ji7) : Int) := odx
           have q275 : (ji7) < (l0.length : Int) := odx
           obtain ⟨ad275, e275, hx275_0, hx275_1⟩ := at_T58 HR0.out (ji7) p275 q275
           have hw275_1 := hx275_1
           have hw275_0 := hx275_0
           obtain rfl : ad271 = ad275 := (by injection e275)
           replace hx275_0 := (HB.out.cell (World.block_lt_of_cell? w _ hx275_0)).trans hx275_0
           replace hx275_1 := (HB.out.cell (World.block_lt_of_cell? w _ hx275_1)).trans hx275_1
           replace p275 := eq_true p275
           replace q275 := eq_true q275
           refine start_ (n := 26) (S := fun w' => w'.cell? (ad271.add (((ji7)).toNat * 2)) = some (.int .i64 ((rd_T58 l0 (ji7)).f0)) ∧ w'.cell? ⟨(ad271.add (((ji7)).toNat * 2)).block, (ad271.add (((ji7)).toNat * 2)).off + 1, none⟩ = some (.float .f32 ((rd_T58 l0 (ji7)).f1)) ∧ w'.cell? (ad271.add ((x5_1).toNat * 2)) = some (.int .i64 ((rd_T58 l0 x5_1).f0)) ∧ w'.cell? ⟨(ad271.add ((x5_1).toNat * 2)).block, (ad271.add ((x5_1).toNat * 2)).off + 1, none⟩ = some (.float .f32 ((rd_T58 l0 x5_1).f1)) ∧ w'.cell? (ad271.add (((ji7)).toNat * 2)) = some (.int .i64 ((rd_T58 l0 (ji7)).f0)) ∧ w'.cell? ⟨(ad271.add (((ji7)).toNat * 2)).block, (ad271.add (((ji7)).toNat * 2)).off + 1, none⟩ = some (.float .f32 ((rd_T58 l0 (ji7)).f1))) (ds := []) #[false, false, false, false, false, false, false, false, false, false, false, false, false, false, false, false, false, false, false, false, false, false, false, false, false, false] (by kernel_rfl) rfl rfl ⟨((HB.out.cell (World.block_lt_of_cell? w _ hw273_0)).trans hw273_0), ((HB.out.cell (World.block_lt_of_cell? w _ hw273_1)).trans hw273_1), ((HB.out.cell (World.block_lt_of_cell? w _ hw274_0)).trans hw274_0), ((HB.out.cell (World.block_lt_of_cell? w _ hw274_1)).trans hw274_1), ((HB.out.cell (World.block_lt_of_cell? w _ hw275_0)).trans hw275_0), ((HB.out.cell (World.block_lt_of_cell? w _ hw275_1)).trans hw275_1)⟩ (fun hHeld => ?_); refine with_tabW curve_Slope.tab8 curve_Slope.bits8 (fun HT_ HW_ => ?_)
           generalize w14.drew = w15 at HO_4 HB hx273_0 hx273_1 hx274_0 hx274_1 hx275_0 hx275_1 hHeld ⊢
           refine pure_ (i := 0) (N := some 28) (v := ?_) (a' := ?_) #[true, false, false, false, false, false, false, false, false, false, false, false, false, false, false, false, false, false, false, false, false, false, false, false, false, false] rfl rfl (any_of HT_.out (by kernel_rfl)) (fun _ _ _ h => h) (Or.inl ⟨by rfl, ?_⟩) ?_ ?_
           rotate_left
           ·intro w'
            go_simp
            with_reducible rfl
           rotate_left
           ·simp only [Act.put, List.setIfInBounds_toArray, List.set_cons_zero, List.set_cons_succ, i64_w, i32_w]
            rfl
           refine pure_ (i := 1) (N := some 29) (v := ?_) (a' := ?_) #[true, true, false, false, false, false, false, false, false, false, false, false, false, false, false, false, false, false, false, false, false, false, false, false, false, false] rfl rfl (any_of HT_.out (by kernel_rfl)) (fun _ _ _ h => h) (Or.inl ⟨by rfl, ?_⟩) ?_ ?_
           rotate_left
           ·intro w'
            go_simp
            with_reducible rfl
           rotate_left
           ·simp only [Act.put, List.setIfInBounds_toArray, List.set_cons_zero, List.set_cons_succ, i64_w, i32_w]
            rfl
           refine pure_ (i := 2) (N := some 30) (v := ?_) (a' := ?_) #[true, true, true, false, false, false, false, false, false, false, false, false, false, false, false, false, false, false, false, false, false, false, false, false, false, false] rfl rfl (any_of HT_.out (by kernel_rfl)) (fun _ _ _ h => h) (Or.inl ⟨by rfl, ?_⟩) ?_ ?_
           rotate_left
           ·intro w'
            go_simp
            with_reducible rfl
           rotate_left
           ·simp only [Act.put, List.setIfInBounds_toArray, List.set_cons_zero, List.set_cons_succ, i64_w, i32_w]
            rfl
           refine pure_ (i := 3) (N := some 31) (v := ?_) (a' := ?_) #[true, true, true, true, false, false, false, false, false, false, false, false, false, false, false, false, false, false, false, false, false, false, false, false, false, false] rfl rfl (any_of HT_.out (by kernel_rfl)) (fun _ _ _ h => h) (Or.inl ⟨by rfl, ?_⟩) ?_ ?_
           rotate_left
           ·intro w'
            go_simp
            with_reducible rfl
           rotate_left
           ·simp only [Act.put, List.setIfInBounds_toArray, List.set_cons_zero, List.set_cons_succ, i64_w, i32_w]
            rfl
           refine pure_ (i := 4) (N := some 32) (v := ?_) (a' := ?_) #[true, true, true, true, true, false, false, false, false, false, false, false, false, false, false, false, false, false, false, false, false, false, false, false, false, false] rfl rfl (any_of HT_.out (by kernel_rfl)) (fun _ _ _ h => h) (Or.inl ⟨by rfl, ?_⟩) ?_ ?_
           rotate_left
           ·intro w'
            go_simp
            with_reducible rfl
           rotate_left
           ·simp only [Act.put, List.setIfInBounds_toArray, List.set_cons_zero, List.set_cons_succ, i64_w, i32_w]
            rfl
           refine pure_ (i := 5) (N := some 33) (v := ?_) (a' := ?_) #[true, true, true, true, true, true, false, false, false, false, false, false, false, false, false, false, false, false, false, false, false, false, false, false, false, false] rfl rfl (any_of HT_.out (by kernel_rfl)) (fun _ _ _ h => h) (Or.inl ⟨by rfl, ?_⟩) ?_ ?_
           rotate_left
           ·intro w'
            go_simp
            with_reducible rfl
           rotate_left
           ·simp only [Act.put, List.setIfInBounds_toArray, List.set_cons_zero, List.set_cons_succ, i64_w, i32_w]
            rfl
           refine pure_ (i := 7) (N := some 35) (v := ?_) (a' := ?_) #[true, true, true, true, true, true, false, true, false, false, false, false, false, false, false, false, false, false, false, false, false, false, false, false, false, false] rfl rfl (any_of HT_.out (by kernel_rfl)) (fun _ _ _ h => h) (Or.inl ⟨by rfl, ?_⟩) ?_ ?_
           rotate_left
           ·intro w'
            go_simp
            with_reducible rfl
           rotate_left
           ·simp only [Act.put, List.setIfInBounds_toArray, List.set_cons_zero, List.set_cons_succ, i64_w, i32_w]
            rfl
           refine pure_ (i := 8) (N := some 36) (v := ?_) (a' := ?_) #[true, true, true, true, true, true, false, true, true, false, false, false, false, false, false, false, false, false, false, false, false, false, false, false, false, false] rfl rfl (any_of HT_.out (by kernel_rfl)) (fun _ _ _ h => h) (Or.inl ⟨by rfl, ?_⟩) ?_ ?_
           rotate_left
           ·intro w'
            go_simp
            with_reducible rfl
           rotate_left
           ·simp only [Act.put, List.setIfInBounds_toArray, List.set_cons_zero, List.set_cons_succ, i64_w, i32_w]
            rfl
           refine pure_ (i := 9) (N := some 37) (v := ?_) (a' := ?_) #[true, true, true, true, true, true, false, true, true, true, false, false, false, false, false, false, false, false, false, false, false, false, false, false, false, false] rfl rfl (any_of HT_.out (by kernel_rfl)) (fun _ _ _ h => h) (Or.inl ⟨by rfl, ?_⟩) ?_ ?_
           rotate_left
           ·intro w'
            go_simp
            with_reducible rfl
           rotate_left
           ·simp only [Act.put, List.setIfInBounds_toArray, List.set_cons_zero, List.set_cons_succ, i64_w, i32_w]
            rfl
           refine pure_ (i := 10) (N := some 38) (v := ?_) (a' := ?_) #[true, true, true, true, true, true, false, true, true, true, true, false, false, false, false, false, false, false, false, false, false, false, false, false, false, false] rfl rfl (any_of HT_.out (by kernel_rfl)) (fun _ _ _ h => h) (Or.inl ⟨by rfl, ?_⟩) ?_ ?_
           rotate_left
           ·intro w'
            go_simp
            with_reducible rfl
           rotate_left
           ·simp only [Act.put, List.setIfInBounds_toArray, List.set_cons_zero, List.set_cons_succ, i64_w, i32_w]
            rfl
           refine pure_ (i := 11) (N := some 39) (v := ?_) (a' := ?_) #[true, true, true, true, true, true, false, true, true, true, true, true, false, false, false, false, false, false, false, false, false, false, false, false, false, false] rfl rfl (any_of HT_.out (by kernel_rfl)) (fun _ _ _ h => h) (Or.inl ⟨by rfl, ?_⟩) ?_ ?_
           rotate_left
           ·intro w'
            go_simp
            with_reducible rfl
           rotate_left
           ·simp only [Act.put, List.setIfInBounds_toArray, List.set_cons_zero, List.set_cons_succ, i64_w, i32_w]
            rfl
           refine pure_ (i := 13) (N := some 41) (v := ?_) (a' := ?_) #[true, true, true, true, true, true, false, true, true, true, true, true, false, true, false, false, false, false, false, false, false, false, false, false, false, false] rfl rfl (any_of HT_.out (by kernel_rfl)) (fun _ _ _ h => h) (Or.inl ⟨by rfl, ?_⟩) ?_ ?_
           rotate_left
           ·intro w'
            go_simp
            with_reducible rfl
           rotate_left
           ·simp only [Act.put, List.setIfInBounds_toArray, List.set_cons_zero, List.set_cons_succ, i64_w, i32_w]
            rfl
           refine pure_ (i := 14) (N := some 42) (v := ?_) (a' := ?_) #[true, true, true, true, true, true, false, true, true, true, true, true, false, true, true, false, false, false, false, false, false, false, false, false, false, false] rfl rfl (any_of HT_.out (by kernel_rfl)) (fun _ _ _ h => h) (Or.inl ⟨by rfl, ?_⟩) ?_ ?_
           rotate_left
           ·intro w'
            go_simp
            with_reducible rfl
           rotate_left
           ·simp only [Act.put, List.setIfInBounds_toArray, List.set_cons_zero, List.set_cons_succ, i64_w, i32_w]
            rfl
           refine pure_ (i := 15) (N := some 43) (v := ?_) (a' := ?_) #[true, true, true, true, true, true, false, true, true, true, true, true, false, true, true, true, false, false, false, false, false, false, false, false, false, false] rfl rfl (any_of HT_.out (by kernel_rfl)) (fun _ _ _ h => h) (Or.inl ⟨by rfl, ?_⟩) ?_ ?_
           rotate_left
           ·intro w'
            go_simp
            with_reducible rfl
           rotate_left
           ·simp only [Act.put, List.setIfInBounds_toArray, List.set_cons_zero, List.set_cons_succ, i64_w, i32_w]
            rfl
           refine pure_ (i := 16) (N := some 44) (v := ?_) (a' := ?_) #[true, true, true, true, true, true, false, true, true, true, true, true, false, true, true, true, true, false, false, false, false, false, false, false, false, false] rfl rfl (any_of HT_.out (by kernel_rfl)) (fun _ _ _ h => h) (Or.inl ⟨by rfl, ?_⟩) ?_ ?_
           rotate_left
           ·intro w'
            go_simp
            with_reducible rfl
           rotate_left
           ·simp only [Act.put, List.setIfInBounds_toArray, List.set_cons_zero, List.set_cons_succ, i64_w, i32_w]
            rfl
           refine pure_ (i := 17) (N := some 45) (v := ?_) (a' := ?_) #[true, true, true, true, true, true, false, true, true, true, true, true, false, true, true, true, true, true, false, false, false, false, false, false, false, false] rfl rfl (any_of HT_.out (by kernel_rfl)) (fun _ _ _ h => h) (Or.inl ⟨by rfl, ?_⟩) ?_ ?_
           rotate_left
           ·intro w'
            go_simp
            with_reducible rfl
           rotate_left
           ·simp only [Act.put, List.setIfInBounds_toArray, List.set_cons_zero, List.set_cons_succ, i64_w, i32_w]
            rfl
           refine take_ (i := 6) (N := some 34) (v := ?_) (a' := ?_) #[true, true, true, true, true, true, true, true, true, true, true, true, false, true, true, true, true, true, false, false, false, false, false, false, false, false] rfl rfl (take_ofW HT_.out HW_.out (by kernel_rfl)) (fun _ _ _ h => h) (Or.inl ⟨by rfl, ?_⟩) hHeld ?_ ?_
           rotate_left
           ·rintro w' ⟨s0, s1, s2, s3, s4, s5⟩
            go_simp
            with_reducible rfl
           rotate_left
           ·simp only [Act.put, List.setIfInBounds_toArray, List.set_cons_zero, List.set_cons_succ, i64_w, i32_w]
            rfl
           refine take_ (i := 12) (N := some 40) (v := ?_) (a' := ?_) #[true, true, true, true, true, true, true, true, true, true, true, true, true, true, true, true, true, true, false, false, false, false, false, false, false, false] rfl rfl (take_ofW HT_.out HW_.out (by kernel_rfl)) (fun _ _ _ h => h) (Or.inl ⟨by rfl, ?_⟩) hHeld ?_ ?_
           rotate_left
           ·rintro w' ⟨s0, s1, s2, s3, s4, s5⟩
            go_simp
            with_reducible rfl
           rotate_left
           ·simp only [Act.put, List.setIfInBounds_toArray, List.set_cons_zero, List.set_cons_succ, i64_w, i32_w]
            rfl
           refine take_ (i := 18) (N := some 46) (v := ?_) (a' := ?_) #[true, true, true, true, true, true, true, true, true, true, true, true, true, true, true, true, true, true, true, false, false, false, false, false, false, false] rfl rfl (take_ofW HT_.out HW_.out (by kernel_rfl)) (fun _ _ _ h => h) (Or.inl ⟨by rfl, ?_⟩) hHeld ?_ ?_
           rotate_left
           ·rintro w' ⟨s0, s1, s2, s3, s4, s5⟩
            go_simp
            with_reducible rfl
           rotate_left
           ·simp only [Act.put, List.setIfInBounds_toArray, List.set_cons_zero, List.set_cons_succ, i64_w, i32_w]
            rfl
           refine pure_ (i := 19) (N := some 47) (v := ?_) (a' := ?_) #[true, true, true, true, true, true, true, true, true, true, true, true, true, true, true, true, true, true, true, true, false, false, false, false, false, false] rfl rfl (any_of HT_.out (by kernel_rfl)) (fun _ _ _ h => h) (Or.inl ⟨by rfl, ?_⟩) ?_ ?_
           rotate_left
           ·intro w'
            go_simp
            with_reducible rfl
           rotate_left
           ·simp only [Act.put, List.setIfInBounds_toArray, List.set_cons_zero, List.set_cons_succ, i64_w, i32_w]
            rfl
           refine one_ (i := 20) (N := some 48) #[true, true, true, true, true, true, true, true, true, true, true, true, true, true, true, true, true, true, true, true, true, false, false, false, false, false] rfl rfl (one_of HT_.out (by kernel_rfl)) (by decide) (fun K hK => ?_)
           refine goes_ Try.func33 (by kernel_rfl) rfl #[.int .i64 (wrap64 (((rd_T58 l0 x5_1).f0) - ((rd_T58 l0 (ji7)).f0)))] (by rfl) rfl rfl (by (try simp only [List.map_toArray, List.map_cons, List.map_nil]); first | done | (simp only [hji7]; rfl) | rfl | (simp only [List.length_drop, List.length_take]; rfl)) ?_
           with_reducible refine (curve_whole.calls (wrap64 (((rd_T58 l0 x5_1).f0) - ((rd_T58 l0 (ji7)).f0))) t276 _ A11.out).mono ?_
           rintro e w' ⟨rfl, ⟨nd, rfl⟩⟩
           refine ⟨_, rfl, ?_⟩
           refine hK.out _ _ ⟨((HB.out.cell (World.block_lt_of_cell? w _ hw273_0)).trans hw273_0), ((HB.out.cell (World.block_lt_of_cell? w _ hw273_1)).trans hw273_1), ((HB.out.cell (World.block_lt_of_cell? w _ hw274_0)).trans hw274_0), ((HB.out.cell (World.block_lt_of_cell? w _ hw274_1)).trans hw274_1), ((HB.out.cell (World.block_lt_of_cell? w _ hw275_0)).trans hw275_0), ((HB.out.cell (World.block_lt_of_cell? w _ hw275_1)).trans hw275_1)⟩ (fun hHeld => ?_)
           clear hK K
           refine norm_ (a' := ?_) ?_ ?_
           rotate_left
           ·show Act.put _ (some 48) _ = _
            simp only [Act.put, List.setIfInBounds_toArray, List.set_cons_zero, List.set_cons_succ, i64_w, i32_w]
            rfl
           refine pure_ (i := 21) (N := some 49) (v := ?_) (a' := ?_) #[true, true, true, true, true, true, true, true, true, true, true, true, true, true, true, true, true, true, true, true, true, true, false, false, false, false] rfl rfl (any_of HT_.out (by kernel_rfl)) (fun _ _ _ h => h) (Or.inl ⟨by rfl, ?_⟩) ?_ ?_
           rotate_left
           ·intro w'
            go_simp
            with_reducible rfl
           rotate_left
           ·simp only [Act.put, List.setIfInBounds_toArray, List.set_cons_zero, List.set_cons_succ, i64_w, i32_w]
            rfl
           refine pure_ (i := 22) (N := some 50) (v := ?_) (a' := ?_) #[true, true, true, true, true, true, true, true, true, true, true, true, true, true, true, true, true, true, true, true, true, true, true, false, false, false] rfl rfl (any_of HT_.out (by kernel_rfl)) (fun _ _ _ h => h) (Or.inl ⟨by rfl, ?_⟩) ?_ ?_
           rotate_left
           ·intro w'
            go_simp
            with_reducible rfl
           rotate_left
           ·simp only [Act.put, List.setIfInBounds_toArray, List.set_cons_zero, List.set_cons_succ, i64_w, i32_w]
            rfl
           refine one_ (i := 23) (N := some 51) #[true, true, true, true, true, true, true, true, true, true, true, true, true, true, true, true, true, true, true, true, true, true, true, true, false, false] rfl rfl (one_of HT_.out (by kernel_rfl)) (by decide) (fun K hK => ?_)
           refine value_ (w1 := ?_) (v := ?_) (by rfl) rfl ?_ ?_
           rotate_left 2
           ·go_simp
            constructor
            ·rfl
            ·rfl
           refine hK.out _ _ ⟨(World.cell?_alloc_lt _ _ _ (World.block_lt_of_cell? _ _ (((HB.out.cell (World.block_lt_of_cell? w _ hw273_0)).trans hw273_0)))).trans (((HB.out.cell (World.block_lt_of_cell? w _ hw273_0)).trans hw273_0)), (World.cell?_alloc_lt _ _ _ (World.block_lt_of_cell? _ _ (((HB.out.cell (World.block_lt_of_cell? w _ hw273_1)).trans hw273_1)))).trans (((HB.out.cell (World.block_lt_of_cell? w _ hw273_1)).trans hw273_1)), (World.cell?_alloc_lt _ _ _ (World.block_lt_of_cell? _ _ (((HB.out.cell (World.block_lt_of_cell? w _ hw274_0)).trans hw274_0)))).trans (((HB.out.cell (World.block_lt_of_cell? w _ hw274_0)).trans hw274_0)), (World.cell?_alloc_lt _ _ _ (World.block_lt_of_cell? _ _ (((HB.out.cell (World.block_lt_of_cell? w _ hw274_1)).trans hw274_1)))).trans (((HB.out.cell (World.block_lt_of_cell? w _ hw274_1)).trans hw274_1)), (World.cell?_alloc_lt _ _ _ (World.block_lt_of_cell? _ _ (((HB.out.cell (World.block_lt_of_cell? w _ hw275_0)).trans hw275_0)))).trans (((HB.out.cell (World.block_lt_of_cell? w _ hw275_0)).trans hw275_0)), (World.cell?_alloc_lt _ _ _ (World.block_lt_of_cell? _ _ (((HB.out.cell (World.block_lt_of_cell? w _ hw275_1)).trans hw275_1)))).trans (((HB.out.cell (World.block_lt_of_cell? w _ hw275_1)).trans hw275_1))⟩ (fun hHeld => ?_)
           clear hK K
           refine norm_ (a' := ?_) ?_ ?_
           rotate_left
           ·show Act.put _ (some 51) _ = _
            simp only [Act.put, List.setIfInBounds_toArray, List.set_cons_zero, List.set_cons_succ, i64_w, i32_w]
            rfl
           refine one_ (i := 24) (N := some 52) #[true, true, true, true, true, true, true, true, true, true, true, true, true, true, true, true, true, true, true, true, true, true, true, true, true, false] rfl rfl (one_of HT_.out (by kernel_rfl)) (by decide) (fun K hK => ?_)
           refine Kd.R_append_step k58 (w0 := w) w.heap.size (by rfl) (.tmp 28) (.tmp 51) 31 58 (.agg #[(.int .i64 0), (.float .f32 0)]) 16 rfl Try.underlying31 info58 rfl (by decide) (by omega) u4 x4_1 (⟨(rd_T58 l0 (ji7)).f0, fl_quo (fl_sub ((rd_T58 l0 x5_1).f1) ((rd_T58 l0 (ji7)).f1)) t276⟩ : S58) [.int .i64 ((rd_T58 l0 (ji7)).f0), .float .f32 (fl_quo (fl_sub ((rd_T58 l0 x5_1).f1) ((rd_T58 l0 (ji7)).f1)) t276)] (fun _ => True) (fun _ => False) rfl rfl ?aP (fun _ hk => hk.elim) ?aF ?aO ?aB ?aS ?aL ?_
           (case aP => exact k58_mkM _ _ _ (⟨(rd_T58 l0 (ji7)).f0, fl_quo (fl_sub ((rd_T58 l0 x5_1).f1) ((rd_T58 l0 (ji7)).f1)) t276⟩ : S58))
           (case aB => exact blx)
           (case aF => exact (fun _ _ => trivial))
           (case aO => exact (by (with_reducible repeat (first | apply Kd.R_alloc | apply Kd.R_drewN | apply Kd.R_drew)); exact HO_4.out))
           (case aS => exact (below_size blx))
           (case aL => have := LMc13.out; omega)
           intro v278 w16 ho hb hg hat
           rw [← Ny277.out] at ho
           have n0_ := Aside0.mk (hb)
           have n1_ := Aside0.mk (ho)
           clear HB
           clear HO_4
           have HB := n0_
           have HO279 := n1_
           clear n0_ n1_
           clear ho hb hg hat
           refine hK.out _ _ ⟨((HB.out.cell (World.block_lt_of_cell? w _ hw273_0)).trans hw273_0), ((HB.out.cell (World.block_lt_of_cell? w _ hw273_1)).trans hw273_1), ((HB.out.cell (World.block_lt_of_cell? w _ hw274_0)).trans hw274_0), ((HB.out.cell (World.block_lt_of_cell? w _ hw274_1)).trans hw274_1), ((HB.out.cell (World.block_lt_of_cell? w _ hw275_0)).trans hw275_0), ((HB.out.cell (World.block_lt_of_cell? w _ hw275_1)).trans hw275_1)⟩ (fun hHeld => ?_)
           clear hK K
           refine norm_ (a' := ?_) ?_ ?_
           rotate_left
           ·show Act.put _ (some 52) _ = _
            simp only [Act.put, List.setIfInBounds_toArray, List.set_cons_zero, List.set_cons_succ, i64_w, i32_w]
            rfl
           refine pure_ (i := 25) (N := some 4) (v := ?_) (a' := ?_) #[true, true, true, true, true, true, true, true, true, true, true, true, true, true, true, true, true, true, true, true, true, true, true, true, true, true] rfl rfl (any_of HT_.out (by kernel_rfl)) (fun _ _ _ h => h) (Or.inl ⟨by rfl, ?_⟩) ?_ ?_
           rotate_left
           ·intro w'
            go_simp
            with_reducible rfl
           rotate_left
           ·simp only [Act.put, List.setIfInBounds_toArray, List.set_cons_zero, List.set_cons_succ, i64_w, i32_w]
            rfl
           refine done_ (done_of HT_.out (by kernel_rfl)) ?_
           try go_wp2
           go_roundg k1
           case measure => have := HK1.out; omega
           case rel => exact ⟨(y277), (wrap64 (x5_1 + 1)), (by first | rfl | (simp; done) | (simp [*]; done)), H', ⟨by have := HK1.out; omega⟩, ⟨by (with_reducible repeat (first | apply Kd.R_alloc | apply Kd.R_drewN | apply Kd.R_drew)); exact HO279.out⟩, ⟨blx⟩⟩
          ·rw [if_neg c13] at H
           exact absurd H (by simp)
         ·rw [if_neg c12] at H
          exact absurd H (by simp)
        ·rw [if_neg c10] at H
         exact absurd H (by simp)
       ·rw [if_neg c9] at H
        exact absurd H (by simp)
      ·rw [if_neg c8] at H
       exact absurd H (by simp)
     ·rw [if_neg c6] at H
      exact absurd H (by simp)
    ·rw [if_neg c5] at H
     have c5b0 : decide (x5_1 < (l0.length : Int)) = false := decide_eq_false c5
     clear c5
     simp only [Option.some.injEq, Prod.mk.injEq] at H
     obtain ⟨rfl, rfl⟩ := H
     go_wp2
     go_ret2
     exact ⟨_, by first | rfl | (simp [errW_none, errW_some] <;> rfl) | (simp [*, errW_none, errW_some] <;> rfl), by (with_reducible repeat (first | apply Kd.R_alloc | apply Kd.R_drewN | apply Kd.R_drew)); exact HO_4.out, blx⟩
 ·replace c3 := Bool.eq_false_iff.mpr c3
  subst c3
  have H1 : (some (([] : List (S58)), 172)) = some (r1, r2) := by rw [if_neg (show ¬ (false = true) by decide)] at H; exact H
  clear H
  have H := H1
  clear H1
  simp only [Option.some.injEq, Prod.mk.injEq] at H
  obtain ⟨rfl, rfl⟩ := H
  go_enter Try.func29, Try.ntmps29
  go_wp2_with (first | ((with_reducible refine gate_callee (f := 48) rfl ?_); refine goesL_ (some 8) rfl rfl Try.func48 (by kernel_rfl) rfl #[.slice A0 l0.length c0] rfl agx ?_; (with_reducible refine (curve_ordered.calls k _ _ l0 false _ ?side1 ?side2 A2.out).mono ?_); (case side1 => repeat (first | exact HR0.out | (with_reducible refine Kd.C_alloc ?_ _) | (with_reducible refine Kd.C_drewN ?_ _) | (with_reducible refine Kd.C_drew ?_))); (case side2 => exact HC0.out); rintro e w17 ⟨rfl, hb⟩; refine ⟨_, rfl, ?_⟩; have n0_ := Aside0.mk (below_step blx hb); clear HB; have HB := n0_; clear n0_; (try clear hb); (try clear hb2); (try clear hk); (try clear hi)))
  go_ret2
  exact ⟨_, by first | rfl | (simp [errW_none, errW_some] <;> rfl) | (simp [*, errW_none, errW_some] <;> rfl), by first | exact Kd.R_nil _ _ _ _ _ | exact Kd.N_nil _ _ _ _ _ | exact Kd.V_nil _ _ _ _ _ | exact Kd.Q_nil _ _ _ _ _ | exact Kd.S_nil _ _ _ _ _, blx⟩
end Go.Proofs.Ytfhgomcfpmbhnaa.PS
end

section
namespace Go.Proofs.Ytfhgomcfpmbhnaa.F
open Go.RowKit Go.Proofs.Ytfhgomcfpmbhnaa.Y Go.Proofs.Ytfhgomcfpmbhnaa.PS Ieee
open Go.Proofs.YtfhgomcfpmbhnaaW.PrintWords Go.Proofs.YtfhgomcfpmbhnaaW.PrintMore
set_option linter.unusedVariables false
set_option linter.unusedSimpArgs false
theorem whole_fin (n : Int) (h0 : -9223372036854775808 ≤ n) (h1 : n < 9223372036854775808) (hn : n ≠ 0) : FloatKind.f32.nearest n < 4294967296 ∧ FloatKind.f32.nearest n % 2147483648 < 2139095040 ∧ mX (FloatKind.f32.nearest n) ≠ 0 := by
  have lu : n.natAbs.log2 < 64 := (Nat.log2_lt (by omega)).2 (by omega)
  obtain ⟨p, hp, p0, p1⟩ := nearest_mid (decide (n < 0)) n.natAbs 0 (by omega) (by omega) (by omega)
  have hfu : FloatKind.f32.nearest n = single.nearest (decide (n < 0)) n.natAbs 0 := rfl
  obtain ⟨w1, w2, w3, w4, w5⟩ := word_parts (decide (n < 0)) p (by omega) (by omega)
  rw [hfu, hp]
  exact ⟨w1, by omega, by rw [w4]; omega⟩
theorem div_ok (x y : Nat) (hx : isNum x) (hy : y < 4294967296) (fy : y % 2147483648 < 2139095040) (hm : mX y ≠ 0) : ∃ r, single.div x y = some r ∧ isNum r := by
  unfold Format.div
  rw [read_fin y hy fy]
  by_cases fx : x % 2147483648 < 2139095040
  · rw [read_fin x hx.1 fx]
    by_cases ha : mX x = 0
    · rw [ha, quo_zero _ _ _ _ _ hm]
      exact ⟨_, rfl, word_num _ _ (by omega)⟩
    · rw [div_ieee _ _ _ _ _ _ hm]
      exact ⟨_, rfl, nearest_num _ _ _⟩
  · rw [read_inf x hx.1 (by have := hx.2; omega), quo_inf]
    exact ⟨_, rfl, word_num _ _ (by decide)⟩
theorem over_whole (x : Nat) (n : Int) (hx : isNum x) (h0 : -9223372036854775808 ≤ n) (h1 : n < 9223372036854775808) (hn : n ≠ 0) : ∃ a r : Nat, curve_whole.f n = some a ∧ levyref17_Whole.f n = some (a : Int) ∧ fk_quo x a = true ∧ fl_quo x a = r ∧ Ev (fun k => levyref17_Div.f k (x : Int) (a : Int)) (r : Int) ∧ isNum r := by
  obtain ⟨w1, w2, w3⟩ := whole_fin n h0 h1 hn
  obtain ⟨r, hr, nr⟩ := div_ok x _ hx w1 w2 w3
  obtain ⟨k1, k2⟩ := fk_of.2.2.2 hr
  exact ⟨_, r, rfl, whole_is n h0 h1, k1, k2, div_ev hx.1 w1 w2 w3 hr, nr⟩
def AllNum (l : List S73) : Prop := ∀ d ∈ l, 0 ≤ d.f1 ∧ isNum d.f1.toNat
theorem AllNum.snoc {l : List S73} (h : AllNum l) (x : Int) (r : Nat) (hr : isNum r) : AllNum (l ++ [(⟨x, r⟩ : S73)]) := by
  intro d hd
  rcases List.mem_append.1 hd with hd | hd
  · exact h d hd
  · rw [List.mem_singleton.1 hd]
    exact ⟨Int.natCast_nonneg r, hr⟩
theorem snocP (l : List S73) (x : Int) (r : Nat) : (l ++ [(⟨x, r⟩ : S73)]).map dP = l.map dP ++ [(⟨x, r⟩ : S58)] := by rw [List.map_append]; rfl
theorem snocB (l : List S73) (x : Int) (r : Nat) : (l ++ [(⟨x, r⟩ : S73)]).map dB = l.map dB ++ [(⟨x, (r : Int)⟩ : S38)] := by rw [List.map_append]; rfl
theorem chain0 {β : Type} (Fi : Option Bool) (b : Bool) (hb : Fi = some b) (J : Nat → Bool → Option β) (z : Bool) (q : β) (h : Ev (fun k => if b = true then J k z else J k true) q) : Ev (fun k => Fi.bind fun t => if t = true then J k z else J k true) q := by
  subst hb
  exact h
theorem chain1 {β : Type} (Wh : Option Int) (Dv : Nat → Int → Option Int) (Rest : Nat → Int → Option β) (a r : Int) (q : β) (hw : Wh = some a) (e2 : Ev (fun k => Dv k a) r) (e3 : Ev (fun k => Rest k r) q) : Ev (fun k => Wh.bind fun t => (Dv k t).bind fun t2 => Rest k t2) q := by
  subst hw
  exact Ev.congr (fun k => rfl) (Ev.bind (f := fun k t2 => Rest k t2) e2 e3)
theorem chain2 {β : Type} (S : Nat → Option Int) (Wh : Option Int) (Dv : Nat → Int → Int → Option Int) (Rest : Nat → Int → Option β) (d a r : Int) (q : β) (e1 : Ev S d) (hw : Wh = some a) (e2 : Ev (fun k => Dv k d a) r) (e3 : Ev (fun k => Rest k r) q) : Ev (fun k => (S k).bind fun t => Wh.bind fun t1 => (Dv k t t1).bind fun t2 => Rest k t2) q := by
  subst hw
  exact Ev.bind (f := fun k t => (some a).bind fun t1 => (Dv k t t1).bind fun t2 => Rest k t2) e1 (Ev.congr (fun k => rfl) (Ev.bind (f := fun k t2 => Rest k t2) e2 e3))
theorem rate_from {l : List S73} (hg : Good l) (hl : l.length < 8796093022208) : ∀ (n : Nat) (i : Int) (acc : List S73), 0 ≤ i → i + n = l.length → AllNum acc → acc.length ≤ i →
    ∃ res, AllNum res ∧ res.length < 8796093022208 ∧ Ev (fun k => curve_Rate.l0 k (acc.map dP) (l.map dP) (l.length : Int) i) (res.map dP) ∧ Ev (fun k => levyref17_Rate.l0 k (l.map dB) (acc.map dB) i) (res.map dB) := by
  intro n
  induction n with
  | zero =>
    intro i acc h0 hn ha hc
    refine ⟨acc, ha, by omega, Ev.step (f := fun _ => some (acc.map dP)) (fun k => ?_) (Ev.now _), Ev.step (f := fun _ => some (acc.map dB)) (fun k => ?_) (Ev.now _)⟩
    · rw [curve_Rate.l0, if_neg (by omega)]
    · rw [levyref17_Rate.l0, if_neg (by rw [List.length_map]; omega)]
  | succ n ih =>
    intro i acc h0 hn ha hc
    obtain ⟨hlt, he⟩ := hB_lt hg i
    obtain ⟨_, r0, r1⟩ := hg.at i
    have hw : wrap64 (i + 1) = i + 1 := by unfold wrap64; omega
    have hAP : ((acc.map dP).length < 8796093022208) = True := eq_true (by rw [List.length_map]; omega)
    have hAB : ((acc.map dB).length < 8796093022208) = True := eq_true (by rw [List.length_map]; omega)
    have s1 : ∀ k, curve_Rate.l0 (k + 1) (acc.map dP) (l.map dP) (l.length : Int) i = if (rd_T73 l i).f0 = 0 then curve_Rate.l0 k (acc.map dP) (l.map dP) (l.length : Int) (i + 1) else (curve_finite.f (hB l i)).bind fun t261 => (if t261 = true then ((curve_whole.f ((rd_T73 l i).f0)).bind fun t262 => (if fk_quo (hB l i) t262 = true then (curve_Rate.l0 k (acc.map dP ++ [(⟨(rd_T73 l i).f0, fl_quo (hB l i) t262⟩ : S58)]) (l.map dP) (l.length : Int) (i + 1)) else (none))) else (curve_Rate.l0 k (acc.map dP) (l.map dP) (l.length : Int) (i + 1))) := by
      intro k
      rw [curve_Rate.l0, if_pos (by omega), if_pos h0, if_pos (by rw [List.length_map]; omega), rd_P l i, hw]
      simp only [hAP, if_true]
      rfl
    have s2 : ∀ k, levyref17_Rate.l0 (k + 1) (l.map dB) (acc.map dB) i = (levyref17_Finite.f (hB l i : Int)).bind fun t164 => (if t164 = true then (levyref17_Rate.j1 k (l.map dB) (acc.map dB) i (((rd_T73 l i).f0) == 0)) else (levyref17_Rate.j1 k (l.map dB) (acc.map dB) i true)) := by
      intro k
      rw [levyref17_Rate.l0, if_pos (by rw [List.length_map]; omega), if_pos h0, rd_B l i]
      show (levyref17_Finite.f (rd_T73 l i).f1).bind _ = _
      rw [he]
      rfl
    have s3 : ∀ k, levyref17_Rate.j1 (k + 1) (l.map dB) (acc.map dB) i true = levyref17_Rate.l0 k (l.map dB) (acc.map dB) (i + 1) := by
      intro k
      rw [levyref17_Rate.j1, if_pos rfl, hw]
    have s4 : ∀ k, levyref17_Rate.j1 (k + 1) (l.map dB) (acc.map dB) i false = ((levyref17_Whole.f ((rd_T73 l i).f0)).bind fun t167 => ((levyref17_Div.f k (hB l i : Int) t167).bind fun t169 => (levyref17_Rate.l0 k (l.map dB) (acc.map dB ++ [(⟨(rd_T73 l i).f0, t169⟩ : S38)]) (i + 1)))) := by
      intro k
      rw [levyref17_Rate.j1, if_neg (by simp), if_pos h0, if_pos (by rw [List.length_map]; omega), rd_B l i, hw]
      simp only [hAB, if_true]
      show (levyref17_Whole.f (rd_T73 l i).f0).bind (fun t167 => (levyref17_Div.f k (rd_T73 l i).f1 t167).bind _) = _
      rw [he]
      rfl
    have hff : curve_finite.f (hB l i) = some (decide (hB l i % 2147483648 < 2139095040)) := by
      show some (fFin (hB l i)) = _
      rw [fFin_is _ hlt]
    obtain ⟨res, q1, q2, q3, q4⟩ := ih (i + 1) acc (by omega) (by omega) ha (by omega)
    by_cases hx : (rd_T73 l i).f0 = 0
    · refine ⟨res, q1, q2, Ev.step (fun k => by rw [s1, if_pos hx]) q3, Ev.step s2 ?_⟩
      refine chain0 _ _ (fin_is _) (fun k z => levyref17_Rate.j1 k (l.map dB) (acc.map dB) i z) _ _ ?_
      rw [hx]
      have : ∀ b : Bool, Ev (fun k => if b = true then levyref17_Rate.j1 k (l.map dB) (acc.map dB) i ((0 : Int) == 0) else levyref17_Rate.j1 k (l.map dB) (acc.map dB) i true) (res.map dB) := by
        intro b
        have e : ((0 : Int) == 0) = true := rfl
        rw [e]
        cases b
        · exact Ev.step s3 q4
        · exact Ev.step s3 q4
      exact this _
    · by_cases hf : hB l i % 2147483648 < 2139095040
      · obtain ⟨a, r, g1, g2, g3, g4, g5, g6⟩ := over_whole (hB l i) (rd_T73 l i).f0 ⟨hlt, by omega⟩ (by omega) (by omega) hx
        obtain ⟨res, q1, q2, q3, q4⟩ := ih (i + 1) (acc ++ [⟨(rd_T73 l i).f0, r⟩]) (by omega) (by omega) (ha.snoc _ _ g6) (by rw [List.length_append, List.length_singleton]; omega)
        rw [snocP] at q3
        rw [snocB] at q4
        refine ⟨res, q1, q2, Ev.step (fun k => ?_) q3, Ev.step s2 ?_⟩
        · rw [s1, if_neg hx, hff, g1]
          simp only [Option.bind_some, decide_eq_true hf, if_true, g3, g4]
        · refine chain0 _ _ (fin_is _) (fun k z => levyref17_Rate.j1 k (l.map dB) (acc.map dB) i z) _ _ ?_
          have e : ((rd_T73 l i).f0 == 0) = false := beq_eq_false_iff_ne.2 hx
          rw [e, decide_eq_true hf]
          refine Ev.congr (fun k => if_pos rfl) (Ev.step s4 ?_)
          exact chain1 (levyref17_Whole.f ((rd_T73 l i).f0)) (fun k t => levyref17_Div.f k (hB l i : Int) t) (fun k t169 => levyref17_Rate.l0 k (l.map dB) (acc.map dB ++ [(⟨(rd_T73 l i).f0, t169⟩ : S38)]) (i + 1)) (a : Int) (r : Int) _ g2 g5 q4
      · refine ⟨res, q1, q2, Ev.step (fun k => ?_) q3, Ev.step s2 ?_⟩
        · rw [s1, if_neg hx, hff]
          simp only [Option.bind_some, decide_eq_false hf]
          rfl
        · refine chain0 _ _ (fin_is _) (fun k z => levyref17_Rate.j1 k (l.map dB) (acc.map dB) i z) _ _ ?_
          rw [decide_eq_false hf]
          exact Ev.congr (fun k => if_neg (by simp)) (Ev.step s3 q4)
theorem rate_is {l : List S73} (hg : Good l) (hl : l.length < 8796093022208) : ∃ res, AllNum res ∧ res.length < 8796093022208 ∧ Ev (fun k => curve_Rate.f k (l.map dP)) (res.map dP) ∧ Ev (fun k => levyref17_Rate.f k (l.map dB)) (res.map dB) := by
  obtain ⟨res, q1, q2, q3, q4⟩ := rate_from hg hl l.length 0 [] (by omega) (by omega) (fun d hd => by simp at hd) (by simp)
  refine ⟨res, q1, q2, ?_, q4⟩
  refine Ev.congr (fun k => ?_) q3
  unfold curve_Rate.f
  rw [List.length_map]
  rfl
theorem slope_from {l : List S73} (hg : Good l) (hl : l.length < 8796093022208) (ho : InOrd l l.length) : ∀ (n : Nat) (i : Int) (acc : List S73), 1 ≤ i → i + n = l.length → AllNum acc → acc.length ≤ i →
    ∃ res, AllNum res ∧ res.length < 8796093022208 ∧ Ev (fun k => curve_Slope.l0 k (l.map dP) (acc.map dP) i) (res.map dP, 0) ∧ Ev (fun k => levyref17_Slope.l0 k (l.map dB) (acc.map dB) i) (res.map dB, 0) := by
  intro n
  induction n with
  | zero =>
    intro i acc h0 hn ha hc
    refine ⟨acc, ha, by omega, Ev.step (f := fun _ => some (acc.map dP, 0)) (fun k => ?_) (Ev.now _), Ev.step (f := fun _ => some (acc.map dB, 0)) (fun k => ?_) (Ev.now _)⟩
    · rw [curve_Slope.l0, if_neg (by rw [List.length_map]; omega)]
    · rw [levyref17_Slope.l0, if_neg (by rw [List.length_map]; omega)]
  | succ n ih =>
    intro i acc h0 hn ha hc
    obtain ⟨hlt, he⟩ := hB_lt hg i
    obtain ⟨hlt1, he1⟩ := hB_lt hg (i - 1)
    obtain ⟨f0, x0, x1, x2⟩ := ho i (by omega) (by omega)
    obtain ⟨f1, y0, y1, _⟩ := ho (i - 1) (by omega) (by omega)
    have hx := x2 (by omega)
    have hw : wrap64 (i + 1) = i + 1 := by unfold wrap64; omega
    have hw1 : wrap64 (i - 1) = i - 1 := by unfold wrap64; omega
    have hAB : ((acc.map dB).length < 8796093022208) = True := eq_true (by rw [List.length_map]; omega)
    obtain ⟨d, hd, nd⟩ := sub_fin (hB l i) (hB l (i - 1)) hlt hlt1 f0 f1
    obtain ⟨k1, k2⟩ := fk_of.2.1 hd
    have hP1 : (rd_T58 (l.map dP) (i - 1)).f1 = hB l (i - 1) := by rw [rd_P]; rfl
    have hP0 : (rd_T58 (l.map dP) (i - 1)).f0 = (rd_T73 l (i - 1)).f0 := by rw [rd_P]; rfl
    have hQ1 : (rd_T58 (l.map dP) i).f1 = hB l i := by rw [rd_P]; rfl
    have hQ0 : (rd_T58 (l.map dP) i).f0 = (rd_T73 l i).f0 := by rw [rd_P]; rfl
    have hB1 : (rd_T38 (l.map dB) (i - 1)).f1 = (hB l (i - 1) : Int) := by rw [rd_B]; exact he1
    have hB0 : (rd_T38 (l.map dB) (i - 1)).f0 = (rd_T73 l (i - 1)).f0 := by rw [rd_B]; rfl
    have hC1 : (rd_T38 (l.map dB) i).f1 = (hB l i : Int) := by rw [rd_B]; exact he
    have hC0 : (rd_T38 (l.map dB) i).f0 = (rd_T73 l i).f0 := by rw [rd_B]; rfl
    generalize (rd_T73 l i).f0 = X at *
    generalize (rd_T73 l (i - 1)).f0 = X1 at *
    have hwx : wrap64 (X - X1) = X - X1 := by unfold wrap64; omega
    obtain ⟨a, r, g1, g2, g3, g4, g5, g6⟩ := over_whole d (X - X1) nd (by omega) (by omega) (by omega)
    obtain ⟨res, q1, q2, q3, q4⟩ := ih (i + 1) (acc ++ [⟨X1, r⟩]) (by omega) (by omega) (ha.snoc _ _ g6) (by rw [List.length_append, List.length_singleton]; omega)
    rw [snocP] at q3
    rw [snocB] at q4
    refine ⟨res, q1, q2, Ev.step (fun k => ?_) q3, Ev.step (f := fun k => ((levyref17_Sub.f k (hB l i : Int) (hB l (i - 1) : Int)).bind fun t177 => ((levyref17_Whole.f (X - X1)).bind fun t180 => ((levyref17_Div.f k t177 t180).bind fun t181 => (levyref17_Slope.l0 k (l.map dB) (acc.map dB ++ [(⟨X1, t181⟩ : S38)]) (i + 1)))))) (fun k => ?_) ?_⟩
    · rw [curve_Slope.l0, if_pos (by rw [List.length_map]; omega), if_pos (by omega), hw1, if_pos (by omega), if_pos (by rw [List.length_map]; omega), hP1, hP0, hQ1, hQ0, hw, hwx, if_pos k1, k2, g1]
      simp only [Option.bind_some]
      rw [if_pos g3, g4, if_pos (by rw [List.length_map]; omega)]
    · rw [levyref17_Slope.l0, if_pos (by rw [List.length_map]; omega), if_pos (by omega), hw1, if_pos (by omega), if_pos (by rw [List.length_map]; omega), hB1, hB0, hC1, hC0, hw, hwx]
      simp only [hAB, if_true]
    · exact chain2 (fun k => levyref17_Sub.f k (hB l i : Int) (hB l (i - 1) : Int)) (levyref17_Whole.f (X - X1)) levyref17_Div.f (fun k t181 => levyref17_Slope.l0 k (l.map dB) (acc.map dB ++ [(⟨X1, t181⟩ : S38)]) (i + 1)) (d : Int) (a : Int) (r : Int) _ (sub_ev hlt hlt1 hd) g2 g5 q4
theorem slope_is {l : List S73} (hg : Good l) (hl : l.length < 8796093022208) : ∃ res e, AllNum res ∧ res.length < 8796093022208 ∧ Ev (fun k => curve_Slope.f k (l.map dP)) (res.map dP, e) ∧ Ev (fun k => levyref17_Slope.f k (l.map dB)) (res.map dB, e) := by
  obtain ⟨b, b1, b2, b3⟩ := ordered_is hg
  cases b with
  | false =>
    refine ⟨[], 172, fun d hd => by simp at hd, by decide, ?_, ?_⟩
    · refine Ev.bind (f := fun k t270 => _) b1 ?_
      simp only [Bool.false_eq_true, if_false]
      exact Ev.now _
    · refine Ev.bind (f := fun k t174 => _) b2 ?_
      simp only [Bool.false_eq_true, if_false]
      exact Ev.now _
  | true =>
    by_cases h0 : l.length = 0
    · obtain rfl : l = [] := List.eq_nil_of_length_eq_zero h0
      refine ⟨[], 0, fun d hd => by simp at hd, by decide, ?_, ?_⟩
      · refine Ev.bind (f := fun k t270 => _) b1 ?_
        simp only [if_true]
        exact Ev.step (f := fun _ => some ([], 0)) (fun k => by rw [curve_Slope.l0, if_neg (by simp)]) (Ev.now _)
      · refine Ev.bind (f := fun k t174 => _) b2 ?_
        simp only [if_true]
        exact Ev.step (f := fun _ => some ([], 0)) (fun k => by rw [levyref17_Slope.l0, if_neg (by simp)]) (Ev.now _)
    · obtain ⟨res, q1, q2, q3, q4⟩ := slope_from hg hl (b3 rfl) (l.length - 1) 1 [] (by omega) (by omega) (fun d hd => by simp at hd) (by simp)
      refine ⟨res, 0, q1, q2, ?_, ?_⟩
      · refine Ev.bind (f := fun k t270 => _) b1 ?_
        simp only [if_true]
        exact q3
      · refine Ev.bind (f := fun k t174 => _) b2 ?_
        simp only [if_true]
        exact q4
theorem same_is' (m : List S73) (h : AllNum m) (hl : m.length < 8796093022208) : Ev (fun k => levylaw17_sameDots.f k (m.map dP) (m.map dB)) true := by
  have go : ∀ (n : Nat) (i : Int), 0 ≤ i → i + n = m.length → Ev (fun k => levylaw17_sameDots.l0 k (m.map dP) (m.map dB) i) true := by
    intro n
    induction n with
    | zero =>
      intro i h0 hn
      refine Ev.step (f := fun _ => some true) (fun k => ?_) (Ev.now _)
      rw [levylaw17_sameDots.l0, if_neg (by rw [List.length_map]; omega)]
    | succ n ih =>
      intro i h0 hn
      refine Ev.step (fun k => ?_) (ih (i + 1) (by omega) (by omega))
      have hmem : rd_T73 m i ∈ m := by
        unfold rd_T73
        rw [List.getD_eq_getElem?_getD, List.getElem?_eq_getElem (by omega)]
        exact List.getElem_mem _
      obtain ⟨p0, p1⟩ := h _ hmem
      have hP1 : (rd_T58 (m.map dP) i).f1 = (rd_T73 m i).f1.toNat := by rw [rd_P]; rfl
      have hB1 : (rd_T38 (m.map dB) i).f1 = ((rd_T73 m i).f1.toNat : Int) := by rw [rd_B]; show (rd_T73 m i).f1 = _; omega
      have hX : (rd_T58 (m.map dP) i).f0 = (rd_T38 (m.map dB) i).f0 := by rw [rd_P, rd_B]; rfl
      rw [levylaw17_sameDots.l0, if_pos (by rw [List.length_map]; omega), if_pos h0, if_pos (by rw [List.length_map]; omega), if_pos hX, hP1, hB1, near_same _ p1, show wrap64 (i + 1) = i + 1 by unfold wrap64; omega]
      rfl
  have e : ∀ k, levylaw17_sameDots.f k (m.map dP) (m.map dB) = levylaw17_sameDots.l0 k (m.map dP) (m.map dB) 0 := by
    intro k
    unfold levylaw17_sameDots.f
    rw [if_pos (by rw [List.length_map, List.length_map])]
  exact Ev.congr e (go m.length 0 (by omega) (by omega))
end Go.Proofs.Ytfhgomcfpmbhnaa.F
end

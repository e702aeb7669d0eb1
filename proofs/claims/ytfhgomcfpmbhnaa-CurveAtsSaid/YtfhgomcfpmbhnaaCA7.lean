-- Part 7 of the texts of the claim CA (wrote by programs: words of the kit's print.sh, printed functions; and my own texts; joined by wip/tools/pack.py).
import Derived.Test.YtfhgomcfpmbhnaaCA6
import Derived.Laws.AppendOwn

section
namespace Go.Proofs.Ytfhgomcfpmbhnaa.Y
open Go.RowKit Go.Proofs.Ytfhgomcfpmbhnaa.PS Go.Proofs.Ytfhgomcfpmbhnaa.F Go.Proofs.YtfhgomcfpmbhnaaW.PrintWords Go.Proofs.YtfhgomcfpmbhnaaW.PrintMore Go.Proofs.YtfhgomcfpmbhnaaW.Fits
attribute [local go_sem] frun_store frun_bits frun_from
set_option linter.unusedVariables false
set_option maxRecDepth 100000
def two {α : Type} (f1 f2 : α → Value) (l : List α) : List Value := l.flatMap fun x => [f1 x, f2 x]
theorem two_len {α : Type} (f1 f2 : α → Value) (l : List α) : (two f1 f2 l).length = l.length * 2 := by
  unfold two
  induction l with
  | nil => rfl
  | cons d t ih => rw [List.flatMap_cons, List.length_append, ih]; simp; omega
theorem two_at {α : Type} (f1 f2 : α → Value) : ∀ (l : List α) (j : Nat), (two f1 f2 l)[j * 2]? = l[j]?.map f1 ∧ (two f1 f2 l)[j * 2 + 1]? = l[j]?.map f2
  | [], j => by simp [two]
  | x :: t, 0 => by simp [two]
  | x :: t, j + 1 => by
    have ih := two_at f1 f2 t j
    have e : two f1 f2 (x :: t) = f1 x :: f2 x :: two f1 f2 t := rfl
    rw [e, show (j + 1) * 2 = j * 2 + 1 + 1 by omega, show (j * 2 + 1 + 1 + 1) = (j * 2 + 1) + 1 + 1 by omega]
    simp only [List.getElem?_cons_succ]
    exact ih
def dotv (l : List S73) : List Value := two (fun d => .int .i64 d.f0) (fun d => .int .u32 d.f1) l
def pntv (l : List S58) : List Value := two (fun d => .int .i64 d.f0) (fun d => .float .f32 d.f1) l
theorem ptv_pnt (l : List S73) : ptv l = pntv (l.map dP) := by
  unfold ptv pntv two
  rw [List.flatMap_map]
  rfl
theorem C_dot {w : World} {g n : Nat} {l : List S73} (hn : n = l.length) (hmax : n ≤ 9223372036854775807) (h : ∀ j u, (dotv l)[j]? = some u → w.cell? ⟨g, j, none⟩ = some u) : Kd.C k73 w (some ⟨g, 0, none⟩) n l := by
  subst hn
  refine ⟨rfl, hmax, fun _ => ⟨_, rfl, fun j p hj => ?_⟩⟩
  refine ⟨_, rfl, k73_mk w p, fun i u hu => ?_⟩
  rw [add_at]
  refine h _ u ?_
  obtain ⟨h0, h1⟩ := two_at (fun d : S73 => .int .i64 d.f0) (fun d => .int .u32 d.f1) l j
  rw [hj] at h0 h1
  unfold dotv
  match i, hu with
  | 0, hu => rw [show 0 + (j * k73.sz + 0) = j * 2 by show 0 + (j * 2 + 0) = _; omega, h0]; exact hu
  | 1, hu => rw [show 0 + (j * k73.sz + 1) = j * 2 + 1 by show 0 + (j * 2 + 1) = _; omega, h1]; exact hu
  | i + 2, hu => simp at hu
theorem C_pnt {w : World} {g n : Nat} {l : List S58} (hn : n = l.length) (hmax : n ≤ 9223372036854775807) (h : ∀ j u, (pntv l)[j]? = some u → w.cell? ⟨g, j, none⟩ = some u) : Kd.C k58 w (some ⟨g, 0, none⟩) n l := by
  subst hn
  refine ⟨rfl, hmax, fun _ => ⟨_, rfl, fun j p hj => ?_⟩⟩
  refine ⟨_, rfl, k58_mk w p, fun i u hu => ?_⟩
  rw [add_at]
  refine h _ u ?_
  obtain ⟨h0, h1⟩ := two_at (fun d : S58 => .int .i64 d.f0) (fun d => .float .f32 d.f1) l j
  rw [hj] at h0 h1
  unfold pntv
  match i, hu with
  | 0, hu => rw [show 0 + (j * k58.sz + 0) = j * 2 by show 0 + (j * 2 + 0) = _; omega, h0]; exact hu
  | 1, hu => rw [show 0 + (j * k58.sz + 1) = j * 2 + 1 by show 0 + (j * 2 + 1) = _; omega, h1]; exact hu
  | i + 2, hu => simp at hu
structure InRow (w : World) (g : Nat) (l : List S58) : Prop where
  cell : ∀ j u, (pntv l)[j]? = some u → w.cell? ⟨g, j, none⟩ = some u
  m0 : w.cell? ⟨g, l.length * 2, none⟩ = some (.int .i64 (-7701))
  m1 : w.cell? ⟨g, (l.length + 1) * 2, none⟩ = some (.int .i64 (-7702))
  fr : ∀ j, w.frozen? ⟨g, j, none⟩ = false
theorem InRow.of_own {w : World} {base g : Nat} {l : List S73} (h : w.ownsRow base 58 2 (.slice (some ⟨g, 0, none⟩) (l.length + 2) (l.length + 2)) (l.length + 2) (ptv l ++ [.int .i64 (-7701), .float .f32 0, .int .i64 (-7702), .float .f32 0])) : InRow w g (l.map dP) := by
  have hlen := ptv_len l
  have hc : ∀ j u, (ptv l ++ [.int .i64 (-7701), .float .f32 0, .int .i64 (-7702), .float .f32 0])[j]? = some u → w.cell? ⟨g, j, none⟩ = some u := fun j u hu => by
    have := h.cells (g := g) rfl j u hu
    rwa [add_plain] at this
  refine ⟨fun j u hu => hc j u ?_, hc _ _ ?_, hc _ _ ?_, h.frozenAt⟩
  · rw [← ptv_pnt] at hu
    rw [List.getElem?_append_left (List.getElem?_eq_some_iff.1 hu).1]
    exact hu
  · rw [List.getElem?_append_right (by rw [hlen, List.length_map]; omega), hlen, List.length_map, Nat.sub_self]; rfl
  · rw [List.getElem?_append_right (by rw [hlen, List.length_map]; omega), hlen, List.length_map, show (l.length + 1) * 2 - l.length * 2 = 2 by omega]; rfl
theorem InRow.keep {w w' : World} {g : Nat} {l : List S58} (h : InRow w g l) (hb : w'.heap[g]? = w.heap[g]?) : InRow w' g l :=
  ⟨fun j u hu => (World.cell?_of_block (a := ⟨g, j, none⟩) hb).trans (h.cell j u hu), (World.cell?_of_block (a := ⟨g, _, none⟩) hb).trans h.m0, (World.cell?_of_block (a := ⟨g, _, none⟩) hb).trans h.m1, fun j => (World.frozen?_of_block (a := ⟨g, j, none⟩) hb).trans (h.fr j)⟩
theorem InRow.C {w : World} {g : Nat} {l : List S58} (h : InRow w g l) (hmax : l.length ≤ 9223372036854775807) : Kd.C k58 w (some ⟨g, 0, none⟩) l.length l := C_pnt rfl hmax h.cell
set_option maxHeartbeats 1000000 in
theorem marked_calls (g n cap : Nat) (w : World) (hcap : n + 2 ≤ cap) (hn : n ≤ 8796093022208) (hm0 : w.cell? ⟨g, n * 2, none⟩ = some (.int .i64 (-7701))) (hm1 : w.cell? ⟨g, (n + 1) * 2, none⟩ = some (.int .i64 (-7702))) :
    Calls Try.prog 39 #[.slice (some ⟨g, 0, none⟩) n cap] w fun e w' => e = .returned (.bool true) ∧ w = w' := by
  have h1 : (n : Int) + 2 ≤ (cap : Int) := by omega
  have h2 : (n : Int) ≤ 8796093022208 := by omega
  go_enter Try.func39, Try.ntmps39
  go_wp2
  go_ret
  exact ⟨rfl, rfl⟩
set_option maxHeartbeats 4000000 in
theorem kept_calls (g cap : Nat) (l : List S73) (A : Option Addr) (c1 : Nat) (w : World) (hin : InRow w g (l.map dP)) (hcap : l.length + 2 ≤ cap) (hr : Kd.C k73 w A l.length l) (hc : l.length ≤ c1) (hlen : l.length ≤ 8796093022208) (hg : F.Good l) :
    Calls Try.prog 18 #[.slice (some ⟨g, 0, none⟩) l.length cap, .slice A l.length c1] w fun e w' => e = .returned (.bool true) ∧ Drawn0 w w' := by
  have HIN := Aside0.mk hin
  have HR := Aside0.mk hr
  have HG := Aside0.mk hg
  have hm0 : w.cell? ⟨g, l.length * 2, none⟩ = some (.int .i64 (-7701)) := by have := hin.m0; rwa [List.length_map] at this
  have hm1 : w.cell? ⟨g, (l.length + 1) * 2, none⟩ = some (.int .i64 (-7702)) := by have := hin.m1; rwa [List.length_map] at this
  have HM0 := Aside0.mk hm0
  have HM1 := Aside0.mk hm1
  clear hin hr hg hm0 hm1
  go_enter Try.func18, Try.ntmps18
  go_wp2_with (first | (go_at_call 39; refine (marked_calls g l.length cap w hcap hlen HM0.out HM1.out).mono ?_; rintro e w' ⟨rfl, rfl⟩))
  go_loopg [5] (l.length + 1) (fun kq v5 w' => ∃ i : Nat, v5 = .int .i64 (i : Int) ∧ Aside0 (kq + i = l.length + 1) ∧ Aside0 (i ≤ l.length) ∧ Aside0 (Drawn0 w w'))
  case atStart => exact ⟨0, rfl, ⟨by omega⟩, ⟨by omega⟩, ⟨Drawn0.refl _⟩⟩
  case round =>
    obtain ⟨i, rfl, HK, HI, HD⟩ := hrel
    cases gk with
    | zero => exact absurd HK.out (by have := HI.out; omega)
    | succ k1 =>
      by_cases hlt : i < l.length
      · have hb0 : decide ((i : Int) < (l.length : Int)) = true := decide_eq_true (by omega)
        obtain ⟨ad, e1, hx0, hx1⟩ := at_T73 HR.out (i : Int) (by omega) (by omega)
        cases e1
        rw [Int.toNat_natCast] at hx0 hx1
        obtain ⟨hy0, hy1⟩ := two_at (fun d : S58 => .int .i64 d.f0) (fun d => .float .f32 d.f1) (l.map dP) i
        have hri : l[i]? = some (rd_T73 l (i : Int)) := by
          unfold rd_T73
          rw [List.getD_eq_getElem?_getD, Int.toNat_natCast, List.getElem?_eq_getElem hlt]
          rfl
        rw [List.getElem?_map, hri] at hy0 hy1
        replace hy0 := HIN.out.cell _ _ hy0
        replace hy1 := HIN.out.cell _ _ hy1
        have hbt := (hB_lt HG.out (i : Int)).2
        obtain ⟨nd, rfl⟩ := HD.out.out
        obtain ⟨X, hX⟩ : ∃ X, (rd_T73 l (i : Int)).f0 = X := ⟨_, rfl⟩
        obtain ⟨Y, hY⟩ : ∃ Y, hB l (i : Int) = Y := ⟨_, rfl⟩
        replace hy0 : w.cell? ⟨g, i * 2, none⟩ = some (.int .i64 X) := by rw [← hX]; exact hy0
        replace hy1 : w.cell? ⟨g, i * 2 + 1, none⟩ = some (.float .f32 Y) := by rw [← hY]; exact hy1
        rw [hX] at hx0
        rw [hbt, hY] at hx1
        have HBT := Aside0.mk hbt
        have HX := Aside0.mk hX
        have HY := Aside0.mk hY
        clear hbt hX hY hri
        have p0 : (0 : Int) ≤ (i : Int) := by omega
        have p1 : (i : Int) < (l.length : Int) := by omega
        go_wp2_with fail
        have q0 : (decide (Y = Y)) = true := by simp
        go_quiet (fail)
        go_wp2
        go_roundg k1
        case measure => omega
        case rel => exact ⟨i + 1, by simp, ⟨by have := HK.out; omega⟩, ⟨by omega⟩, ⟨⟨_, rfl⟩⟩⟩
      · obtain rfl : i = l.length := by have := HI.out; omega
        have hb0 : decide ((l.length : Int) < (l.length : Int)) = false := decide_eq_false (by omega)
        go_wp2
        go_ret
        exact ⟨rfl, HD.out⟩
def setY (l : List S73) (i : Nat) (y : Int) : List S73 := l.set i ⟨(l.getD i z73).f0, y⟩
def turnedL (l : List S73) : List S73 := if l.length = 0 then l else setY (setY l 0 1077936128) (l.length - 1) 3221225472
theorem setY_len (l : List S73) (i : Nat) (y : Int) : (setY l i y).length = l.length := by simp [setY]
theorem turnedL_len (l : List S73) : (turnedL l).length = l.length := by
  unfold turnedL
  split
  · rfl
  · rw [setY_len, setY_len]
theorem two_set {α : Type} (f1 f2 : α → Value) : ∀ (l : List α) (i : Nat) (x y : α), l[i]? = some x → f1 y = f1 x → (two f1 f2 l).set (i * 2 + 1) (f2 y) = two f1 f2 (l.set i y)
  | [], i, x, y, h, _ => by simp at h
  | z :: t, 0, x, y, h, e => by
    obtain rfl : z = x := by simpa using h
    simp [two, e]
  | z :: t, i + 1, x, y, h, e => by
    have ih := two_set f1 f2 t i x y (by simpa using h) e
    have e1 : two f1 f2 (z :: t) = f1 z :: f2 z :: two f1 f2 t := rfl
    have e2 : two f1 f2 ((z :: t).set (i + 1) y) = f1 z :: f2 z :: two f1 f2 (t.set i y) := rfl
    rw [e1, e2, show (i + 1) * 2 + 1 = (i * 2 + 1) + 1 + 1 by omega, List.set_cons_succ, List.set_cons_succ, ih]
theorem dotv_set (l : List S73) (i : Nat) (y : Int) (hi : i < l.length) : (dotv l).set (i * 2 + 1) (.int .u32 y) = dotv (setY l i y) := by
  unfold dotv setY
  rw [List.getD_eq_getElem?_getD, List.getElem?_eq_getElem hi]
  exact two_set (fun d : S73 => .int .i64 d.f0) (fun d => .int .u32 d.f1) l i l[i] ⟨l[i].f0, y⟩ (List.getElem?_eq_getElem hi) rfl
theorem pntv_set (l : List S73) (i : Nat) (y : Nat) (hi : i < l.length) : (pntv (l.map dP)).set (i * 2 + 1) (.float .f32 y) = pntv ((setY l i y).map dP) := by
  unfold pntv setY
  rw [List.getD_eq_getElem?_getD, List.getElem?_eq_getElem hi, List.map_set]
  exact two_set (fun d : S58 => .int .i64 d.f0) (fun d => .float .f32 d.f1) (l.map dP) i (dP l[i]) (dP ⟨l[i].f0, y⟩) (by rw [List.getElem?_map, List.getElem?_eq_getElem hi]; rfl) rfl
theorem InRow.set {w : World} {g : Nat} {l : List S73} (h : InRow w g (l.map dP)) (i : Nat) (y : Nat) (hi : i < l.length) : InRow (w.setCell ⟨g, i * 2 + 1, none⟩ (.float .f32 y)) g ((setY l i y).map dP) := by
  have hlt : i * 2 + 1 < (pntv (l.map dP)).length := by unfold pntv; rw [two_len, List.length_map]; omega
  have hother : ∀ j, j ≠ i * 2 + 1 → (w.setCell ⟨g, i * 2 + 1, none⟩ (.float .f32 y)).cell? ⟨g, j, none⟩ = w.cell? ⟨g, j, none⟩ := fun j hj => World.cell?_setCell_other w _ _ _ (fun e => hj (by injection e with _ e2 _; exact e2.symm))
  have hm0 := h.m0
  have hm1 := h.m1
  rw [List.length_map] at hm0 hm1
  refine ⟨fun j u hu => ?_, ?_, ?_, fun j => ?_⟩
  · rw [← pntv_set l i y hi] at hu
    by_cases hj : j = i * 2 + 1
    · subst hj
      rw [List.getElem?_set_self hlt] at hu
      obtain rfl := Option.some.inj hu
      exact World.cell?_setCell_same w _ _ (h.cell _ _ (List.getElem?_eq_getElem hlt))
    · rw [List.getElem?_set_ne (fun e => hj e.symm)] at hu
      rw [hother j hj]
      exact h.cell j u hu
  · rw [List.length_map, setY_len, hother _ (by omega)]; exact hm0
  · rw [List.length_map, setY_len, hother _ (by omega)]; exact hm1
  · rw [World.frozen?_setCell]; exact h.fr j
theorem info73 : (Try.prog.info? 73).map (fun i => (i.zero, i.size, i.bytes)) = some (some (.agg #[.int .i64 0, .int .u32 0]), 2, 16) := by kernel_rfl
theorem dotv_cells {w : World} {A : Option Addr} {l : List S73} (h : Kd.C k73 w A l.length l) (hp : 0 < l.length) : ∃ ad, A = some ad ∧ ∀ j u, (dotv l)[j]? = some u → w.cell? (ad.add j) = some u := by
  obtain ⟨_, _, h3⟩ := h
  obtain ⟨ad, e, hc⟩ := h3 hp
  refine ⟨ad, e, fun j u hu => ?_⟩
  obtain ⟨q, r, hr, rfl⟩ : ∃ q r, r < 2 ∧ j = q * 2 + r := ⟨j / 2, j % 2, by omega, by omega⟩
  have hj := (List.getElem?_eq_some_iff.1 hu).1
  unfold dotv at hu hj
  rw [two_len] at hj
  have hq : q < l.length := by omega
  obtain ⟨c, hcl, hK, hcc⟩ := hc q l[q] (List.getElem?_eq_getElem hq)
  obtain rfl := k73_open hK
  obtain ⟨h0, h1⟩ := two_at (fun d : S73 => .int .i64 d.f0) (fun d => .int .u32 d.f1) l q
  rw [List.getElem?_eq_getElem hq] at h0 h1
  match r, hr with
  | 0, _ => exact hcc 0 u (by rw [Nat.add_zero] at hu; rw [h0] at hu; exact hu)
  | 1, _ => exact hcc 1 u (by rw [h1] at hu; exact hu)
theorem grown_some {w w' : World} {g : Nat} (h : w.grownBy w' none) : w.grownBy w' (some g) := ⟨h.os, h.tape, h.output, h.size, fun i hi _ => h.block i hi (by simp)⟩
set_option maxHeartbeats 4000000 in
theorem turned_nil (v : Value) (A : Option Addr) (c1 : Nat) (g cap : Nat) (l : List S73) (w : World) (h0 : l.length = 0) (hr : Kd.C k73 w A l.length l) (hc : l.length ≤ c1) (hg : g < w.heap.size) :
    Calls Try.prog 19 #[.slice (some ⟨g, 0, none⟩) l.length cap, .slice A l.length c1] w fun e w' => ∃ A' c', e = .returned (.slice A' (turnedL l).length c') ∧ (turnedL l).length ≤ c' ∧ Kd.C k73 w' A' (turnedL l).length (turnedL l) ∧ w.grownBy w' (some g) ∧ (InRow w g (l.map dP) → InRow w' g ((turnedL l).map dP)) := by
  obtain rfl : l = [] := List.eq_nil_of_length_eq_zero h0
  have HR := Aside0.mk hr
  clear hr
  simp only [List.length_nil]
  go_enter Try.func19, Try.ntmps19
  go_wp2_with (first | (at_builtin; refine Kd.N_append_rows k73 w.heap.size rfl _ _ 41 73 (.agg #[.int .i64 0, .int .u32 0]) 16 rfl Try.underlying41 info73 (by decide) (by decide) (by decide) (.slice none 0 0) [] [] A 0 c1 (fun _ => True) (fun _ => False) rfl rfl (Kd.N_nil _ _ _ _ _) (fun W' _ => ⟨HR.out.1, HR.out.2.1, fun h => absurd h (by simp)⟩) (fun _ h => h.elim) (fun _ _ => trivial) (Below.refl _ w) (Nat.le_refl _) (by simp) ?_; intro v1 w1 hN hB hG hat))
  obtain ⟨A', c', rfl, hc', hC⟩ := Kd.N_reads hN
  go_ret
  exact ⟨A', c', rfl, hc', hC, grown_some hG, fun h => h.keep (hG.block g hg (by simp [Value.ownBlock]))⟩
theorem InRow.cellY {w : World} {g : Nat} {l : List S73} (h : InRow w g (l.map dP)) (i : Nat) (hi : i < l.length) : ∃ u, w.cell? ⟨g, i * 2 + 1, none⟩ = some u := by
  obtain ⟨_, h1⟩ := two_at (fun d : S58 => .int .i64 d.f0) (fun d => .float .f32 d.f1) (l.map dP) i
  rw [List.getElem?_map, List.getElem?_eq_getElem hi] at h1
  exact ⟨_, h.cell _ _ h1⟩
structure Fits4 (w1 : World) (g g1 m : Nat) (l : List S73) : Prop where
  a0 : ∃ u, w1.cell? ⟨g, 1, none⟩ = some u
  a1 : w1.frozen? ⟨g, 1, none⟩ = false
  b0 : ∃ u, (w1.setCell ⟨g, 1, none⟩ (.float .f32 1077936128)).cell? ⟨g, m * 2 + 1, none⟩ = some u
  b1 : w1.frozen? ⟨g, m * 2 + 1, none⟩ = false
  c0 : ∃ u, ((w1.setCell ⟨g, 1, none⟩ (.float .f32 1077936128)).setCell ⟨g, m * 2 + 1, none⟩ (.float .f32 3221225472)).cell? ⟨g1, 1, none⟩ = some u
  c1 : w1.frozen? ⟨g1, 1, none⟩ = false
  d0 : ∃ u, (((w1.setCell ⟨g, 1, none⟩ (.float .f32 1077936128)).setCell ⟨g, m * 2 + 1, none⟩ (.float .f32 3221225472)).setCell ⟨g1, 1, none⟩ (.int .u32 1077936128)).cell? ⟨g1, m * 2 + 1, none⟩ = some u
  d1 : w1.frozen? ⟨g1, m * 2 + 1, none⟩ = false
theorem fits4 {w1 : World} {g g1 m cp1 base : Nat} {l : List S73} (hm : l.length = m + 1) (hin : InRow w1 g (l.map dP)) (hne : g ≠ g1) (hown : w1.ownsRow base 73 2 (.slice (some ⟨g1, 0, none⟩) (m + 1) cp1) (m + 1) (dotv l)) : Fits4 w1 g g1 m l := by
  have hd : (dotv l).length = (m + 1) * 2 := by unfold dotv; rw [two_len, hm]
  have far : ∀ {W : World} {j : Nat} {p : Addr} {u : Value}, p.block = g → (W.setCell p u).cell? ⟨g1, j, none⟩ = W.cell? ⟨g1, j, none⟩ := fun {W j p u} hp => World.cell?_setCell_other W _ _ _ (fun e => hne (by rw [← hp, e]))
  refine ⟨?_, hin.fr _, ?_, hin.fr _, ?_, hown.frozenAt _, ?_, hown.frozenAt _⟩
  · have := hin.cellY 0 (by omega)
    exact this
  · obtain ⟨u, hu⟩ := hin.cellY m (by omega)
    obtain ⟨v, hv⟩ := cell?_setCell_some (p := ⟨g, 1, none⟩) (x := .float .f32 1077936128) hu
    exact ⟨v, hv⟩
  · rw [far rfl, far rfl, hown.cellAt 1 (by omega), List.getElem?_eq_getElem (by omega)]
    exact ⟨_, rfl⟩
  · obtain ⟨u, hu⟩ : ∃ u, w1.cell? ⟨g1, m * 2 + 1, none⟩ = some u := by
      rw [hown.cellAt _ (by omega), List.getElem?_eq_getElem (by omega)]
      exact ⟨_, rfl⟩
    rw [← far (p := ⟨g, 1, none⟩) (u := .float .f32 1077936128) rfl, ← far (p := ⟨g, m * 2 + 1, none⟩) (u := .float .f32 3221225472) rfl] at hu
    exact cell?_setCell_some hu
theorem turn_end {w w1 : World} {g g1 m cp1 base : Nat} {l : List S73} (hm : l.length = m + 1) (hin : InRow w1 g (l.map dP)) (hg : g < w.heap.size) (hg1 : w.heap.size ≤ g1) (hgrow : w.grownBy w1 none) (hown : w1.ownsRow base 73 2 (.slice (some ⟨g1, 0, none⟩) (m + 1) cp1) (m + 1) (dotv l)) :
    let W5 := (((w1.setCell ⟨g, 1, none⟩ (.float .f32 1077936128)).setCell ⟨g, m * 2 + 1, none⟩ (.float .f32 3221225472)).setCell ⟨g1, 1, none⟩ (.int .u32 1077936128)).setCell ⟨g1, m * 2 + 1, none⟩ (.int .u32 3221225472)
    (m + 1 ≤ cp1) ∧ Kd.C k73 W5 (some ⟨g1, 0, none⟩) (m + 1) (turnedL l) ∧ w.grownBy W5 (some g) ∧ InRow W5 g ((turnedL l).map dP) := by
  intro W5
  have hne : g ≠ g1 := by omega
  have hT : turnedL l = setY (setY l 0 1077936128) m 3221225472 := by
    unfold turnedL
    rw [if_neg (by omega), show l.length - 1 = m by omega]
  have hcp : m + 1 ≤ cp1 ∧ cp1 ≤ maxLen := by
    rcases hown.2 with ⟨e, _⟩ | ⟨g', cap, cur, e, _, _, h1, h2, _⟩
    · cases e
    · injection e with _ _ e3
      subst e3
      exact ⟨h1, h2⟩
  have own1 : (w1.setCell ⟨g, 1, none⟩ (.float .f32 1077936128)).ownsRow base 73 2 (.slice (some ⟨g1, 0, none⟩) (m + 1) cp1) (m + 1) (dotv l) := own_setCell hown (by simp [Value.ownBlock]; omega) _
  have own2 := own_setCell (p := ⟨g, m * 2 + 1, none⟩) own1 (by simp [Value.ownBlock]; omega) (.float .f32 3221225472)
  have own3 := (own2.stored (0 * 2 + 1) (.int .u32 1077936128)).1
  rw [dotv_set l 0 _ (by omega)] at own3
  have own4 := (own3.stored (m * 2 + 1) (.int .u32 3221225472)).1
  rw [dotv_set _ m _ (by rw [setY_len]; omega), ← hT] at own4
  refine ⟨hcp.1, C_dot (by rw [turnedL_len, hm]) (by have := hcp.2; unfold maxLen at this; omega) (fun j u hu => ?_), ?_, ?_⟩
  · have := own4.cells (g := g1) rfl j u hu
    rwa [add_plain] at this
  · refine ⟨hgrow.os, hgrow.tape, hgrow.output, by simpa [W5] using hgrow.size, fun i hi hne0 => ?_⟩
    have hne' : i ≠ g := fun e => hne0 (by rw [e])
    have h0 : i ≠ g1 := by omega
    refine (Below.heap_setCell _ _ _ i h0).trans ((Below.heap_setCell _ _ _ i h0).trans ((Below.heap_setCell _ _ _ i hne').trans ((Below.heap_setCell _ _ _ i hne').trans (hgrow.block i hi (by simp)))))
  · have in1 := hin.set 0 1077936128 (by omega)
    have in2 := in1.set m 3221225472 (by rw [setY_len]; omega)
    have e : setY (setY l 0 ((1077936128 : Nat) : Int)) m ((3221225472 : Nat) : Int) = turnedL l := hT.symm
    rw [e] at in2
    exact in2.keep ((Below.heap_setCell _ _ _ g hne).trans (Below.heap_setCell _ _ _ g hne))
set_option maxHeartbeats 4000000 in
theorem turned_pos (A : Option Addr) (c1 : Nat) (g cap : Nat) (l : List S73) (w : World) (h0 : 0 < l.length) (hr : Kd.C k73 w A l.length l) (hc : l.length ≤ c1) (hcap : l.length + 2 ≤ cap) (hlen : l.length * 16 ≤ 140737488355328) (hg : g < w.heap.size) (hin : InRow w g (l.map dP)) :
    Calls Try.prog 19 #[.slice (some ⟨g, 0, none⟩) l.length cap, .slice A l.length c1] w fun e w' => ∃ A' c', e = .returned (.slice A' (turnedL l).length c') ∧ (turnedL l).length ≤ c' ∧ Kd.C k73 w' A' (turnedL l).length (turnedL l) ∧ w.grownBy w' (some g) ∧ InRow w' g ((turnedL l).map dP) := by
  obtain ⟨ad, rfl, hcell⟩ := dotv_cells hr h0
  obtain ⟨i0, hi0, hz0, hz1, hz2⟩ := info_parts info73
  have HCELL := Aside0.mk hcell
  have HIN := Aside0.mk hin
  clear hr hcell hin
  obtain ⟨m, hm⟩ : ∃ m, l.length = m + 1 := ⟨l.length - 1, by omega⟩
  have HM := Aside0.mk hm
  rw [hm] at h0 hc hcap hlen ⊢
  clear hm
  have b0 : (m : Int) ≤ 8796093022208 := by omega
  have b1 : (m : Int) + 1 ≤ (cap : Int) := by omega
  go_enter Try.func19, Try.ntmps19
  go_wp2_with (first | (at_builtin; (refine wpList_append_own _ rfl _ _ 41 rfl w.heap.size 73 i0 (.agg #[.int .i64 0, .int .u32 0]) 2 16 Try.underlying41 hi0 hz0 hz1 hz2 rfl (by decide) (.slice none 0 0) 0 [] rfl (own_nil _ _ _ _) ad (m + 1) c1 (dotv l) rfl (by unfold dotv; rw [two_len, HM.out]) HCELL.out (by intro u hu; unfold dotv two at hu; simp at hu; obtain ⟨d, _, rfl | rfl⟩ := hu <;> rfl) (by unfold maxLen; omega) (by omega) (Nat.le_refl _) ?_); intro v1 w1 hown hgrow _; obtain ⟨g1, cp1, e1, hg1, hg1'⟩ := hown.form (by omega); subst e1; have HOWN := Aside0.mk hown; have HGROW := Aside0.mk hgrow; have HG1 := Aside0.mk hg1; clear hown hgrow hg1; obtain ⟨⟨u1, a0⟩, a1, ⟨u2, b0⟩, b1, ⟨u3, c0⟩, c1, ⟨u4, d0⟩, d1⟩ := fits4 (w1 := w1) (g := g) (g1 := g1) HM.out (HIN.out.keep (HGROW.out.block g hg (by simp [Value.ownBlock]))) (by have := HG1.out; omega) (by have := HOWN.out; rw [Nat.zero_add, List.nil_append] at this; exact this)))
  go_ret
  have hown := HOWN.out
  rw [Nat.zero_add, List.nil_append] at hown
  obtain ⟨k1, k2, k3, k4⟩ := turn_end HM.out (HIN.out.keep (HGROW.out.block g hg (by simp [Value.ownBlock]))) hg HG1.out HGROW.out hown
  exact ⟨some ⟨g1, 0, none⟩, cp1, by rw [turnedL_len, HM.out]; rfl, by rw [turnedL_len, HM.out]; exact k1, by rw [turnedL_len, HM.out]; exact k2, k3, k4⟩
end Go.Proofs.Ytfhgomcfpmbhnaa.Y
end

section
namespace Go.Proofs.Ytfhgomcfpmbhnaa.PS
open Go.RowKit Go.Proofs.YtfhgomcfpmbhnaaW.PrintWords Go.Proofs.YtfhgomcfpmbhnaaW.PrintLast Go.Proofs.YtfhgomcfpmbhnaaW.PrintMore
attribute [local go_sem] frun_add frun_sub frun_mul frun_quo frun_neg frun_of frun_same frun_store frun_bits frun_from
attribute [local go_sem] max2_int min2_int max_two min_two max_three min_three max_four min_four
set_option linter.unusedVariables false
set_option linter.unusedSimpArgs false
theorem i64_wrap (n : Int) : IntKind.i64.wrap n = wrap64 n := by
 unfold wrap64
 simp [IntKind.wrap, IntKind.bits, IntKind.signed]
 omega
def curve_At.l0 : Nat → List (S58) → Int → List (S58) → Int → Int → Option (Nat × Int)
 | 0, _, _, _, _, _ => none
 | k + 1, x0, x1, x14, x15, x16 => if x16 < x15 then (if 0 ≤ x16 then (if x16 < (x14.length : Int) then (if ((rd_T58 x14 x16).f0) = x1 then (some ((rd_T58 x14 x16).f1, 0)) else (if ((rd_T58 x14 x16).f0) > x1 then (if x16 = 0 then (some ((0 : Nat), 175)) else (if 0 ≤ (wrap64 (x16 - 1)) then (if (wrap64 (x16 - 1)) < (x0.length : Int) then ((curve_whole.f (wrap64 (x1 - ((rd_T58 x0 (wrap64 (x16 - 1))).f0)))).bind fun t285 => ((curve_whole.f (wrap64 (((rd_T58 x14 x16).f0) - ((rd_T58 x0 (wrap64 (x16 - 1))).f0)))).bind fun t286 => (if fk_quo t285 t286 = true then (if fk_sub ((rd_T58 x14 x16).f1) ((rd_T58 x0 (wrap64 (x16 - 1))).f1) = true then (if fk_mul (fl_sub ((rd_T58 x14 x16).f1) ((rd_T58 x0 (wrap64 (x16 - 1))).f1)) (fl_quo t285 t286) = true then (if fk_add ((rd_T58 x0 (wrap64 (x16 - 1))).f1) (fl_mul (fl_sub ((rd_T58 x14 x16).f1) ((rd_T58 x0 (wrap64 (x16 - 1))).f1)) (fl_quo t285 t286)) = true then (some (fl_add ((rd_T58 x0 (wrap64 (x16 - 1))).f1) (fl_mul (fl_sub ((rd_T58 x14 x16).f1) ((rd_T58 x0 (wrap64 (x16 - 1))).f1)) (fl_quo t285 t286)), 0)) else (none)) else (none)) else (none)) else (none)))) else (none)) else (none))) else (curve_At.l0 k x0 x1 x14 x15 (wrap64 (x16 + 1))))) else (none)) else (none)) else (some ((0 : Nat), 175))
def curve_At.f (k : Nat) (l0 : List (S58)) (a1 : Int) : Option (Nat × Int) := (curve_ordered.f k l0).bind fun t280 => (if t280 = true then (curve_At.l0 k l0 a1 l0 (l0.length : Int) 0) else (some ((0 : Nat), 172)))
theorem curve_At.mono_l : ∀ k, (∀ y0 y1 y2 y3 y4, LeO (curve_At.l0 k y0 y1 y2 y3 y4) (curve_At.l0 (k + 1) y0 y1 y2 y3 y4))
 | 0 => fun _ _ _ _ _ r h => by simp [curve_At.l0] at h
 | k + 1 => by
  have ih0 := curve_At.mono_l k
  ·intro y0 y1 y2 y3 y4
   unfold curve_At.l0
   repeat' first
   | (with_reducible exact ih0 _ _ _ _ _)
   | (with_reducible exact curve_ordered.mono _ _)
   | (with_reducible exact LeO.refl _)
   | (with_reducible exact LeO.none _)
   | (with_reducible refine LeO.ite ?_ ?_)
   | (with_reducible refine LeO.bind ?_ (fun _ => ?_))
   | exact ih0 _ _ _ _ _
   | exact curve_ordered.mono _ _
   | exact LeO.none _
   | refine LeO.ite ?_ ?_
   | refine LeO.bind ?_ (fun _ => ?_)
theorem curve_At.mono : ∀ a0 a1 k, LeO (curve_At.f k a0 a1) (curve_At.f (k + 1) a0 a1) := by
 intro a0 a1 k
 have ih0 := curve_At.mono_l k
 unfold curve_At.f
 repeat' first
   | (with_reducible exact ih0 _ _ _ _ _)
   | (with_reducible exact curve_ordered.mono _ _)
   | (with_reducible exact LeO.refl _)
   | (with_reducible exact LeO.none _)
   | (with_reducible refine LeO.ite ?_ ?_)
   | (with_reducible refine LeO.bind ?_ (fun _ => ?_))
   | exact ih0 _ _ _ _ _
   | exact curve_ordered.mono _ _
   | exact LeO.none _
   | refine LeO.ite ?_ ?_
   | refine LeO.bind ?_ (fun _ => ?_)
set_option maxHeartbeats 8000000 in
set_option maxRecDepth 100000 in
theorem curve_At.calls (k : Nat) (A0 : Option Addr) (c0 : Nat) (l0 : List (S58)) (a1 : Int) (r1 : Nat) (r2 : Int) (w : World) (hr0 : Kd.C k58 w A0 l0.length l0) (hc0 : l0.length ≤ c0) (h : curve_At.f k l0 a1 = some (r1, r2)) :
  Calls Try.prog 31 #[.slice A0 l0.length c0, .int .i64 a1] w fun e w' => e = .returned (.tuple #[.float .f32 r1, .int .i64 r2]) ∧ Below w.heap.size w w' := by
 have hu58 := Try.underlying58
 have HR0 := Aside0.mk hr0
 have HC0 := Aside0.mk hc0
 clear hr0 hc0
 have HB := Aside0.mk (Below.refl w.heap.size w)
 have H : ((curve_ordered.f k l0).bind fun t280 => (if t280 = true then (curve_At.l0 k l0 a1 l0 (l0.length : Int) 0) else (some ((0 : Nat), 172)))) = some (r1, r2) := h
 clear h
 replace H := Option.bind_eq_some_iff.mp H
 obtain ⟨t280, A30, H⟩ := H
 replace H : (if t280 = true then (curve_At.l0 k l0 a1 l0 (l0.length : Int) 0) else (some ((0 : Nat), 172))) = some (r1, r2) := H
 have A3 := Aside0.mk A30
 clear A30
 by_cases c4 : t280 = true
 ·subst c4
  have H1 : (curve_At.l0 k l0 a1 l0 (l0.length : Int) 0) = some (r1, r2) := by rw [if_pos rfl] at H; exact H
  clear H
  have H := H1
  clear H1
  have H' := Aside0.mk H
  clear H
  go_enter Try.func31, Try.ntmps31
  go_wp2_with (first | (go_at_call 48; (with_reducible refine (curve_ordered.calls k _ _ l0 true _ ?side1 ?side2 A3.out).mono ?_); (case side1 => repeat (first | exact HR0.out | (with_reducible refine Kd.C_alloc ?_ _) | (with_reducible refine Kd.C_drewN ?_ _) | (with_reducible refine Kd.C_drew ?_))); (case side2 => exact HC0.out); rintro e w5 ⟨rfl, hb⟩; have n0_ := Aside0.mk (below_step blx hb); clear HB; have HB := n0_; clear n0_; (try clear hb); (try clear hb2); (try clear hk); (try clear hi)))
  repeat (go_quiet (first | (go_at_call 48; (with_reducible refine (curve_ordered.calls k _ _ l0 true _ ?side1 ?side2 A3.out).mono ?_); (case side1 => repeat (first | exact HR0.out | (with_reducible refine Kd.C_alloc ?_ _) | (with_reducible refine Kd.C_drewN ?_ _) | (with_reducible refine Kd.C_drew ?_))); (case side2 => exact HC0.out); rintro e w5 ⟨rfl, hb⟩; have n0_ := Aside0.mk (below_step blx hb); clear HB; have HB := n0_; clear n0_; (try clear hb); (try clear hb2); (try clear hk); (try clear hi))); try go_wp2_with (first | (go_at_call 48; (with_reducible refine (curve_ordered.calls k _ _ l0 true _ ?side1 ?side2 A3.out).mono ?_); (case side1 => repeat (first | exact HR0.out | (with_reducible refine Kd.C_alloc ?_ _) | (with_reducible refine Kd.C_drewN ?_ _) | (with_reducible refine Kd.C_drew ?_))); (case side2 => exact HC0.out); rintro e w5 ⟨rfl, hb⟩; have n0_ := Aside0.mk (below_step blx hb); clear HB; have HB := n0_; clear n0_; (try clear hb); (try clear hb2); (try clear hk); (try clear hi))))
  go_loopg [16] k (fun kq v16 w' => ∃ (x16_1 : Int), v16 = .int .i64 x16_1 ∧ Aside0 (curve_At.l0 kq l0 a1 l0 (l0.length : Int) x16_1 = some (r1, r2)) ∧ Aside0 (kq ≤ k) ∧ Aside0 (Below w.heap.size w w'))
  case atStart => exact ⟨(0), (by first | rfl | (simp; done) | (simp [*]; done)), H', ⟨Nat.le_refl _⟩, ⟨blx⟩⟩
  case round =>
   clear H'
   try clear p2
   try clear c3
   try clear c4
   obtain ⟨x16_1, rfl, HA, HK1, HB⟩ := hrel
   cases gk with
   | zero => exact absurd HA.out (by simp [curve_At.l0])
   | succ k1 =>
    have H := HA.out
    clear HA
    simp only [curve_At.l0] at H
    by_cases c6 : x16_1 < (l0.length : Int)
    ·rw [if_pos c6] at H
     have c6b0 : decide (x16_1 < (l0.length : Int)) = true := decide_eq_true c6
     clear c6
     by_cases c7 : 0 ≤ x16_1
     ·rw [if_pos c7] at H
      have c7b0 : decide (0 ≤ x16_1) = true := decide_eq_true c7
      clear c7
      by_cases c8 : x16_1 < (l0.length : Int)
      ·rw [if_pos c8] at H
       have c8b0 : decide (x16_1 < (l0.length : Int)) = true := decide_eq_true c8
       clear c8
       by_cases c9 : ((rd_T58 l0 x16_1).f0) = a1
       ·rw [if_pos c9] at H
        have c9b0 : (((rd_T58 l0 x16_1).f0) == a1) = true := beq_iff_eq.mpr c9
        have c9b1 : (((rd_T58 l0 x16_1).f0) != a1) = false := bne_eq_false_iff_eq.mpr c9
        clear c9
        simp only [Option.some.injEq, Prod.mk.injEq] at H
        obtain ⟨rfl, rfl⟩ := H
        have p281 : 0 ≤ (x16_1 : Int) := odx
        have q281 : x16_1 < (l0.length : Int) := odx
        obtain ⟨ad281, e281, hx281_0, hx281_1⟩ := at_T58 HR0.out x16_1 p281 q281
        cases e281
        replace hx281_0 := (HB.out.cell (World.block_lt_of_cell? w _ hx281_0)).trans hx281_0
        replace hx281_1 := (HB.out.cell (World.block_lt_of_cell? w _ hx281_1)).trans hx281_1
        replace p281 := eq_true p281
        replace q281 := eq_true q281
        go_wp2_with (first | ((with_reducible refine gate_dst (N := 7) rfl ?_); refine box_event ?hg (N := 7) ?hd (cs := #[.int .i64 0, .float .f32 (0 : Nat)]) (t := 58) ?hr ?_; (case hd => rfl); (case hg => rfl); (case hr => first | (go_simp; done) | (go_simp; rfl)); intro gb282 hg w10 hbox hb; have n0_ := Aside0.mk (below_step blx hb); have n1_ := Aside0.mk (hbox); have n2_ := Aside0.mk ((by rw [hg]; exact (below_size blx) : w.heap.size ≤ gb282)); have n3_ := Aside0.mk ((by rw [hg]; exact (below_size blx) : w.heap.size ≤ gb282)); clear HB; have HB := n0_; have BK282 := n1_; have GW282 := n2_; have GE282 := n3_; clear n0_ n1_ n2_ n3_; clear hb hbox hg; have hcz11_0 : w10.cell? ⟨gb282, 0, none⟩ = some (.int .i64 0) := (blk_cell BK282.out 0).trans rfl; have hcz11_1 : w10.cell? ⟨gb282, 1, none⟩ = some (.float .f32 (0 : Nat)) := (blk_cell BK282.out 1).trans rfl; have hfz11_0 := blk_frozen BK282.out 0; have hfz11_1 := blk_frozen BK282.out 1))
        repeat (go_quiet (first | ((with_reducible refine gate_dst (N := 7) rfl ?_); refine box_event ?hg (N := 7) ?hd (cs := #[.int .i64 0, .float .f32 (0 : Nat)]) (t := 58) ?hr ?_; (case hd => rfl); (case hg => rfl); (case hr => first | (go_simp; done) | (go_simp; rfl)); intro gb282 hg w10 hbox hb; have n0_ := Aside0.mk (below_step blx hb); have n1_ := Aside0.mk (hbox); have n2_ := Aside0.mk ((by rw [hg]; exact (below_size blx) : w.heap.size ≤ gb282)); have n3_ := Aside0.mk ((by rw [hg]; exact (below_size blx) : w.heap.size ≤ gb282)); clear HB; have HB := n0_; have BK282 := n1_; have GW282 := n2_; have GE282 := n3_; clear n0_ n1_ n2_ n3_; clear hb hbox hg; have hcz11_0 : w10.cell? ⟨gb282, 0, none⟩ = some (.int .i64 0) := (blk_cell BK282.out 0).trans rfl; have hcz11_1 : w10.cell? ⟨gb282, 1, none⟩ = some (.float .f32 (0 : Nat)) := (blk_cell BK282.out 1).trans rfl; have hfz11_0 := blk_frozen BK282.out 0; have hfz11_1 := blk_frozen BK282.out 1)); try go_wp2_with (first | ((with_reducible refine gate_dst (N := 7) rfl ?_); refine box_event ?hg (N := 7) ?hd (cs := #[.int .i64 0, .float .f32 (0 : Nat)]) (t := 58) ?hr ?_; (case hd => rfl); (case hg => rfl); (case hr => first | (go_simp; done) | (go_simp; rfl)); intro gb282 hg w10 hbox hb; have n0_ := Aside0.mk (below_step blx hb); have n1_ := Aside0.mk (hbox); have n2_ := Aside0.mk ((by rw [hg]; exact (below_size blx) : w.heap.size ≤ gb282)); have n3_ := Aside0.mk ((by rw [hg]; exact (below_size blx) : w.heap.size ≤ gb282)); clear HB; have HB := n0_; have BK282 := n1_; have GW282 := n2_; have GE282 := n3_; clear n0_ n1_ n2_ n3_; clear hb hbox hg; have hcz11_0 : w10.cell? ⟨gb282, 0, none⟩ = some (.int .i64 0) := (blk_cell BK282.out 0).trans rfl; have hcz11_1 : w10.cell? ⟨gb282, 1, none⟩ = some (.float .f32 (0 : Nat)) := (blk_cell BK282.out 1).trans rfl; have hfz11_0 := blk_frozen BK282.out 0; have hfz11_1 := blk_frozen BK282.out 1)))
        go_ret2
        exact ⟨by first | rfl | (simp [errW_none, errW_some] <;> rfl) | (simp [*, errW_none, errW_some] <;> rfl), blx⟩
       ·rw [if_neg c9] at H
        have c9b0 : (((rd_T58 l0 x16_1).f0) == a1) = false := beq_eq_false_iff_ne.mpr c9
        have c9b1 : (((rd_T58 l0 x16_1).f0) != a1) = true := bne_iff_ne.mpr c9
        by_cases c12 : ((rd_T58 l0 x16_1).f0) > a1
        ·rw [if_pos c12] at H
         have c12b0 : decide (a1 < ((rd_T58 l0 x16_1).f0)) = true := decide_eq_true c12
         clear c12
         by_cases c13 : x16_1 = 0
         ·rw [if_pos c13] at H
          have c13b0 : (x16_1 == 0) = true := beq_iff_eq.mpr c13
          have c13b1 : (x16_1 != 0) = false := bne_eq_false_iff_eq.mpr c13
          clear c13
          simp only [Option.some.injEq, Prod.mk.injEq] at H
          obtain ⟨rfl, rfl⟩ := H
          have p281 : 0 ≤ (x16_1 : Int) := odx
          have q281 : x16_1 < (l0.length : Int) := odx
          obtain ⟨ad281, e281, hx281_0, hx281_1⟩ := at_T58 HR0.out x16_1 p281 q281
          cases e281
          replace hx281_0 := (HB.out.cell (World.block_lt_of_cell? w _ hx281_0)).trans hx281_0
          replace hx281_1 := (HB.out.cell (World.block_lt_of_cell? w _ hx281_1)).trans hx281_1
          replace p281 := eq_true p281
          replace q281 := eq_true q281
          go_wp2_with (first | ((with_reducible refine gate_dst (N := 7) rfl ?_); refine box_event ?hg (N := 7) ?hd (cs := #[.int .i64 0, .float .f32 (0 : Nat)]) (t := 58) ?hr ?_; (case hd => rfl); (case hg => rfl); (case hr => first | (go_simp; done) | (go_simp; rfl)); intro gb282 hg w14 hbox hb; have n0_ := Aside0.mk (below_step blx hb); have n1_ := Aside0.mk (hbox); have n2_ := Aside0.mk ((by rw [hg]; exact (below_size blx) : w.heap.size ≤ gb282)); have n3_ := Aside0.mk ((by rw [hg]; exact (below_size blx) : w.heap.size ≤ gb282)); clear HB; have HB := n0_; have BK282 := n1_; have GW282 := n2_; have GE282 := n3_; clear n0_ n1_ n2_ n3_; clear hb hbox hg; have hcz15_0 : w14.cell? ⟨gb282, 0, none⟩ = some (.int .i64 0) := (blk_cell BK282.out 0).trans rfl; have hcz15_1 : w14.cell? ⟨gb282, 1, none⟩ = some (.float .f32 (0 : Nat)) := (blk_cell BK282.out 1).trans rfl; have hfz15_0 := blk_frozen BK282.out 0; have hfz15_1 := blk_frozen BK282.out 1))
          repeat (go_quiet (first | ((with_reducible refine gate_dst (N := 7) rfl ?_); refine box_event ?hg (N := 7) ?hd (cs := #[.int .i64 0, .float .f32 (0 : Nat)]) (t := 58) ?hr ?_; (case hd => rfl); (case hg => rfl); (case hr => first | (go_simp; done) | (go_simp; rfl)); intro gb282 hg w14 hbox hb; have n0_ := Aside0.mk (below_step blx hb); have n1_ := Aside0.mk (hbox); have n2_ := Aside0.mk ((by rw [hg]; exact (below_size blx) : w.heap.size ≤ gb282)); have n3_ := Aside0.mk ((by rw [hg]; exact (below_size blx) : w.heap.size ≤ gb282)); clear HB; have HB := n0_; have BK282 := n1_; have GW282 := n2_; have GE282 := n3_; clear n0_ n1_ n2_ n3_; clear hb hbox hg; have hcz15_0 : w14.cell? ⟨gb282, 0, none⟩ = some (.int .i64 0) := (blk_cell BK282.out 0).trans rfl; have hcz15_1 : w14.cell? ⟨gb282, 1, none⟩ = some (.float .f32 (0 : Nat)) := (blk_cell BK282.out 1).trans rfl; have hfz15_0 := blk_frozen BK282.out 0; have hfz15_1 := blk_frozen BK282.out 1)); try go_wp2_with (first | ((with_reducible refine gate_dst (N := 7) rfl ?_); refine box_event ?hg (N := 7) ?hd (cs := #[.int .i64 0, .float .f32 (0 : Nat)]) (t := 58) ?hr ?_; (case hd => rfl); (case hg => rfl); (case hr => first | (go_simp; done) | (go_simp; rfl)); intro gb282 hg w14 hbox hb; have n0_ := Aside0.mk (below_step blx hb); have n1_ := Aside0.mk (hbox); have n2_ := Aside0.mk ((by rw [hg]; exact (below_size blx) : w.heap.size ≤ gb282)); have n3_ := Aside0.mk ((by rw [hg]; exact (below_size blx) : w.heap.size ≤ gb282)); clear HB; have HB := n0_; have BK282 := n1_; have GW282 := n2_; have GE282 := n3_; clear n0_ n1_ n2_ n3_; clear hb hbox hg; have hcz15_0 : w14.cell? ⟨gb282, 0, none⟩ = some (.int .i64 0) := (blk_cell BK282.out 0).trans rfl; have hcz15_1 : w14.cell? ⟨gb282, 1, none⟩ = some (.float .f32 (0 : Nat)) := (blk_cell BK282.out 1).trans rfl; have hfz15_0 := blk_frozen BK282.out 0; have hfz15_1 := blk_frozen BK282.out 1)))
          go_ret2
          exact ⟨by first | rfl | (simp [errW_none, errW_some] <;> rfl) | (simp [*, errW_none, errW_some] <;> rfl), blx⟩
         ·rw [if_neg c13] at H
          have c13b0 : (x16_1 == 0) = false := beq_eq_false_iff_ne.mpr c13
          have c13b1 : (x16_1 != 0) = true := bne_iff_ne.mpr c13
          obtain ⟨ji16, hji16⟩ : ∃ j_ : Int, (wrap64 (x16_1 - 1)) = j_ := ⟨_, rfl⟩
          replace H : (if 0 ≤ (ji16) then (if (ji16) < (l0.length : Int) then ((curve_whole.f (wrap64 (a1 - ((rd_T58 l0 (ji16)).f0)))).bind fun t285 => ((curve_whole.f (wrap64 (((rd_T58 l0 x16_1).f0) - ((rd_T58 l0 (ji16)).f0)))).bind fun t286 => (if fk_quo t285 t286 = true then (if fk_sub ((rd_T58 l0 x16_1).f1) ((rd_T58 l0 (ji16)).f1) = true then (if fk_mul (fl_sub ((rd_T58 l0 x16_1).f1) ((rd_T58 l0 (ji16)).f1)) (fl_quo t285 t286) = true then (if fk_add ((rd_T58 l0 (ji16)).f1) (fl_mul (fl_sub ((rd_T58 l0 x16_1).f1) ((rd_T58 l0 (ji16)).f1)) (fl_quo t285 t286)) = true then (some (fl_add ((rd_T58 l0 (ji16)).f1) (fl_mul (fl_sub ((rd_T58 l0 x16_1).f1) ((rd_T58 l0 (ji16)).f1)) (fl_quo t285 t286)), 0)) else (none)) else (none)) else (none)) else (none)))) else (none)) else (none)) = some (r1, r2) := by first | (rw [hji16] at H; exact H) | (simp only [hji16] at H ⊢; exact H)
          have hji16w : (IntKind.i64.wrap (x16_1 - 1)) = ji16 := (i64_w _).trans hji16
          by_cases c17 : 0 ≤ (ji16)
          ·rw [if_pos c17] at H
           have c17b0 : decide (0 ≤ (ji16)) = true := decide_eq_true c17
           clear c17
           by_cases c18 : (ji16) < (l0.length : Int)
           ·rw [if_pos c18] at H
            have c18b0 : decide ((ji16) < (l0.length : Int)) = true := decide_eq_true c18
            clear c18
            replace H := Option.bind_eq_some_iff.mp H
            obtain ⟨t285, A190, H⟩ := H
            replace H : ((curve_whole.f (wrap64 (((rd_T58 l0 x16_1).f0) - ((rd_T58 l0 (ji16)).f0)))).bind fun t286 => (if fk_quo t285 t286 = true then (if fk_sub ((rd_T58 l0 x16_1).f1) ((rd_T58 l0 (ji16)).f1) = true then (if fk_mul (fl_sub ((rd_T58 l0 x16_1).f1) ((rd_T58 l0 (ji16)).f1)) (fl_quo t285 t286) = true then (if fk_add ((rd_T58 l0 (ji16)).f1) (fl_mul (fl_sub ((rd_T58 l0 x16_1).f1) ((rd_T58 l0 (ji16)).f1)) (fl_quo t285 t286)) = true then (some (fl_add ((rd_T58 l0 (ji16)).f1) (fl_mul (fl_sub ((rd_T58 l0 x16_1).f1) ((rd_T58 l0 (ji16)).f1)) (fl_quo t285 t286)), 0)) else (none)) else (none)) else (none)) else (none))) = some (r1, r2) := H
            have A19 := Aside0.mk A190
            clear A190
            replace H := Option.bind_eq_some_iff.mp H
            obtain ⟨t286, A200, H⟩ := H
            replace H : (if fk_quo t285 t286 = true then (if fk_sub ((rd_T58 l0 x16_1).f1) ((rd_T58 l0 (ji16)).f1) = true then (if fk_mul (fl_sub ((rd_T58 l0 x16_1).f1) ((rd_T58 l0 (ji16)).f1)) (fl_quo t285 t286) = true then (if fk_add ((rd_T58 l0 (ji16)).f1) (fl_mul (fl_sub ((rd_T58 l0 x16_1).f1) ((rd_T58 l0 (ji16)).f1)) (fl_quo t285 t286)) = true then (some (fl_add ((rd_T58 l0 (ji16)).f1) (fl_mul (fl_sub ((rd_T58 l0 x16_1).f1) ((rd_T58 l0 (ji16)).f1)) (fl_quo t285 t286)), 0)) else (none)) else (none)) else (none)) else (none)) = some (r1, r2) := H
            have A20 := Aside0.mk A200
            clear A200
            by_cases c21 : fk_quo t285 t286 = true
            ·rw [if_pos c21] at H
             have c21b0 := eq_true c21
             have c21b1 : decide (fk_quo t285 t286 = true) = true := decide_eq_true c21
             clear c21
             by_cases c22 : fk_sub ((rd_T58 l0 x16_1).f1) ((rd_T58 l0 (ji16)).f1) = true
             ·rw [if_pos c22] at H
              have c22b0 := eq_true c22
              have c22b1 : decide (fk_sub ((rd_T58 l0 x16_1).f1) ((rd_T58 l0 (ji16)).f1) = true) = true := decide_eq_true c22
              clear c22
              by_cases c23 : fk_mul (fl_sub ((rd_T58 l0 x16_1).f1) ((rd_T58 l0 (ji16)).f1)) (fl_quo t285 t286) = true
              ·rw [if_pos c23] at H
               have c23b0 := eq_true c23
               have c23b1 : decide (fk_mul (fl_sub ((rd_T58 l0 x16_1).f1) ((rd_T58 l0 (ji16)).f1)) (fl_quo t285 t286) = true) = true := decide_eq_true c23
               clear c23
               by_cases c24 : fk_add ((rd_T58 l0 (ji16)).f1) (fl_mul (fl_sub ((rd_T58 l0 x16_1).f1) ((rd_T58 l0 (ji16)).f1)) (fl_quo t285 t286)) = true
               ·rw [if_pos c24] at H
                have c24b0 := eq_true c24
                have c24b1 : decide (fk_add ((rd_T58 l0 (ji16)).f1) (fl_mul (fl_sub ((rd_T58 l0 x16_1).f1) ((rd_T58 l0 (ji16)).f1)) (fl_quo t285 t286)) = true) = true := decide_eq_true c24
                clear c24
                simp only [Option.some.injEq, Prod.mk.injEq] at H
                obtain ⟨rfl, rfl⟩ := H
                have p281 : 0 ≤ (x16_1 : Int) := odx
                have q281 : x16_1 < (l0.length : Int) := odx
                obtain ⟨ad281, e281, hx281_0, hx281_1⟩ := at_T58 HR0.out x16_1 p281 q281
                cases e281
                replace hx281_0 := (HB.out.cell (World.block_lt_of_cell? w _ hx281_0)).trans hx281_0
                replace hx281_1 := (HB.out.cell (World.block_lt_of_cell? w _ hx281_1)).trans hx281_1
                replace p281 := eq_true p281
                replace q281 := eq_true q281
                go_wp2_with (first | ((with_reducible refine gate_dst (N := 7) rfl ?_); refine box_event ?hg (N := 7) ?hd (cs := #[.int .i64 0, .float .f32 (0 : Nat)]) (t := 58) ?hr ?_; (case hd => rfl); (case hg => rfl); (case hr => first | (go_simp; done) | (go_simp; rfl)); intro gb282 hg w25 hbox hb; have n0_ := Aside0.mk (below_step blx hb); have n1_ := Aside0.mk (hbox); have n2_ := Aside0.mk ((by rw [hg]; exact (below_size blx) : w.heap.size ≤ gb282)); have n3_ := Aside0.mk ((by rw [hg]; exact (below_size blx) : w.heap.size ≤ gb282)); clear HB; have HB := n0_; have BK282 := n1_; have GW282 := n2_; have GE282 := n3_; clear n0_ n1_ n2_ n3_; clear hb hbox hg; have hcz26_0 : w25.cell? ⟨gb282, 0, none⟩ = some (.int .i64 0) := (blk_cell BK282.out 0).trans rfl; have hcz26_1 : w25.cell? ⟨gb282, 1, none⟩ = some (.float .f32 (0 : Nat)) := (blk_cell BK282.out 1).trans rfl; have hfz26_0 := blk_frozen BK282.out 0; have hfz26_1 := blk_frozen BK282.out 1; have p283 : 0 ≤ ((ji16) : Int) := odx; have q283 : (ji16) < (l0.length : Int) := odx; obtain ⟨ad283, e283, hx283_0, hx283_1⟩ := at_T58 HR0.out (ji16) p283 q283; obtain rfl : ad281 = ad283 := (by injection e283); have hn283_0 : ad281.block ≠ gb282 := Nat.ne_of_lt (Nat.lt_of_lt_of_le (by have := World.block_lt_of_cell? _ _ hx283_0; first | rwa [add_block] at this | exact this) GW282.out); have hn283_1 : ad281.block ≠ gb282 := Nat.ne_of_lt (Nat.lt_of_lt_of_le (by have := World.block_lt_of_cell? _ _ hx283_0; first | rwa [add_block] at this | exact this) GW282.out); replace hx283_0 := (HB.out.cell (World.block_lt_of_cell? w _ hx283_0)).trans hx283_0; replace hx283_1 := (HB.out.cell (World.block_lt_of_cell? w _ hx283_1)).trans hx283_1; replace hx283_0 := (cell_far (p := ⟨gb282, 0, none⟩) (by first | (rw [add_block]; exact hn283_0) | (show (Addr.add _ _).block ≠ _; rw [add_block]; exact hn283_0) | exact hn283_0) (.int .i64 ((rd_T58 l0 x16_1).f0))).trans hx283_0; replace hx283_1 := (cell_far (p := ⟨gb282, 0, none⟩) (by first | (rw [add_block]; exact hn283_0) | (show (Addr.add _ _).block ≠ _; rw [add_block]; exact hn283_0) | exact hn283_0) (.int .i64 ((rd_T58 l0 x16_1).f0))).trans hx283_1; replace hx283_0 := (cell_far (p := ⟨gb282, 1, none⟩) (by first | (rw [add_block]; exact hn283_1) | (show (Addr.add _ _).block ≠ _; rw [add_block]; exact hn283_1) | exact hn283_1) (.float .f32 ((rd_T58 l0 x16_1).f1))).trans hx283_0; replace hx283_1 := (cell_far (p := ⟨gb282, 1, none⟩) (by first | (rw [add_block]; exact hn283_1) | (show (Addr.add _ _).block ≠ _; rw [add_block]; exact hn283_1) | exact hn283_1) (.float .f32 ((rd_T58 l0 x16_1).f1))).trans hx283_1; (try have hy283_0 := fun (n_ : Nat) => (show ((((w25.drewN n_).setCell ⟨gb282, 0, none⟩ (.int .i64 ((rd_T58 l0 x16_1).f0))).setCell ⟨gb282, 1, none⟩ (.float .f32 ((rd_T58 l0 x16_1).f1)))).cell? _ = some _ from hx283_0)); (try have hy283_1 := fun (n_ : Nat) => (show ((((w25.drewN n_).setCell ⟨gb282, 0, none⟩ (.int .i64 ((rd_T58 l0 x16_1).f0))).setCell ⟨gb282, 1, none⟩ (.float .f32 ((rd_T58 l0 x16_1).f1)))).cell? _ = some _ from hx283_1)); clear hn283_0; clear hn283_1; replace p283 := eq_true p283; replace q283 := eq_true q283) | ((with_reducible refine gate_dst (N := 8) rfl ?_); refine box_event ?hg (N := 8) ?hd (cs := #[.int .i64 0, .float .f32 (0 : Nat)]) (t := 58) ?hr ?_; (case hd => rfl); (case hg => rfl); (case hr => first | (go_simp; done) | (go_simp; rfl)); intro gb284 hg w27 hbox hb; have n0_ := Aside0.mk (blk_below (g := gb282) (o := .cells #[.int .i64 ((rd_T58 l0 x16_1).f0), .float .f32 ((rd_T58 l0 x16_1).f1)] 58 (0, 0)) (by (with_reducible repeat (first | refine blk_drewN ?_ _ | refine blk_drew ?_ | refine blk_alloc ?_ _)); refine blk_put (cs := #[.int .i64 ((rd_T58 l0 x16_1).f0), .float .f32 (0 : Nat)]) ?_ 1 _ rfl; (with_reducible repeat (first | refine blk_drewN ?_ _ | refine blk_drew ?_ | refine blk_alloc ?_ _)); refine blk_put (cs := #[.int .i64 0, .float .f32 (0 : Nat)]) ?_ 0 _ rfl; (with_reducible repeat (first | refine blk_drewN ?_ _ | refine blk_drew ?_ | refine blk_alloc ?_ _)); exact BK282.out) hb); have n1_ := Aside0.mk (below_step blx hb); have n2_ := Aside0.mk (hbox); have n3_ := Aside0.mk ((by rw [hg]; exact (below_size blx) : w.heap.size ≤ gb284)); have n4_ := Aside0.mk ((by rw [hg]; exact (below_size blx) : w.heap.size ≤ gb284)); have n5_ := Aside0.mk ((by rw [hg]; exact Nat.ne_of_lt (blk_lt (g := gb282) (o := .cells #[.int .i64 ((rd_T58 l0 x16_1).f0), .float .f32 ((rd_T58 l0 x16_1).f1)] 58 (0, 0)) (by (with_reducible repeat (first | refine blk_drewN ?_ _ | refine blk_drew ?_ | refine blk_alloc ?_ _)); refine blk_put (cs := #[.int .i64 ((rd_T58 l0 x16_1).f0), .float .f32 (0 : Nat)]) ?_ 1 _ rfl; (with_reducible repeat (first | refine blk_drewN ?_ _ | refine blk_drew ?_ | refine blk_alloc ?_ _)); refine blk_put (cs := #[.int .i64 0, .float .f32 (0 : Nat)]) ?_ 0 _ rfl; (with_reducible repeat (first | refine blk_drewN ?_ _ | refine blk_drew ?_ | refine blk_alloc ?_ _)); exact BK282.out)) : gb282 ≠ gb284)); have n6_ := Aside0.mk ((by rw [hg]; exact Nat.ne_of_gt (blk_lt (g := gb282) (o := .cells #[.int .i64 ((rd_T58 l0 x16_1).f0), .float .f32 ((rd_T58 l0 x16_1).f1)] 58 (0, 0)) (by (with_reducible repeat (first | refine blk_drewN ?_ _ | refine blk_drew ?_ | refine blk_alloc ?_ _)); refine blk_put (cs := #[.int .i64 ((rd_T58 l0 x16_1).f0), .float .f32 (0 : Nat)]) ?_ 1 _ rfl; (with_reducible repeat (first | refine blk_drewN ?_ _ | refine blk_drew ?_ | refine blk_alloc ?_ _)); refine blk_put (cs := #[.int .i64 0, .float .f32 (0 : Nat)]) ?_ 0 _ rfl; (with_reducible repeat (first | refine blk_drewN ?_ _ | refine blk_drew ?_ | refine blk_alloc ?_ _)); exact BK282.out)) : gb284 ≠ gb282)); clear BK282; clear HB; have BK282 := n0_; have HB := n1_; have BK284 := n2_; have GW284 := n3_; have GE284 := n4_; have NB282_284 := n5_; have NB284_282 := n6_; clear n0_ n1_ n2_ n3_ n4_ n5_ n6_; clear hb hbox hg; have hnb28 := NB284_282.out; have hnc28 := NB282_284.out; have hcz29_0 : w27.cell? ⟨gb284, 0, none⟩ = some (.int .i64 0) := (blk_cell BK284.out 0).trans rfl; have hcz29_1 : w27.cell? ⟨gb284, 1, none⟩ = some (.float .f32 (0 : Nat)) := (blk_cell BK284.out 1).trans rfl; have hfz29_0 := blk_frozen BK284.out 0; have hfz29_1 := blk_frozen BK284.out 1) | (go_at_call 33; (with_reducible refine (curve_whole.calls (wrap64 (a1 - ((rd_T58 l0 (ji16)).f0))) t285 _ A19.out).mono ?_); rintro e w' ⟨rfl, ⟨nd, rfl⟩⟩; (try first | exact ⟨rfl, _, World.drewN_drewN _ _ _⟩ | exact ⟨rfl, _, Eq.trans (World.drewN_drewN _ _ _) (congrArg (World.drewN _) (Nat.add_assoc _ _ _))⟩); have hcz30_0 : w27.cell? ⟨gb282, 0, none⟩ = some (.int .i64 ((rd_T58 l0 x16_1).f0)) := (blk_cell BK282.out 0).trans rfl; have hcz30_1 : w27.cell? ⟨gb282, 1, none⟩ = some (.float .f32 ((rd_T58 l0 x16_1).f1)) := (blk_cell BK282.out 1).trans rfl; have hfz30_0 := blk_frozen BK282.out 0; have hfz30_1 := blk_frozen BK282.out 1) | (go_at_call 33; (with_reducible refine (curve_whole.calls (wrap64 (((rd_T58 l0 x16_1).f0) - ((rd_T58 l0 (ji16)).f0))) t286 _ A20.out).mono ?_); rintro e w' ⟨rfl, ⟨nd, rfl⟩⟩; (try first | exact ⟨rfl, _, World.drewN_drewN _ _ _⟩ | exact ⟨rfl, _, Eq.trans (World.drewN_drewN _ _ _) (congrArg (World.drewN _) (Nat.add_assoc _ _ _))⟩)))
                have kq : ((w27.setCell ⟨gb284, 0, none⟩ (.int .i64 (rd_T58 l0 ji16).f0)).setCell ⟨gb284, 1, none⟩ (.float .f32 (rd_T58 l0 ji16).f1)).heap[gb284]? = some (.cells #[.int .i64 (rd_T58 l0 ji16).f0, .float .f32 (rd_T58 l0 ji16).f1] 58 (0, 0)) := blk_put (cs := #[.int .i64 (rd_T58 l0 ji16).f0, .float .f32 (0 : Nat)]) (blk_put (cs := #[.int .i64 0, .float .f32 (0 : Nat)]) BK284.out 0 _ rfl) 1 _ rfl
                have d0 : ((w27.setCell ⟨gb284, 0, none⟩ (.int .i64 (rd_T58 l0 ji16).f0)).setCell ⟨gb284, 1, none⟩ (.float .f32 (rd_T58 l0 ji16).f1)).cell? ⟨gb284, 0, none⟩ = some (.int .i64 (rd_T58 l0 ji16).f0) := (blk_cell kq 0).trans rfl
                have d1 : ((w27.setCell ⟨gb284, 0, none⟩ (.int .i64 (rd_T58 l0 ji16).f0)).setCell ⟨gb284, 1, none⟩ (.float .f32 (rd_T58 l0 ji16).f1)).cell? ⟨gb284, 1, none⟩ = some (.float .f32 (rd_T58 l0 ji16).f1) := (blk_cell kq 1).trans rfl
                have d2 : ((w27.setCell ⟨gb284, 0, none⟩ (.int .i64 (rd_T58 l0 ji16).f0)).setCell ⟨gb284, 1, none⟩ (.float .f32 (rd_T58 l0 ji16).f1)).cell? ⟨gb282, 0, none⟩ = some (.int .i64 (rd_T58 l0 x16_1).f0) := (cell_far (p := ⟨gb284, 1, none⟩) hnc28 _).trans ((cell_far (p := ⟨gb284, 0, none⟩) hnc28 _).trans ((blk_cell BK282.out 0).trans rfl))
                have d3 : ((w27.setCell ⟨gb284, 0, none⟩ (.int .i64 (rd_T58 l0 ji16).f0)).setCell ⟨gb284, 1, none⟩ (.float .f32 (rd_T58 l0 ji16).f1)).cell? ⟨gb282, 1, none⟩ = some (.float .f32 (rd_T58 l0 x16_1).f1) := (cell_far (p := ⟨gb284, 1, none⟩) hnc28 _).trans ((cell_far (p := ⟨gb284, 0, none⟩) hnc28 _).trans ((blk_cell BK282.out 1).trans rfl))
                have hb0 : Below w.heap.size w ((w27.setCell ⟨gb284, 0, none⟩ (.int .i64 (rd_T58 l0 ji16).f0)).setCell ⟨gb284, 1, none⟩ (.float .f32 (rd_T58 l0 ji16).f1)) := blx
                clear hy283_0 hy283_1 hx283_0 hx283_1 hx281_0 hx281_1 hcz26_0 hcz26_1 hfz26_0 hfz26_1 hcz29_0 hcz29_1 hfz29_0 hfz29_1 HB BK282 BK284 kq
                generalize ((w27.setCell ⟨gb284, 0, none⟩ (.int .i64 (rd_T58 l0 ji16).f0)).setCell ⟨gb284, 1, none⟩ (.float .f32 (rd_T58 l0 ji16).f1)) = W0 at *
                have hdr : Drawn0 W0 W0 := Drawn0.refl _
                have cw1 : ∀ W, Calls Try.prog 33 #[.int .i64 (IntKind.i64.wrap (a1 - (rd_T58 l0 ji16).f0))] W fun e w' => e = .returned (.float .f32 t285) ∧ Drawn0 W w' := fun W => by rw [i64_wrap]; exact curve_whole.calls _ t285 W A19.out
                have cw2 : ∀ W, Calls Try.prog 33 #[.int .i64 (IntKind.i64.wrap ((rd_T58 l0 x16_1).f0 - (rd_T58 l0 ji16).f0))] W fun e w' => e = .returned (.float .f32 t286) ∧ Drawn0 W w' := fun W => by rw [i64_wrap]; exact curve_whole.calls _ t286 W A20.out
                go_region_held3 (fun w' => w'.cell? ⟨gb284, 0, none⟩ = some (.int .i64 (rd_T58 l0 ji16).f0) ∧ w'.cell? ⟨gb284, 1, none⟩ = some (.float .f32 (rd_T58 l0 ji16).f1) ∧ w'.cell? ⟨gb282, 0, none⟩ = some (.int .i64 (rd_T58 l0 x16_1).f0) ∧ w'.cell? ⟨gb282, 1, none⟩ = some (.float .f32 (rd_T58 l0 x16_1).f1) ∧ Drawn0 W0 w')
                  (first | ((try go_split_ands); refine ⟨?_, ?_, ?_, ?_, ?_⟩ <;> (first | assumption | exact Drawn0.refl _ | exact (Drawn0.refl _).step 1 | (refine Drawn0.step ?_ _; assumption) | go_keep)))
                  (first | (go_at_call 33; refine (cw1 _).mono ?_; rintro e w' ⟨rfl, ⟨nd, rfl⟩⟩) | (go_at_call 33; refine (cw2 _).mono ?_; rintro e w' ⟨rfl, ⟨nd, rfl⟩⟩))
                go_wp2
                go_ret2
                exact ⟨rfl, hb0.trans (((Drawn0.refl _).step _).below.mono hb0.size)⟩
               ·rw [if_neg c24] at H
                exact absurd H (by simp)
              ·rw [if_neg c23] at H
               exact absurd H (by simp)
             ·rw [if_neg c22] at H
              exact absurd H (by simp)
            ·rw [if_neg c21] at H
             exact absurd H (by simp)
           ·rw [if_neg c18] at H
            exact absurd H (by simp)
          ·rw [if_neg c17] at H
           exact absurd H (by simp)
        ·rw [if_neg c12] at H
         have c12b0 : decide (a1 < ((rd_T58 l0 x16_1).f0)) = false := decide_eq_false c12
         clear c12
         have H' := Aside0.mk H
         clear H
         have p281 : 0 ≤ (x16_1 : Int) := odx
         have q281 : x16_1 < (l0.length : Int) := odx
         obtain ⟨ad281, e281, hx281_0, hx281_1⟩ := at_T58 HR0.out x16_1 p281 q281
         cases e281
         replace hx281_0 := (HB.out.cell (World.block_lt_of_cell? w _ hx281_0)).trans hx281_0
         replace hx281_1 := (HB.out.cell (World.block_lt_of_cell? w _ hx281_1)).trans hx281_1
         replace p281 := eq_true p281
         replace q281 := eq_true q281
         go_wp2_with (first | ((with_reducible refine gate_dst (N := 7) rfl ?_); refine box_event ?hg (N := 7) ?hd (cs := #[.int .i64 0, .float .f32 (0 : Nat)]) (t := 58) ?hr ?_; (case hd => rfl); (case hg => rfl); (case hr => first | (go_simp; done) | (go_simp; rfl)); intro gb282 hg w31 hbox hb; have n0_ := Aside0.mk (below_step blx hb); have n1_ := Aside0.mk (hbox); have n2_ := Aside0.mk ((by rw [hg]; exact (below_size blx) : w.heap.size ≤ gb282)); have n3_ := Aside0.mk ((by rw [hg]; exact (below_size blx) : w.heap.size ≤ gb282)); clear HB; have HB := n0_; have BK282 := n1_; have GW282 := n2_; have GE282 := n3_; clear n0_ n1_ n2_ n3_; clear hb hbox hg; have hcz32_0 : w31.cell? ⟨gb282, 0, none⟩ = some (.int .i64 0) := (blk_cell BK282.out 0).trans rfl; have hcz32_1 : w31.cell? ⟨gb282, 1, none⟩ = some (.float .f32 (0 : Nat)) := (blk_cell BK282.out 1).trans rfl; have hfz32_0 := blk_frozen BK282.out 0; have hfz32_1 := blk_frozen BK282.out 1))
         repeat (go_quiet (first | ((with_reducible refine gate_dst (N := 7) rfl ?_); refine box_event ?hg (N := 7) ?hd (cs := #[.int .i64 0, .float .f32 (0 : Nat)]) (t := 58) ?hr ?_; (case hd => rfl); (case hg => rfl); (case hr => first | (go_simp; done) | (go_simp; rfl)); intro gb282 hg w31 hbox hb; have n0_ := Aside0.mk (below_step blx hb); have n1_ := Aside0.mk (hbox); have n2_ := Aside0.mk ((by rw [hg]; exact (below_size blx) : w.heap.size ≤ gb282)); have n3_ := Aside0.mk ((by rw [hg]; exact (below_size blx) : w.heap.size ≤ gb282)); clear HB; have HB := n0_; have BK282 := n1_; have GW282 := n2_; have GE282 := n3_; clear n0_ n1_ n2_ n3_; clear hb hbox hg; have hcz32_0 : w31.cell? ⟨gb282, 0, none⟩ = some (.int .i64 0) := (blk_cell BK282.out 0).trans rfl; have hcz32_1 : w31.cell? ⟨gb282, 1, none⟩ = some (.float .f32 (0 : Nat)) := (blk_cell BK282.out 1).trans rfl; have hfz32_0 := blk_frozen BK282.out 0; have hfz32_1 := blk_frozen BK282.out 1)); try go_wp2_with (first | ((with_reducible refine gate_dst (N := 7) rfl ?_); refine box_event ?hg (N := 7) ?hd (cs := #[.int .i64 0, .float .f32 (0 : Nat)]) (t := 58) ?hr ?_; (case hd => rfl); (case hg => rfl); (case hr => first | (go_simp; done) | (go_simp; rfl)); intro gb282 hg w31 hbox hb; have n0_ := Aside0.mk (below_step blx hb); have n1_ := Aside0.mk (hbox); have n2_ := Aside0.mk ((by rw [hg]; exact (below_size blx) : w.heap.size ≤ gb282)); have n3_ := Aside0.mk ((by rw [hg]; exact (below_size blx) : w.heap.size ≤ gb282)); clear HB; have HB := n0_; have BK282 := n1_; have GW282 := n2_; have GE282 := n3_; clear n0_ n1_ n2_ n3_; clear hb hbox hg; have hcz32_0 : w31.cell? ⟨gb282, 0, none⟩ = some (.int .i64 0) := (blk_cell BK282.out 0).trans rfl; have hcz32_1 : w31.cell? ⟨gb282, 1, none⟩ = some (.float .f32 (0 : Nat)) := (blk_cell BK282.out 1).trans rfl; have hfz32_0 := blk_frozen BK282.out 0; have hfz32_1 := blk_frozen BK282.out 1)))
         go_roundg k1
         case measure => have := HK1.out; omega
         case rel => exact ⟨(wrap64 (x16_1 + 1)), (by first | rfl | (simp; done) | (simp [*]; done)), H', ⟨by have := HK1.out; omega⟩, ⟨blx⟩⟩
      ·rw [if_neg c8] at H
       exact absurd H (by simp)
     ·rw [if_neg c7] at H
      exact absurd H (by simp)
    ·rw [if_neg c6] at H
     have c6b0 : decide (x16_1 < (l0.length : Int)) = false := decide_eq_false c6
     clear c6
     simp only [Option.some.injEq, Prod.mk.injEq] at H
     obtain ⟨rfl, rfl⟩ := H
     go_wp2
     repeat (go_quiet (fail); try go_wp2)
     go_ret2
     exact ⟨by first | rfl | (simp [errW_none, errW_some] <;> rfl) | (simp [*, errW_none, errW_some] <;> rfl), blx⟩
 ·replace c4 := Bool.eq_false_iff.mpr c4
  subst c4
  have H1 : (some ((0 : Nat), 172)) = some (r1, r2) := by rw [if_neg (show ¬ (false = true) by decide)] at H; exact H
  clear H
  have H := H1
  clear H1
  simp only [Option.some.injEq, Prod.mk.injEq] at H
  obtain ⟨rfl, rfl⟩ := H
  go_enter Try.func31, Try.ntmps31
  go_wp2_with (first | (go_at_call 48; (with_reducible refine (curve_ordered.calls k _ _ l0 false _ ?side1 ?side2 A3.out).mono ?_); (case side1 => repeat (first | exact HR0.out | (with_reducible refine Kd.C_alloc ?_ _) | (with_reducible refine Kd.C_drewN ?_ _) | (with_reducible refine Kd.C_drew ?_))); (case side2 => exact HC0.out); rintro e w33 ⟨rfl, hb⟩; have n0_ := Aside0.mk (below_step blx hb); clear HB; have HB := n0_; clear n0_; (try clear hb); (try clear hb2); (try clear hk); (try clear hi)))
  repeat (go_quiet (first | (go_at_call 48; (with_reducible refine (curve_ordered.calls k _ _ l0 false _ ?side1 ?side2 A3.out).mono ?_); (case side1 => repeat (first | exact HR0.out | (with_reducible refine Kd.C_alloc ?_ _) | (with_reducible refine Kd.C_drewN ?_ _) | (with_reducible refine Kd.C_drew ?_))); (case side2 => exact HC0.out); rintro e w33 ⟨rfl, hb⟩; have n0_ := Aside0.mk (below_step blx hb); clear HB; have HB := n0_; clear n0_; (try clear hb); (try clear hb2); (try clear hk); (try clear hi))); try go_wp2_with (first | (go_at_call 48; (with_reducible refine (curve_ordered.calls k _ _ l0 false _ ?side1 ?side2 A3.out).mono ?_); (case side1 => repeat (first | exact HR0.out | (with_reducible refine Kd.C_alloc ?_ _) | (with_reducible refine Kd.C_drewN ?_ _) | (with_reducible refine Kd.C_drew ?_))); (case side2 => exact HC0.out); rintro e w33 ⟨rfl, hb⟩; have n0_ := Aside0.mk (below_step blx hb); clear HB; have HB := n0_; clear n0_; (try clear hb); (try clear hb2); (try clear hk); (try clear hi))))
  go_ret2
  exact ⟨by first | rfl | (simp [errW_none, errW_some] <;> rfl) | (simp [*, errW_none, errW_some] <;> rfl), blx⟩
end Go.Proofs.Ytfhgomcfpmbhnaa.PS
end

section
namespace Go.Proofs.Ytfhgomcfpmbhnaa.F
open Go.RowKit Go.Proofs.Ytfhgomcfpmbhnaa.Y Go.Proofs.Ytfhgomcfpmbhnaa.PS Ieee
open Go.Proofs.YtfhgomcfpmbhnaaW.PrintWords Go.Proofs.YtfhgomcfpmbhnaaW.PrintMore
set_option linter.unusedVariables false
set_option linter.unusedSimpArgs false
theorem fk_of {x y r : Nat} : (single.add x y = some r → fk_add x y = true ∧ fl_add x y = r) ∧ (single.sub x y = some r → fk_sub x y = true ∧ fl_sub x y = r) ∧ (single.mul x y = some r → fk_mul x y = true ∧ fl_mul x y = r) ∧ (single.div x y = some r → fk_quo x y = true ∧ fl_quo x y = r) := by
  refine ⟨fun h => ?_, fun h => ?_, fun h => ?_, fun h => ?_⟩
  · exact ⟨by unfold fk_add; rw [h]; rfl, by unfold fl_add; rw [h]; rfl⟩
  · exact ⟨by unfold fk_sub; rw [h]; rfl, by unfold fl_sub; rw [h]; rfl⟩
  · exact ⟨by unfold fk_mul; rw [h]; rfl, by unfold fl_mul; rw [h]; rfl⟩
  · exact ⟨by unfold fk_quo; rw [h]; rfl, by unfold fl_quo; rw [h]; rfl⟩
theorem zero_num : isNum 0 := ⟨by decide, by decide⟩
theorem chain (S : Nat → Option Int) (Dv : Nat → Int → Int → Option Int) (Fi : Int → Option Bool) (M : Int → Int → Option Int) (A : Nat → Int → Option Int) (wu wv : Option Int) (D P T a b R : Int) (fb : Bool) (e1 : Ev S D) (hu : wu = some a) (hv : wv = some b) (e2 : Ev (fun k => Dv k a b) R) (hf : Fi D = some fb) (h : fb = true → M D R = some P ∧ Ev (fun k => A k P) T) (h' : fb = false → T = D) :
    Ev (fun k => (S k).bind fun t156 => (wu.bind fun t157 => (wv.bind fun t158 => ((Dv k t157 t158).bind fun t159 => ((Fi t156).bind fun t160 => (if t160 = true then ((M t156 t159).bind fun t161 => ((A k t161).bind fun t162 => some (t162, (0 : Int)))) else some (t156, 0))))))) (T, (0 : Int)) := by
  refine Ev.bind (f := fun k t156 => _) e1 ?_
  rw [hu, hv]
  simp only [Option.bind_some]
  refine Ev.bind (f := fun k t159 => _) e2 ?_
  rw [hf]
  simp only [Option.bind_some]
  cases fb
  · rw [h' rfl]
    simp only [Bool.false_eq_true, if_false]
    exact Ev.now _
  · obtain ⟨h1, h2⟩ := h rfl
    simp only [if_true, h1, Option.bind_some]
    exact Ev.bind (f := fun k t162 => _) h2 (Ev.now _)
theorem sub_ev {x y r : Nat} (hx : x < 4294967296) (hy : y < 4294967296) (h : single.sub x y = some r) : Ev (fun k => levyref17_Sub.f k (x : Int) (y : Int)) (r : Int) := by
  have e := sub_is x y hx hy
  rwa [h, orN_some] at e
theorem add_ev {x y r : Nat} (hx : x < 4294967296) (hy : y < 4294967296) (h : single.add x y = some r) : Ev (fun k => levyref17_Add.f k (x : Int) (y : Int)) (r : Int) := by
  have e := add_is x y hx hy
  rwa [h, orN_some] at e
theorem div_ev {x y r : Nat} (hx : x < 4294967296) (hy : y < 4294967296) (fy : y % 2147483648 < 2139095040) (hm : mX y ≠ 0) (h : single.div x y = some r) : Ev (fun k => levyref17_Div.f k (x : Int) (y : Int)) (r : Int) := by
  have e := div_is x y hx hy fy hm
  rwa [h, orN_some] at e
theorem mul_ev {x y r : Nat} (hx : x < 4294967296) (hy : y < 4294967296) (fx : x % 2147483648 < 2139095040) (fy : y % 2147483648 < 2139095040) (h : single.mul x y = some r) : levyref17_Mul.f (x : Int) (y : Int) = some (r : Int) := by
  have e := mul_is x y hx hy fx fy
  rwa [h, orN_some] at e
theorem ref_between (y z d p t a b r : Nat) (hy : y < 4294967296) (hz : z < 4294967296) (fy : y % 2147483648 < 2139095040) (fz : z % 2147483648 < 2139095040) (r0 : 8388608 ≤ r) (r1 : r < 2139095040)
    (ha : a < 4294967296) (hb : b < 4294967296) (fb : b % 2147483648 < 2139095040) (mb : mX b ≠ 0) (hd : single.sub y z = some d) (hp : single.mul d r = some p) (ht : single.add z p = some t) (hdn : isNum d) (hpn : isNum p) (htd : ¬ d % 2147483648 < 2139095040 → t = d) (hq : single.div a b = some r) (u v : Int) (hu : levyref17_Whole.f u = some (a : Int)) (hv : levyref17_Whole.f v = some (b : Int)) :
    Ev (fun k => (levyref17_Sub.f k (y : Int) (z : Int)).bind fun t156 => ((levyref17_Whole.f u).bind fun t157 => ((levyref17_Whole.f v).bind fun t158 => ((levyref17_Div.f k t157 t158).bind fun t159 => ((levyref17_Finite.f t156).bind fun t160 => (if t160 = true then ((levyref17_Mul.f t156 t159).bind fun t161 => ((levyref17_Add.f k (z : Int) t161).bind fun t162 => (some (t162, (0 : Int))))) else (some (t156, 0)))))))) ((t : Int), (0 : Int)) :=
  chain (fun k => levyref17_Sub.f k (y : Int) (z : Int)) levyref17_Div.f levyref17_Finite.f levyref17_Mul.f (fun k => levyref17_Add.f k (z : Int)) (levyref17_Whole.f u) (levyref17_Whole.f v) d p t a b r (decide (d % 2147483648 < 2139095040)) (sub_ev hy hz hd) hu hv (div_ev ha hb fb mb hq) (fin_is d)
    (fun f => ⟨mul_ev hdn.1 (Nat.lt_of_lt_of_le r1 (by decide)) (of_decide_eq_true f) (Nat.lt_of_le_of_lt (Nat.mod_le _ _) r1) hp, add_ev hz hpn.1 ht⟩) (fun f => congrArg Nat.cast (htd (of_decide_eq_false f)))
theorem at_loop {l : List S73} (hg : Good l) (ho : InOrd l l.length) (x : Int) (hlo : (rd_T73 l 0).f0 ≤ x) (hhi : x ≤ (rd_T73 l ((l.length : Int) - 1)).f0) : ∀ (n : Nat) (i : Int), 0 ≤ i → i + n = l.length → 0 < n → (0 < i → (rd_T73 l (i - 1)).f0 < x) →
    ∃ t e, Ev (fun k => curve_At.l0 k (l.map dP) x (l.map dP) (l.length : Int) i) (t, e) ∧ Ev (fun k => levyref17_At.l0 k (l.map dB) x i) ((t : Int), e) ∧ isNum t := by
  intro n
  induction n with
  | zero => intro i _ _ h; omega
  | succ n ih =>
    intro i h0 hn _ hb
    have hlen := hg.1
    obtain ⟨hl, he⟩ := hB_lt hg i
    obtain ⟨hl1, he1⟩ := hB_lt hg (i - 1)
    obtain ⟨fi, i0, i1, i2⟩ := ho i h0 (by omega)
    have s1 : ∀ k, curve_At.l0 (k + 1) (l.map dP) x (l.map dP) (l.length : Int) i = if (rd_T73 l i).f0 = x then some (hB l i, 0) else if (rd_T73 l i).f0 > x then (if i = 0 then some (0, 175) else if 0 ≤ wrap64 (i - 1) then (if wrap64 (i - 1) < ((l.map dP).length : Int) then ((curve_whole.f (wrap64 (x - (rd_T58 (l.map dP) (wrap64 (i - 1))).f0))).bind fun t285 => ((curve_whole.f (wrap64 ((rd_T73 l i).f0 - (rd_T58 (l.map dP) (wrap64 (i - 1))).f0))).bind fun t286 => (if fk_quo t285 t286 = true then (if fk_sub (hB l i) (rd_T58 (l.map dP) (wrap64 (i - 1))).f1 = true then (if fk_mul (fl_sub (hB l i) (rd_T58 (l.map dP) (wrap64 (i - 1))).f1) (fl_quo t285 t286) = true then (if fk_add (rd_T58 (l.map dP) (wrap64 (i - 1))).f1 (fl_mul (fl_sub (hB l i) (rd_T58 (l.map dP) (wrap64 (i - 1))).f1) (fl_quo t285 t286)) = true then some (fl_add (rd_T58 (l.map dP) (wrap64 (i - 1))).f1 (fl_mul (fl_sub (hB l i) (rd_T58 (l.map dP) (wrap64 (i - 1))).f1) (fl_quo t285 t286)), 0) else none) else none) else none) else none))) else none) else none) else curve_At.l0 k (l.map dP) x (l.map dP) (l.length : Int) (i + 1) := by
      intro k
      rw [curve_At.l0, if_pos (by omega), if_pos h0, if_pos (by rw [List.length_map]; omega), rd_P l i, show wrap64 (i + 1) = i + 1 by unfold wrap64; omega]
      rfl
    have s2 : ∀ k, levyref17_At.l0 (k + 1) (l.map dB) x i = if (rd_T73 l i).f0 < x then levyref17_At.l0 k (l.map dB) x (i + 1) else if (rd_T73 l i).f0 = x then some ((rd_T73 l i).f1, 0) else if 0 ≤ wrap64 (i - 1) then (if wrap64 (i - 1) < ((l.map dB).length : Int) then ((levyref17_Sub.f k (rd_T73 l i).f1 (rd_T38 (l.map dB) (wrap64 (i - 1))).f1).bind fun t156 => ((levyref17_Whole.f (wrap64 (x - (rd_T38 (l.map dB) (wrap64 (i - 1))).f0))).bind fun t157 => ((levyref17_Whole.f (wrap64 ((rd_T73 l i).f0 - (rd_T38 (l.map dB) (wrap64 (i - 1))).f0))).bind fun t158 => ((levyref17_Div.f k t157 t158).bind fun t159 => ((levyref17_Finite.f t156).bind fun t160 => (if t160 = true then ((levyref17_Mul.f t156 t159).bind fun t161 => ((levyref17_Add.f k (rd_T38 (l.map dB) (wrap64 (i - 1))).f1 t161).bind fun t162 => (some (t162, 0)))) else (some (t156, 0)))))))) else none) else none := by
      intro k
      rw [levyref17_At.l0, if_pos h0, if_pos (by rw [List.length_map]; omega), rd_B l i, show wrap64 (i + 1) = i + 1 by unfold wrap64; omega]
      rfl
    by_cases c1 : (rd_T73 l i).f0 = x
    · refine ⟨hB l i, 0, Ev.step (f := fun _ => some (hB l i, 0)) (fun k => by rw [s1, if_pos c1]) (Ev.now _), Ev.step (f := fun _ => some ((rd_T73 l i).f1, 0)) (fun k => by rw [s2, if_neg (by omega), if_pos c1]) ?_, hl, by omega⟩
      rw [he]
      exact Ev.now _
    · by_cases c2 : (rd_T73 l i).f0 > x
      · have hi0 : i ≠ 0 := by
          rintro rfl
          omega
        have hip : 0 < i := by omega
        have hw : wrap64 (i - 1) = i - 1 := by unfold wrap64; omega
        obtain ⟨fj, j0, j1, _⟩ := ho (i - 1) (by omega) (by omega)
        have hx1 := hb hip
        have hP1 : (rd_T58 (l.map dP) (i - 1)).f1 = hB l (i - 1) := by rw [rd_P]; rfl
        have hP0 : (rd_T58 (l.map dP) (i - 1)).f0 = (rd_T73 l (i - 1)).f0 := by rw [rd_P]; rfl
        have hB1 : (rd_T38 (l.map dB) (i - 1)).f1 = (hB l (i - 1) : Int) := by rw [rd_B]; exact he1
        have hB0 : (rd_T38 (l.map dB) (i - 1)).f0 = (rd_T73 l (i - 1)).f0 := by rw [rd_B]; rfl
        generalize (rd_T73 l i).f0 = X at *
        generalize (rd_T73 l (i - 1)).f0 = X1 at *
        obtain ⟨u, hu⟩ : ∃ u : Nat, x - X1 = u := ⟨(x - X1).toNat, by omega⟩
        obtain ⟨v, hv⟩ : ∃ v : Nat, X - X1 = v := ⟨(X - X1).toNat, by omega⟩
        have wu : wrap64 (x - X1) = u := by rw [hu]; unfold wrap64; omega
        have wv : wrap64 (X - X1) = v := by rw [hv]; unfold wrap64; omega
        obtain ⟨a, b, r, ha, hbv, ha1, hb1, fb, mb, hq, q0, q1, q2⟩ := share_is u v (by omega) (by omega) (by omega) (by omega)
        obtain ⟨d, p, t, hd, hp, ht, nd, np, nt, htd⟩ := between (hB l i) (hB l (i - 1)) r hl hl1 fi fj q1 q2
        refine ⟨t, 0, Ev.step (f := fun _ => some (t, 0)) (fun k => ?_) (Ev.now _), ?_, nt⟩
        · rw [s1, if_neg c1, if_pos c2, if_neg hi0, hw, if_pos (by omega), if_pos (by rw [List.length_map]; omega), hP0, hP1, wu, wv]
          have e1 : curve_whole.f (u : Int) = some a := by show some (FloatKind.f32.nearest (u : Int)) = _; rw [ha]
          have e2 : curve_whole.f (v : Int) = some b := by show some (FloatKind.f32.nearest (v : Int)) = _; rw [hbv]
          rw [e1, e2]
          simp only [Option.bind_some]
          obtain ⟨k1, k2⟩ := fk_of.2.2.2 hq
          obtain ⟨k3, k4⟩ := fk_of.2.1 hd
          rw [if_pos k1, if_pos k3, k2, k4]
          obtain ⟨k5, k6⟩ := fk_of.2.2.1 hp
          rw [if_pos k5, k6]
          obtain ⟨k7, k8⟩ := fk_of.1 ht
          rw [if_pos k7, k8]
        · refine Ev.step (fun k => ?_) (ref_between (hB l i) (hB l (i - 1)) d p t a b r hl hl1 fi fj q1 q2 ha1 hb1 fb mb hd hp ht nd np htd hq (u : Int) (v : Int) (by rw [whole_is _ (by omega) (by omega), ha]) (by rw [whole_is _ (by omega) (by omega), hbv]))
          rw [s2, if_neg (by omega), if_neg c1, hw, if_pos (by omega), if_pos (by rw [List.length_map]; omega), hB0, hB1, wu, wv, he]
      · have hn0 : n ≠ 0 := by
          rintro rfl
          have : i = (l.length : Int) - 1 := by omega
          rw [← this] at hhi
          omega
        obtain ⟨t, e, e1, e2, e3⟩ := ih (i + 1) (by omega) (by omega) (by omega) (fun _ => by rw [show i + 1 - 1 = i by omega]; omega)
        exact ⟨t, e, Ev.step (fun k => by rw [s1, if_neg c1, if_neg c2]) e1, Ev.step (fun k => by rw [s2, if_pos (by omega)]) e2, e3⟩
end Go.Proofs.Ytfhgomcfpmbhnaa.F
end

section
namespace Go.Proofs.Ytfhgomcfpmbhnaa.PS
open Go.RowKit Go.Proofs.YtfhgomcfpmbhnaaW.PrintWords Go.Proofs.YtfhgomcfpmbhnaaW.PrintLast Go.Proofs.YtfhgomcfpmbhnaaW.PrintMore
attribute [local go_sem] frun_add frun_sub frun_mul frun_quo frun_neg frun_of frun_same frun_store frun_bits frun_from
attribute [local go_sem] max2_int min2_int max_two min_two max_three min_three max_four min_four
set_option linter.unusedVariables false
set_option linter.unusedSimpArgs false
def levylaw17_ats.l0 : Nat → List (S58) → List (S73) → List Int → Int → Option (Bool)
 | 0, _, _, _, _ => none
 | k + 1, x0, x1, x2, x7 => if x7 < (x2.length : Int) then (if 0 ≤ x7 then ((curve_At.f k x0 (rd x2 x7)).bind fun bt336 => ((levylaw17_bits.f k x1).bind fun t338 => ((levyref17_At.f k t338 (rd x2 x7)).bind fun bt342 => (if bt336.2 = bt342.2 then ((levylaw17_near.f bt336.1 bt342.1).bind fun t344 => (if t344 = true then (levylaw17_ats.l0 k x0 x1 x2 (wrap64 (x7 + 1))) else (some false))) else (some false))))) else (none)) else (some true)
def levylaw17_ats.f (k : Nat) (l0 : List (S58)) (l1 : List (S73)) (l2 : List Int) : Option (Bool) := levylaw17_ats.l0 k l0 l1 l2 0
theorem levylaw17_ats.mono_l : ∀ k, (∀ y0 y1 y2 y3, LeO (levylaw17_ats.l0 k y0 y1 y2 y3) (levylaw17_ats.l0 (k + 1) y0 y1 y2 y3))
 | 0 => fun _ _ _ _ r h => by simp [levylaw17_ats.l0] at h
 | k + 1 => by
  have ih0 := levylaw17_ats.mono_l k
  ·intro y0 y1 y2 y3
   unfold levylaw17_ats.l0
   repeat' first
   | (with_reducible exact ih0 _ _ _ _)
   | (with_reducible exact curve_At.mono _ _ _)
   | (with_reducible exact levylaw17_bits.mono _ _)
   | (with_reducible exact levyref17_At.mono _ _ _)
   | (with_reducible exact LeO.refl _)
   | (with_reducible exact LeO.none _)
   | (with_reducible refine LeO.ite ?_ ?_)
   | (with_reducible refine LeO.bind ?_ (fun _ => ?_))
   | exact ih0 _ _ _ _
   | exact curve_At.mono _ _ _
   | exact levylaw17_bits.mono _ _
   | exact levyref17_At.mono _ _ _
   | exact LeO.none _
   | refine LeO.ite ?_ ?_
   | refine LeO.bind ?_ (fun _ => ?_)
theorem levylaw17_ats.mono : ∀ a0 a1 a2 k, LeO (levylaw17_ats.f k a0 a1 a2) (levylaw17_ats.f (k + 1) a0 a1 a2) := by
 intro a0 a1 a2 k
 have ih0 := levylaw17_ats.mono_l k
 unfold levylaw17_ats.f
 repeat' first
   | (with_reducible exact ih0 _ _ _ _)
   | (with_reducible exact curve_At.mono _ _ _)
   | (with_reducible exact levylaw17_bits.mono _ _)
   | (with_reducible exact levyref17_At.mono _ _ _)
   | (with_reducible exact LeO.refl _)
   | (with_reducible exact LeO.none _)
   | (with_reducible refine LeO.ite ?_ ?_)
   | (with_reducible refine LeO.bind ?_ (fun _ => ?_))
   | exact ih0 _ _ _ _
   | exact curve_At.mono _ _ _
   | exact levylaw17_bits.mono _ _
   | exact levyref17_At.mono _ _ _
   | exact LeO.none _
   | refine LeO.ite ?_ ?_
   | refine LeO.bind ?_ (fun _ => ?_)
def levylaw17_ats.T5 : Bool × List (List Nat × List Nat) := (true, [([], []), ([0], [0]), ([], []), ([], []), ([2, 3], [2, 3]), ([4], [4]), ([1, 5, 1], [1, 5]), ([6], [6]), ([7], [7]), ([7], [7]), ([8, 6, 0, 1, 2, 3, 4, 5, 6, 7, 8], [8]), ([9, 10, 0, 1, 2, 3, 4, 5, 6, 7, 8, 9, 10], [9])])
def levylaw17_ats.B5 : List Nat := [0, 1, 0, 0, 12, 28, 63, 127, 255, 255, 511, 2047]
theorem levylaw17_ats.tab5 : rtab .any (opsOf Try.f17 5) = levylaw17_ats.T5 := by kernel_rfl
theorem levylaw17_ats.bits5 : waitsOk levylaw17_ats.T5.2 levylaw17_ats.B5 = true := by kernel_rfl
set_option maxHeartbeats 8000000 in
set_option maxRecDepth 100000 in
theorem levylaw17_ats.calls (k : Nat) (A0 : Option Addr) (c0 : Nat) (l0 : List (S58)) (A1 : Option Addr) (c1 : Nat) (l1 : List (S73)) (A2 : Option Addr) (c2 : Nat) (l2 : List Int) (r : Bool) (w : World) (hr0 : Kd.C k58 w A0 l0.length l0) (hc0 : l0.length ≤ c0) (hr1 : Kd.C k73 w A1 l1.length l1) (hc1 : l1.length ≤ c1) (hr2 : Kd.C (Kd.int .i64) w A2 l2.length l2) (hc2 : l2.length ≤ c2) (h : levylaw17_ats.f k l0 l1 l2 = some r) :
  Calls Try.prog 17 #[.slice A0 l0.length c0, .slice A1 l1.length c1, .slice A2 l2.length c2] w fun e w' => e = .returned (.bool r) ∧ Below w.heap.size w w' := by
 have HR0 := Aside0.mk hr0
 have HC0 := Aside0.mk hc0
 clear hr0 hc0
 have HR1 := Aside0.mk hr1
 have HC1 := Aside0.mk hc1
 clear hr1 hc1
 have HR2 := Aside0.mk hr2
 have HC2 := Aside0.mk hc2
 clear hr2 hc2
 have HB := Aside0.mk (Below.refl w.heap.size w)
 have H : (levylaw17_ats.l0 k l0 l1 l2 0) = some r := h
 clear h
 have H' := Aside0.mk H
 clear H
 go_enter Try.func17, Try.ntmps17
 go_wp2
 go_loopg [7] k (fun kq v7 w' => ∃ (x7_1 : Int), v7 = .int .i64 x7_1 ∧ Aside0 (levylaw17_ats.l0 kq l0 l1 l2 x7_1 = some r) ∧ Aside0 (kq ≤ k) ∧ Aside0 (Below w.heap.size w w'))
 case atStart => exact ⟨(0), (by first | rfl | (simp; done) | (simp [*]; done)), H', ⟨Nat.le_refl _⟩, ⟨blx⟩⟩
 case round =>
  clear H'
  try clear c1
  try clear c2
  try clear p2
  obtain ⟨x7_1, rfl, HA, HK1, HB⟩ := hrel
  cases gk with
  | zero => exact absurd HA.out (by simp [levylaw17_ats.l0])
  | succ k1 =>
   have H := HA.out
   clear HA
   simp only [levylaw17_ats.l0] at H
   by_cases c4 : x7_1 < (l2.length : Int)
   ·rw [if_pos c4] at H
    have c4b0 : decide (x7_1 < (l2.length : Int)) = true := decide_eq_true c4
    clear c4
    by_cases c5 : 0 ≤ x7_1
    ·rw [if_pos c5] at H
     have c5b0 : decide (0 ≤ x7_1) = true := decide_eq_true c5
     clear c5
     replace H := Option.bind_eq_some_iff.mp H
     obtain ⟨⟨t336, t337⟩, A60, H⟩ := H
     replace H : ((levylaw17_bits.f k1 l1).bind fun t338 => ((levyref17_At.f k1 t338 (rd l2 x7_1)).bind fun bt342 => (if t337 = bt342.2 then ((levylaw17_near.f t336 bt342.1).bind fun t344 => (if t344 = true then (levylaw17_ats.l0 k1 l0 l1 l2 (wrap64 (x7_1 + 1))) else (some false))) else (some false)))) = some r := H
     have A6 := Aside0.mk A60
     clear A60
     replace H := Option.bind_eq_some_iff.mp H
     obtain ⟨t338, A70, H⟩ := H
     replace H : ((levyref17_At.f k1 t338 (rd l2 x7_1)).bind fun bt342 => (if t337 = bt342.2 then ((levylaw17_near.f t336 bt342.1).bind fun t344 => (if t344 = true then (levylaw17_ats.l0 k1 l0 l1 l2 (wrap64 (x7_1 + 1))) else (some false))) else (some false))) = some r := H
     have A7 := Aside0.mk A70
     clear A70
     replace H := Option.bind_eq_some_iff.mp H
     obtain ⟨⟨t342, t343⟩, A80, H⟩ := H
     replace H : (if t337 = t343 then ((levylaw17_near.f t336 t342).bind fun t344 => (if t344 = true then (levylaw17_ats.l0 k1 l0 l1 l2 (wrap64 (x7_1 + 1))) else (some false))) else (some false)) = some r := H
     have A8 := Aside0.mk A80
     clear A80
     by_cases c9 : t337 = t343
     ·rw [if_pos c9] at H
      have c9b0 : (t337 == t343) = true := beq_iff_eq.mpr c9
      have c9b1 : (t337 != t343) = false := bne_eq_false_iff_eq.mpr c9
      clear c9
      replace H := Option.bind_eq_some_iff.mp H
      obtain ⟨t344, A100, H⟩ := H
      replace H : (if t344 = true then (levylaw17_ats.l0 k1 l0 l1 l2 (wrap64 (x7_1 + 1))) else (some false)) = some r := H
      have A10 := Aside0.mk A100
      clear A100
      by_cases c11 : t344 = true
      ·subst c11
       have H1 : (levylaw17_ats.l0 k1 l0 l1 l2 (wrap64 (x7_1 + 1))) = some r := by rw [if_pos rfl] at H; exact H
       clear H
       have H := H1
       clear H1
       have H' := Aside0.mk H
       clear H
       have p335 : 0 ≤ (x7_1 : Int) := odx
       have q335 : x7_1 < (l2.length : Int) := odx
       obtain ⟨ad335, e335, hx335_0⟩ := Kd.at_int HR2.out x7_1 p335 q335
       cases e335
       replace hx335_0 := (HB.out.cell (World.block_lt_of_cell? w _ hx335_0)).trans hx335_0
       replace p335 := eq_true p335
       replace q335 := eq_true q335
       try go_wp2_with (first | ((with_reducible refine gate_callee (f := 31) rfl ?_); refine goesL_ (some 24) rfl rfl Try.func31 (by kernel_rfl) rfl #[.slice A0 l0.length c0, .int .i64 (rd l2 x7_1)] rfl agx ?_; (with_reducible refine (curve_At.calls k1 _ _ l0 (rd l2 x7_1) t336 t337 _ ?side1 ?side2 A6.out).mono ?_); (case side1 => repeat (first | exact (Kd.C_below HR0.out HB.out) | (with_reducible refine Kd.C_alloc ?_ _) | (with_reducible refine Kd.C_drewN ?_ _) | (with_reducible refine Kd.C_drew ?_))); (case side2 => exact HC0.out); rintro e w12 ⟨rfl, hb⟩; refine ⟨_, rfl, ?_⟩; have n0_ := Aside0.mk (below_step blx hb); clear HB; have HB := n0_; clear n0_; (try clear hb); (try clear hb2); (try clear hk); (try clear hi)))
       have n0_ := Aside0.mk (below_drew1 HB.out)
       clear HB
       have HB := n0_
       clear n0_
       have p341 : 0 ≤ (x7_1 : Int) := odx
       have q341 : x7_1 < (l2.length : Int) := odx
       obtain ⟨ad341, e341, hx341_0⟩ := Kd.at_int HR2.out x7_1 p341 q341
       have hw341_0 := hx341_0
       obtain rfl : ad335 = ad341 := (by injection e341)
       replace hx341_0 := (HB.out.cell (World.block_lt_of_cell? w _ hx341_0)).trans hx341_0
       replace p341 := eq_true p341
       replace q341 := eq_true q341
       refine start_ (n := 12) (S := fun w' => w'.cell? (ad335.add (x7_1).toNat) = some (.int .i64 (rd l2 x7_1))) (ds := []) #[false, false, false, false, false, false, false, false, false, false, false, false] (by kernel_rfl) rfl rfl (((HB.out.cell (World.block_lt_of_cell? w _ hw341_0)).trans hw341_0)) (fun hHeld => ?_); refine with_tabW levylaw17_ats.tab5 levylaw17_ats.bits5 (fun HT_ HW_ => ?_)
       generalize w12.drew = w13 at HB hx341_0 hHeld ⊢
       refine pure_ (i := 0) (N := some 28) (v := ?_) (a' := ?_) #[true, false, false, false, false, false, false, false, false, false, false, false] rfl rfl (any_of HT_.out (by kernel_rfl)) (fun _ _ _ h => h) (Or.inl ⟨by rfl, ?_⟩) ?_ ?_
       rotate_left
       ·intro w'
        go_simp
        with_reducible rfl
       rotate_left
       ·simp only [Act.put, List.setIfInBounds_toArray, List.set_cons_zero, List.set_cons_succ, i64_w, i32_w]
        rfl
       refine pure_ (i := 2) (N := some 30) (v := ?_) (a' := ?_) #[true, false, true, false, false, false, false, false, false, false, false, false] rfl rfl (any_of HT_.out (by kernel_rfl)) (fun _ _ _ h => h) (Or.inl ⟨by rfl, ?_⟩) ?_ ?_
       rotate_left
       ·intro w'
        go_simp
        with_reducible rfl
       rotate_left
       ·simp only [Act.put, List.setIfInBounds_toArray, List.set_cons_zero, List.set_cons_succ, i64_w, i32_w]
        rfl
       refine pure_ (i := 3) (N := some 31) (v := ?_) (a' := ?_) #[true, false, true, true, false, false, false, false, false, false, false, false] rfl rfl (any_of HT_.out (by kernel_rfl)) (fun _ _ _ h => h) (Or.inl ⟨by rfl, ?_⟩) ?_ ?_
       rotate_left
       ·intro w'
        go_simp
        with_reducible rfl
       rotate_left
       ·simp only [Act.put, List.setIfInBounds_toArray, List.set_cons_zero, List.set_cons_succ, i64_w, i32_w]
        rfl
       refine pure_ (i := 4) (N := some 32) (v := ?_) (a' := ?_) #[true, false, true, true, true, false, false, false, false, false, false, false] rfl rfl (any_of HT_.out (by kernel_rfl)) (fun _ _ _ h => h) (Or.inl ⟨by rfl, ?_⟩) ?_ ?_
       rotate_left
       ·intro w'
        go_simp
        with_reducible rfl
       rotate_left
       ·simp only [Act.put, List.setIfInBounds_toArray, List.set_cons_zero, List.set_cons_succ, i64_w, i32_w]
        rfl
       refine take_ (i := 5) (N := some 33) (v := ?_) (a' := ?_) #[true, false, true, true, true, true, false, false, false, false, false, false] rfl rfl (take_ofW HT_.out HW_.out (by kernel_rfl)) (fun _ _ _ h => h) (Or.inl ⟨by rfl, ?_⟩) hHeld ?_ ?_
       rotate_left
       ·intro w' s0
        go_simp
        with_reducible rfl
       rotate_left
       ·simp only [Act.put, List.setIfInBounds_toArray, List.set_cons_zero, List.set_cons_succ, i64_w, i32_w]
        rfl
       refine one_ (i := 1) (N := some 29) #[true, true, true, true, true, true, false, false, false, false, false, false] rfl rfl (one_of HT_.out (by kernel_rfl)) (by decide) (fun K hK => ?_)
       refine goes_ Try.func38 (by kernel_rfl) rfl #[.slice A1 l1.length c1] (by rfl) rfl rfl agx ?_
       with_reducible refine (levylaw17_bits.calls k1 _ _ l1 t338 _ ?side1 ?side2 A7.out).mono ?_
       (case side1 => repeat (first | exact (Kd.C_below HR1.out HB.out) | (with_reducible refine Kd.C_alloc ?_ _) | (with_reducible refine Kd.C_drewN ?_ _) | (with_reducible refine Kd.C_drew ?_)))
       (case side2 => exact HC1.out)
       rintro e w14 ⟨v339, rfl, ho0, hb⟩
       refine ⟨_, rfl, ?_⟩
       have n0_ := Aside0.mk (Kd.R_lower ho0 (below_size blx))
       have n1_ := Aside0.mk (below_step blx hb)
       clear HB
       have HO340 := n0_
       have HB := n1_
       clear n0_ n1_
       (try clear hb)
       (try clear hb2)
       (try clear hk)
       (try clear hi)
       (try clear ho0)
       obtain ⟨Ao15, co15, eo15⟩ := Kd.R_slice HO340.out
       (first | subst eo15 | (injection eo15 with f1_ f2_ f3_; have f4_ := f1_.symm; have f5_ := f3_.symm; clear f1_ f2_ f3_; subst f4_; subst f5_))
       refine hK.out _ _ (((HB.out.cell (World.block_lt_of_cell? w _ hw341_0)).trans hw341_0)) (fun hHeld => ?_)
       clear hK K
       refine norm_ (a' := ?_) ?_ ?_
       rotate_left
       ·show Act.put _ (some 29) _ = _
        simp only [Act.put, List.setIfInBounds_toArray, List.set_cons_zero, List.set_cons_succ, i64_w, i32_w]
        rfl
       refine one_ (i := 6) (N := some 34) #[true, true, true, true, true, true, true, false, false, false, false, false] rfl rfl (one_of HT_.out (by kernel_rfl)) (by decide) (fun K hK => ?_)
       refine goes_ Try.func37 (by kernel_rfl) rfl #[.slice Ao15 t338.length co15, .int .i64 (rd l2 x7_1)] (by rfl) rfl rfl agx ?_
       with_reducible refine (levyref17_At.calls k1 _ _ t338 (rd l2 x7_1) t342 t343 _ ?side1 ?side2 A8.out).mono ?_
       (case side1 => repeat (first | exact (Kd.R_reads' HO340.out).2.2 | (with_reducible refine Kd.C_alloc ?_ _) | (with_reducible refine Kd.C_drewN ?_ _) | (with_reducible refine Kd.C_drew ?_)))
       (case side2 => exact (Kd.R_reads' HO340.out).2.1)
       rintro e w16 ⟨rfl, hb⟩
       refine ⟨_, rfl, ?_⟩
       have n0_ := Aside0.mk (Kd.R_below (by (with_reducible repeat (first | apply Kd.R_alloc | apply Kd.R_drewN | apply Kd.R_drew)); exact HO340.out) hb)
       have n1_ := Aside0.mk (below_step blx hb)
       clear HO340
       clear HB
       have HO340 := n0_
       have HB := n1_
       clear n0_ n1_
       (try clear hb)
       (try clear hb2)
       (try clear hk)
       (try clear hi)
       refine hK.out _ _ (((HB.out.cell (World.block_lt_of_cell? w _ hw341_0)).trans hw341_0)) (fun hHeld => ?_)
       clear hK K
       refine norm_ (a' := ?_) ?_ ?_
       rotate_left
       ·show Act.put _ (some 34) _ = _
        simp only [Act.put, List.setIfInBounds_toArray, List.set_cons_zero, List.set_cons_succ, i64_w, i32_w]
        rfl
       refine pure_ (i := 7) (N := some 27) (v := ?_) (a' := ?_) #[true, true, true, true, true, true, true, true, false, false, false, false] rfl rfl (any_of HT_.out (by kernel_rfl)) (fun _ _ _ h => h) (Or.inl ⟨by rfl, ?_⟩) ?_ ?_
       rotate_left
       ·intro w'
        go_simp
        with_reducible rfl
       rotate_left
       ·simp only [Act.put, List.setIfInBounds_toArray, List.set_cons_zero, List.set_cons_succ, i64_w, i32_w]
        rfl
       refine pure_ (i := 8) (N := some 35) (v := ?_) (a' := ?_) #[true, true, true, true, true, true, true, true, true, false, false, false] rfl rfl (any_of HT_.out (by kernel_rfl)) (fun _ _ _ h => h) (Or.inl ⟨by rfl, ?_⟩) ?_ ?_
       rotate_left
       ·intro w'
        go_simp
        with_reducible rfl
       rotate_left
       ·simp only [Act.put, List.setIfInBounds_toArray, List.set_cons_zero, List.set_cons_succ, i64_w, i32_w]
        rfl
       refine pure_ (i := 9) (N := some 36) (v := ?_) (a' := ?_) #[true, true, true, true, true, true, true, true, true, true, false, false] rfl rfl (any_of HT_.out (by kernel_rfl)) (fun _ _ _ h => h) (Or.inl ⟨by rfl, ?_⟩) ?_ ?_
       rotate_left
       ·intro w'
        go_simp
        with_reducible rfl
       rotate_left
       ·simp only [Act.put, List.setIfInBounds_toArray, List.set_cons_zero, List.set_cons_succ, i64_w, i32_w]
        rfl
       refine pure_ (i := 10) (N := some 10) (v := ?_) (a' := ?_) #[true, true, true, true, true, true, true, true, true, true, true, false] rfl rfl (any_of HT_.out (by kernel_rfl)) (fun _ _ _ h => h) (Or.inl ⟨by rfl, ?_⟩) ?_ ?_
       rotate_left
       ·intro w'
        go_simp
        with_reducible rfl
       rotate_left
       ·simp only [Act.put, List.setIfInBounds_toArray, List.set_cons_zero, List.set_cons_succ, i64_w, i32_w]
        rfl
       refine pure_ (i := 11) (N := some 11) (v := ?_) (a' := ?_) #[true, true, true, true, true, true, true, true, true, true, true, true] rfl rfl (any_of HT_.out (by kernel_rfl)) (fun _ _ _ h => h) (Or.inl ⟨by rfl, ?_⟩) ?_ ?_
       rotate_left
       ·intro w'
        go_simp
        with_reducible rfl
       rotate_left
       ·simp only [Act.put, List.setIfInBounds_toArray, List.set_cons_zero, List.set_cons_succ, i64_w, i32_w]
        rfl
       refine done_ (done_of HT_.out (by kernel_rfl)) ?_
       try go_wp2_with (first | (go_at_call 35; (with_reducible refine (levylaw17_near.calls t336 t342 true _ A10.out).mono ?_); rintro e w' ⟨rfl, ⟨nd, rfl⟩⟩))
       go_roundg k1
       case measure => have := HK1.out; omega
       case rel => exact ⟨(wrap64 (x7_1 + 1)), (by first | rfl | (simp; done) | (simp [*]; done)), H', ⟨by have := HK1.out; omega⟩, ⟨blx⟩⟩
      ·replace c11 := Bool.eq_false_iff.mpr c11
       subst c11
       have H1 : (some false) = some r := by rw [if_neg (show ¬ (false = true) by decide)] at H; exact H
       clear H
       have H := H1
       clear H1
       obtain rfl := Option.some.inj H
       have p335 : 0 ≤ (x7_1 : Int) := odx
       have q335 : x7_1 < (l2.length : Int) := odx
       obtain ⟨ad335, e335, hx335_0⟩ := Kd.at_int HR2.out x7_1 p335 q335
       cases e335
       replace hx335_0 := (HB.out.cell (World.block_lt_of_cell? w _ hx335_0)).trans hx335_0
       replace p335 := eq_true p335
       replace q335 := eq_true q335
       try go_wp2_with (first | ((with_reducible refine gate_callee (f := 31) rfl ?_); refine goesL_ (some 24) rfl rfl Try.func31 (by kernel_rfl) rfl #[.slice A0 l0.length c0, .int .i64 (rd l2 x7_1)] rfl agx ?_; (with_reducible refine (curve_At.calls k1 _ _ l0 (rd l2 x7_1) t336 t337 _ ?side1 ?side2 A6.out).mono ?_); (case side1 => repeat (first | exact (Kd.C_below HR0.out HB.out) | (with_reducible refine Kd.C_alloc ?_ _) | (with_reducible refine Kd.C_drewN ?_ _) | (with_reducible refine Kd.C_drew ?_))); (case side2 => exact HC0.out); rintro e w17 ⟨rfl, hb⟩; refine ⟨_, rfl, ?_⟩; have n0_ := Aside0.mk (below_step blx hb); clear HB; have HB := n0_; clear n0_; (try clear hb); (try clear hb2); (try clear hk); (try clear hi)))
       have n0_ := Aside0.mk (below_drew1 HB.out)
       clear HB
       have HB := n0_
       clear n0_
       have p341 : 0 ≤ (x7_1 : Int) := odx
       have q341 : x7_1 < (l2.length : Int) := odx
       obtain ⟨ad341, e341, hx341_0⟩ := Kd.at_int HR2.out x7_1 p341 q341
       have hw341_0 := hx341_0
       obtain rfl : ad335 = ad341 := (by injection e341)
       replace hx341_0 := (HB.out.cell (World.block_lt_of_cell? w _ hx341_0)).trans hx341_0
       replace p341 := eq_true p341
       replace q341 := eq_true q341
       refine start_ (n := 12) (S := fun w' => w'.cell? (ad335.add (x7_1).toNat) = some (.int .i64 (rd l2 x7_1))) (ds := []) #[false, false, false, false, false, false, false, false, false, false, false, false] (by kernel_rfl) rfl rfl (((HB.out.cell (World.block_lt_of_cell? w _ hw341_0)).trans hw341_0)) (fun hHeld => ?_); refine with_tabW levylaw17_ats.tab5 levylaw17_ats.bits5 (fun HT_ HW_ => ?_)
       generalize w17.drew = w18 at HB hx341_0 hHeld ⊢
       refine pure_ (i := 0) (N := some 28) (v := ?_) (a' := ?_) #[true, false, false, false, false, false, false, false, false, false, false, false] rfl rfl (any_of HT_.out (by kernel_rfl)) (fun _ _ _ h => h) (Or.inl ⟨by rfl, ?_⟩) ?_ ?_
       rotate_left
       ·intro w'
        go_simp
        with_reducible rfl
       rotate_left
       ·simp only [Act.put, List.setIfInBounds_toArray, List.set_cons_zero, List.set_cons_succ, i64_w, i32_w]
        rfl
       refine pure_ (i := 2) (N := some 30) (v := ?_) (a' := ?_) #[true, false, true, false, false, false, false, false, false, false, false, false] rfl rfl (any_of HT_.out (by kernel_rfl)) (fun _ _ _ h => h) (Or.inl ⟨by rfl, ?_⟩) ?_ ?_
       rotate_left
       ·intro w'
        go_simp
        with_reducible rfl
       rotate_left
       ·simp only [Act.put, List.setIfInBounds_toArray, List.set_cons_zero, List.set_cons_succ, i64_w, i32_w]
        rfl
       refine pure_ (i := 3) (N := some 31) (v := ?_) (a' := ?_) #[true, false, true, true, false, false, false, false, false, false, false, false] rfl rfl (any_of HT_.out (by kernel_rfl)) (fun _ _ _ h => h) (Or.inl ⟨by rfl, ?_⟩) ?_ ?_
       rotate_left
       ·intro w'
        go_simp
        with_reducible rfl
       rotate_left
       ·simp only [Act.put, List.setIfInBounds_toArray, List.set_cons_zero, List.set_cons_succ, i64_w, i32_w]
        rfl
       refine pure_ (i := 4) (N := some 32) (v := ?_) (a' := ?_) #[true, false, true, true, true, false, false, false, false, false, false, false] rfl rfl (any_of HT_.out (by kernel_rfl)) (fun _ _ _ h => h) (Or.inl ⟨by rfl, ?_⟩) ?_ ?_
       rotate_left
       ·intro w'
        go_simp
        with_reducible rfl
       rotate_left
       ·simp only [Act.put, List.setIfInBounds_toArray, List.set_cons_zero, List.set_cons_succ, i64_w, i32_w]
        rfl
       refine take_ (i := 5) (N := some 33) (v := ?_) (a' := ?_) #[true, false, true, true, true, true, false, false, false, false, false, false] rfl rfl (take_ofW HT_.out HW_.out (by kernel_rfl)) (fun _ _ _ h => h) (Or.inl ⟨by rfl, ?_⟩) hHeld ?_ ?_
       rotate_left
       ·intro w' s0
        go_simp
        with_reducible rfl
       rotate_left
       ·simp only [Act.put, List.setIfInBounds_toArray, List.set_cons_zero, List.set_cons_succ, i64_w, i32_w]
        rfl
       refine one_ (i := 1) (N := some 29) #[true, true, true, true, true, true, false, false, false, false, false, false] rfl rfl (one_of HT_.out (by kernel_rfl)) (by decide) (fun K hK => ?_)
       refine goes_ Try.func38 (by kernel_rfl) rfl #[.slice A1 l1.length c1] (by rfl) rfl rfl agx ?_
       with_reducible refine (levylaw17_bits.calls k1 _ _ l1 t338 _ ?side1 ?side2 A7.out).mono ?_
       (case side1 => repeat (first | exact (Kd.C_below HR1.out HB.out) | (with_reducible refine Kd.C_alloc ?_ _) | (with_reducible refine Kd.C_drewN ?_ _) | (with_reducible refine Kd.C_drew ?_)))
       (case side2 => exact HC1.out)
       rintro e w19 ⟨v339, rfl, ho0, hb⟩
       refine ⟨_, rfl, ?_⟩
       have n0_ := Aside0.mk (Kd.R_lower ho0 (below_size blx))
       have n1_ := Aside0.mk (below_step blx hb)
       clear HB
       have HO340 := n0_
       have HB := n1_
       clear n0_ n1_
       (try clear hb)
       (try clear hb2)
       (try clear hk)
       (try clear hi)
       (try clear ho0)
       obtain ⟨Ao20, co20, eo20⟩ := Kd.R_slice HO340.out
       (first | subst eo20 | (injection eo20 with f1_ f2_ f3_; have f4_ := f1_.symm; have f5_ := f3_.symm; clear f1_ f2_ f3_; subst f4_; subst f5_))
       refine hK.out _ _ (((HB.out.cell (World.block_lt_of_cell? w _ hw341_0)).trans hw341_0)) (fun hHeld => ?_)
       clear hK K
       refine norm_ (a' := ?_) ?_ ?_
       rotate_left
       ·show Act.put _ (some 29) _ = _
        simp only [Act.put, List.setIfInBounds_toArray, List.set_cons_zero, List.set_cons_succ, i64_w, i32_w]
        rfl
       refine one_ (i := 6) (N := some 34) #[true, true, true, true, true, true, true, false, false, false, false, false] rfl rfl (one_of HT_.out (by kernel_rfl)) (by decide) (fun K hK => ?_)
       refine goes_ Try.func37 (by kernel_rfl) rfl #[.slice Ao20 t338.length co20, .int .i64 (rd l2 x7_1)] (by rfl) rfl rfl agx ?_
       with_reducible refine (levyref17_At.calls k1 _ _ t338 (rd l2 x7_1) t342 t343 _ ?side1 ?side2 A8.out).mono ?_
       (case side1 => repeat (first | exact (Kd.R_reads' HO340.out).2.2 | (with_reducible refine Kd.C_alloc ?_ _) | (with_reducible refine Kd.C_drewN ?_ _) | (with_reducible refine Kd.C_drew ?_)))
       (case side2 => exact (Kd.R_reads' HO340.out).2.1)
       rintro e w21 ⟨rfl, hb⟩
       refine ⟨_, rfl, ?_⟩
       have n0_ := Aside0.mk (Kd.R_below (by (with_reducible repeat (first | apply Kd.R_alloc | apply Kd.R_drewN | apply Kd.R_drew)); exact HO340.out) hb)
       have n1_ := Aside0.mk (below_step blx hb)
       clear HO340
       clear HB
       have HO340 := n0_
       have HB := n1_
       clear n0_ n1_
       (try clear hb)
       (try clear hb2)
       (try clear hk)
       (try clear hi)
       refine hK.out _ _ (((HB.out.cell (World.block_lt_of_cell? w _ hw341_0)).trans hw341_0)) (fun hHeld => ?_)
       clear hK K
       refine norm_ (a' := ?_) ?_ ?_
       rotate_left
       ·show Act.put _ (some 34) _ = _
        simp only [Act.put, List.setIfInBounds_toArray, List.set_cons_zero, List.set_cons_succ, i64_w, i32_w]
        rfl
       refine pure_ (i := 7) (N := some 27) (v := ?_) (a' := ?_) #[true, true, true, true, true, true, true, true, false, false, false, false] rfl rfl (any_of HT_.out (by kernel_rfl)) (fun _ _ _ h => h) (Or.inl ⟨by rfl, ?_⟩) ?_ ?_
       rotate_left
       ·intro w'
        go_simp
        with_reducible rfl
       rotate_left
       ·simp only [Act.put, List.setIfInBounds_toArray, List.set_cons_zero, List.set_cons_succ, i64_w, i32_w]
        rfl
       refine pure_ (i := 8) (N := some 35) (v := ?_) (a' := ?_) #[true, true, true, true, true, true, true, true, true, false, false, false] rfl rfl (any_of HT_.out (by kernel_rfl)) (fun _ _ _ h => h) (Or.inl ⟨by rfl, ?_⟩) ?_ ?_
       rotate_left
       ·intro w'
        go_simp
        with_reducible rfl
       rotate_left
       ·simp only [Act.put, List.setIfInBounds_toArray, List.set_cons_zero, List.set_cons_succ, i64_w, i32_w]
        rfl
       refine pure_ (i := 9) (N := some 36) (v := ?_) (a' := ?_) #[true, true, true, true, true, true, true, true, true, true, false, false] rfl rfl (any_of HT_.out (by kernel_rfl)) (fun _ _ _ h => h) (Or.inl ⟨by rfl, ?_⟩) ?_ ?_
       rotate_left
       ·intro w'
        go_simp
        with_reducible rfl
       rotate_left
       ·simp only [Act.put, List.setIfInBounds_toArray, List.set_cons_zero, List.set_cons_succ, i64_w, i32_w]
        rfl
       refine pure_ (i := 10) (N := some 10) (v := ?_) (a' := ?_) #[true, true, true, true, true, true, true, true, true, true, true, false] rfl rfl (any_of HT_.out (by kernel_rfl)) (fun _ _ _ h => h) (Or.inl ⟨by rfl, ?_⟩) ?_ ?_
       rotate_left
       ·intro w'
        go_simp
        with_reducible rfl
       rotate_left
       ·simp only [Act.put, List.setIfInBounds_toArray, List.set_cons_zero, List.set_cons_succ, i64_w, i32_w]
        rfl
       refine pure_ (i := 11) (N := some 11) (v := ?_) (a' := ?_) #[true, true, true, true, true, true, true, true, true, true, true, true] rfl rfl (any_of HT_.out (by kernel_rfl)) (fun _ _ _ h => h) (Or.inl ⟨by rfl, ?_⟩) ?_ ?_
       rotate_left
       ·intro w'
        go_simp
        with_reducible rfl
       rotate_left
       ·simp only [Act.put, List.setIfInBounds_toArray, List.set_cons_zero, List.set_cons_succ, i64_w, i32_w]
        rfl
       refine done_ (done_of HT_.out (by kernel_rfl)) ?_
       try go_wp2_with (first | (go_at_call 35; (with_reducible refine (levylaw17_near.calls t336 t342 false _ A10.out).mono ?_); rintro e w' ⟨rfl, ⟨nd, rfl⟩⟩))
       go_ret
       exact ⟨by first | rfl | (simp [errW_none, errW_some] <;> rfl) | (simp [*, errW_none, errW_some] <;> rfl), blx⟩
     ·rw [if_neg c9] at H
      have c9b0 : (t337 == t343) = false := beq_eq_false_iff_ne.mpr c9
      have c9b1 : (t337 != t343) = true := bne_iff_ne.mpr c9
      obtain rfl := Option.some.inj H
      have p335 : 0 ≤ (x7_1 : Int) := odx
      have q335 : x7_1 < (l2.length : Int) := odx
      obtain ⟨ad335, e335, hx335_0⟩ := Kd.at_int HR2.out x7_1 p335 q335
      cases e335
      replace hx335_0 := (HB.out.cell (World.block_lt_of_cell? w _ hx335_0)).trans hx335_0
      replace p335 := eq_true p335
      replace q335 := eq_true q335
      try go_wp2_with (first | ((with_reducible refine gate_callee (f := 31) rfl ?_); refine goesL_ (some 24) rfl rfl Try.func31 (by kernel_rfl) rfl #[.slice A0 l0.length c0, .int .i64 (rd l2 x7_1)] rfl agx ?_; (with_reducible refine (curve_At.calls k1 _ _ l0 (rd l2 x7_1) t336 t337 _ ?side1 ?side2 A6.out).mono ?_); (case side1 => repeat (first | exact (Kd.C_below HR0.out HB.out) | (with_reducible refine Kd.C_alloc ?_ _) | (with_reducible refine Kd.C_drewN ?_ _) | (with_reducible refine Kd.C_drew ?_))); (case side2 => exact HC0.out); rintro e w22 ⟨rfl, hb⟩; refine ⟨_, rfl, ?_⟩; have n0_ := Aside0.mk (below_step blx hb); clear HB; have HB := n0_; clear n0_; (try clear hb); (try clear hb2); (try clear hk); (try clear hi)))
      have n0_ := Aside0.mk (below_drew1 HB.out)
      clear HB
      have HB := n0_
      clear n0_
      have p341 : 0 ≤ (x7_1 : Int) := odx
      have q341 : x7_1 < (l2.length : Int) := odx
      obtain ⟨ad341, e341, hx341_0⟩ := Kd.at_int HR2.out x7_1 p341 q341
      have hw341_0 := hx341_0
      obtain rfl : ad335 = ad341 := (by injection e341)
      replace hx341_0 := (HB.out.cell (World.block_lt_of_cell? w _ hx341_0)).trans hx341_0
      replace p341 := eq_true p341
      replace q341 := eq_true q341
      refine start_ (n := 12) (S := fun w' => w'.cell? (ad335.add (x7_1).toNat) = some (.int .i64 (rd l2 x7_1))) (ds := []) #[false, false, false, false, false, false, false, false, false, false, false, false] (by kernel_rfl) rfl rfl (((HB.out.cell (World.block_lt_of_cell? w _ hw341_0)).trans hw341_0)) (fun hHeld => ?_); refine with_tabW levylaw17_ats.tab5 levylaw17_ats.bits5 (fun HT_ HW_ => ?_)
      generalize w22.drew = w23 at HB hx341_0 hHeld ⊢
      refine pure_ (i := 0) (N := some 28) (v := ?_) (a' := ?_) #[true, false, false, false, false, false, false, false, false, false, false, false] rfl rfl (any_of HT_.out (by kernel_rfl)) (fun _ _ _ h => h) (Or.inl ⟨by rfl, ?_⟩) ?_ ?_
      rotate_left
      ·intro w'
       go_simp
       with_reducible rfl
      rotate_left
      ·simp only [Act.put, List.setIfInBounds_toArray, List.set_cons_zero, List.set_cons_succ, i64_w, i32_w]
       rfl
      refine pure_ (i := 2) (N := some 30) (v := ?_) (a' := ?_) #[true, false, true, false, false, false, false, false, false, false, false, false] rfl rfl (any_of HT_.out (by kernel_rfl)) (fun _ _ _ h => h) (Or.inl ⟨by rfl, ?_⟩) ?_ ?_
      rotate_left
      ·intro w'
       go_simp
       with_reducible rfl
      rotate_left
      ·simp only [Act.put, List.setIfInBounds_toArray, List.set_cons_zero, List.set_cons_succ, i64_w, i32_w]
       rfl
      refine pure_ (i := 3) (N := some 31) (v := ?_) (a' := ?_) #[true, false, true, true, false, false, false, false, false, false, false, false] rfl rfl (any_of HT_.out (by kernel_rfl)) (fun _ _ _ h => h) (Or.inl ⟨by rfl, ?_⟩) ?_ ?_
      rotate_left
      ·intro w'
       go_simp
       with_reducible rfl
      rotate_left
      ·simp only [Act.put, List.setIfInBounds_toArray, List.set_cons_zero, List.set_cons_succ, i64_w, i32_w]
       rfl
      refine pure_ (i := 4) (N := some 32) (v := ?_) (a' := ?_) #[true, false, true, true, true, false, false, false, false, false, false, false] rfl rfl (any_of HT_.out (by kernel_rfl)) (fun _ _ _ h => h) (Or.inl ⟨by rfl, ?_⟩) ?_ ?_
      rotate_left
      ·intro w'
       go_simp
       with_reducible rfl
      rotate_left
      ·simp only [Act.put, List.setIfInBounds_toArray, List.set_cons_zero, List.set_cons_succ, i64_w, i32_w]
       rfl
      refine take_ (i := 5) (N := some 33) (v := ?_) (a' := ?_) #[true, false, true, true, true, true, false, false, false, false, false, false] rfl rfl (take_ofW HT_.out HW_.out (by kernel_rfl)) (fun _ _ _ h => h) (Or.inl ⟨by rfl, ?_⟩) hHeld ?_ ?_
      rotate_left
      ·intro w' s0
       go_simp
       with_reducible rfl
      rotate_left
      ·simp only [Act.put, List.setIfInBounds_toArray, List.set_cons_zero, List.set_cons_succ, i64_w, i32_w]
       rfl
      refine one_ (i := 1) (N := some 29) #[true, true, true, true, true, true, false, false, false, false, false, false] rfl rfl (one_of HT_.out (by kernel_rfl)) (by decide) (fun K hK => ?_)
      refine goes_ Try.func38 (by kernel_rfl) rfl #[.slice A1 l1.length c1] (by rfl) rfl rfl agx ?_
      with_reducible refine (levylaw17_bits.calls k1 _ _ l1 t338 _ ?side1 ?side2 A7.out).mono ?_
      (case side1 => repeat (first | exact (Kd.C_below HR1.out HB.out) | (with_reducible refine Kd.C_alloc ?_ _) | (with_reducible refine Kd.C_drewN ?_ _) | (with_reducible refine Kd.C_drew ?_)))
      (case side2 => exact HC1.out)
      rintro e w24 ⟨v339, rfl, ho0, hb⟩
      refine ⟨_, rfl, ?_⟩
      have n0_ := Aside0.mk (Kd.R_lower ho0 (below_size blx))
      have n1_ := Aside0.mk (below_step blx hb)
      clear HB
      have HO340 := n0_
      have HB := n1_
      clear n0_ n1_
      (try clear hb)
      (try clear hb2)
      (try clear hk)
      (try clear hi)
      (try clear ho0)
      obtain ⟨Ao25, co25, eo25⟩ := Kd.R_slice HO340.out
      (first | subst eo25 | (injection eo25 with f1_ f2_ f3_; have f4_ := f1_.symm; have f5_ := f3_.symm; clear f1_ f2_ f3_; subst f4_; subst f5_))
      refine hK.out _ _ (((HB.out.cell (World.block_lt_of_cell? w _ hw341_0)).trans hw341_0)) (fun hHeld => ?_)
      clear hK K
      refine norm_ (a' := ?_) ?_ ?_
      rotate_left
      ·show Act.put _ (some 29) _ = _
       simp only [Act.put, List.setIfInBounds_toArray, List.set_cons_zero, List.set_cons_succ, i64_w, i32_w]
       rfl
      refine one_ (i := 6) (N := some 34) #[true, true, true, true, true, true, true, false, false, false, false, false] rfl rfl (one_of HT_.out (by kernel_rfl)) (by decide) (fun K hK => ?_)
      refine goes_ Try.func37 (by kernel_rfl) rfl #[.slice Ao25 t338.length co25, .int .i64 (rd l2 x7_1)] (by rfl) rfl rfl agx ?_
      with_reducible refine (levyref17_At.calls k1 _ _ t338 (rd l2 x7_1) t342 t343 _ ?side1 ?side2 A8.out).mono ?_
      (case side1 => repeat (first | exact (Kd.R_reads' HO340.out).2.2 | (with_reducible refine Kd.C_alloc ?_ _) | (with_reducible refine Kd.C_drewN ?_ _) | (with_reducible refine Kd.C_drew ?_)))
      (case side2 => exact (Kd.R_reads' HO340.out).2.1)
      rintro e w26 ⟨rfl, hb⟩
      refine ⟨_, rfl, ?_⟩
      have n0_ := Aside0.mk (Kd.R_below (by (with_reducible repeat (first | apply Kd.R_alloc | apply Kd.R_drewN | apply Kd.R_drew)); exact HO340.out) hb)
      have n1_ := Aside0.mk (below_step blx hb)
      clear HO340
      clear HB
      have HO340 := n0_
      have HB := n1_
      clear n0_ n1_
      (try clear hb)
      (try clear hb2)
      (try clear hk)
      (try clear hi)
      refine hK.out _ _ (((HB.out.cell (World.block_lt_of_cell? w _ hw341_0)).trans hw341_0)) (fun hHeld => ?_)
      clear hK K
      refine norm_ (a' := ?_) ?_ ?_
      rotate_left
      ·show Act.put _ (some 34) _ = _
       simp only [Act.put, List.setIfInBounds_toArray, List.set_cons_zero, List.set_cons_succ, i64_w, i32_w]
       rfl
      refine pure_ (i := 7) (N := some 27) (v := ?_) (a' := ?_) #[true, true, true, true, true, true, true, true, false, false, false, false] rfl rfl (any_of HT_.out (by kernel_rfl)) (fun _ _ _ h => h) (Or.inl ⟨by rfl, ?_⟩) ?_ ?_
      rotate_left
      ·intro w'
       go_simp
       with_reducible rfl
      rotate_left
      ·simp only [Act.put, List.setIfInBounds_toArray, List.set_cons_zero, List.set_cons_succ, i64_w, i32_w]
       rfl
      refine pure_ (i := 8) (N := some 35) (v := ?_) (a' := ?_) #[true, true, true, true, true, true, true, true, true, false, false, false] rfl rfl (any_of HT_.out (by kernel_rfl)) (fun _ _ _ h => h) (Or.inl ⟨by rfl, ?_⟩) ?_ ?_
      rotate_left
      ·intro w'
       go_simp
       with_reducible rfl
      rotate_left
      ·simp only [Act.put, List.setIfInBounds_toArray, List.set_cons_zero, List.set_cons_succ, i64_w, i32_w]
       rfl
      refine pure_ (i := 9) (N := some 36) (v := ?_) (a' := ?_) #[true, true, true, true, true, true, true, true, true, true, false, false] rfl rfl (any_of HT_.out (by kernel_rfl)) (fun _ _ _ h => h) (Or.inl ⟨by rfl, ?_⟩) ?_ ?_
      rotate_left
      ·intro w'
       go_simp
       with_reducible rfl
      rotate_left
      ·simp only [Act.put, List.setIfInBounds_toArray, List.set_cons_zero, List.set_cons_succ, i64_w, i32_w]
       rfl
      refine pure_ (i := 10) (N := some 10) (v := ?_) (a' := ?_) #[true, true, true, true, true, true, true, true, true, true, true, false] rfl rfl (any_of HT_.out (by kernel_rfl)) (fun _ _ _ h => h) (Or.inl ⟨by rfl, ?_⟩) ?_ ?_
      rotate_left
      ·intro w'
       go_simp
       with_reducible rfl
      rotate_left
      ·simp only [Act.put, List.setIfInBounds_toArray, List.set_cons_zero, List.set_cons_succ, i64_w, i32_w]
       rfl
      refine pure_ (i := 11) (N := some 11) (v := ?_) (a' := ?_) #[true, true, true, true, true, true, true, true, true, true, true, true] rfl rfl (any_of HT_.out (by kernel_rfl)) (fun _ _ _ h => h) (Or.inl ⟨by rfl, ?_⟩) ?_ ?_
      rotate_left
      ·intro w'
       go_simp
       with_reducible rfl
      rotate_left
      ·simp only [Act.put, List.setIfInBounds_toArray, List.set_cons_zero, List.set_cons_succ, i64_w, i32_w]
       rfl
      refine done_ (done_of HT_.out (by kernel_rfl)) ?_
      try go_wp2
      go_ret
      exact ⟨by first | rfl | (simp [errW_none, errW_some] <;> rfl) | (simp [*, errW_none, errW_some] <;> rfl), blx⟩
    ·rw [if_neg c5] at H
     exact absurd H (by simp)
   ·rw [if_neg c4] at H
    have c4b0 : decide (x7_1 < (l2.length : Int)) = false := decide_eq_false c4
    clear c4
    obtain rfl := Option.some.inj H
    go_wp2
    go_ret
    exact ⟨by first | rfl | (simp [errW_none, errW_some] <;> rfl) | (simp [*, errW_none, errW_some] <;> rfl), blx⟩
end Go.Proofs.Ytfhgomcfpmbhnaa.PS
end

section
namespace Go.Proofs.Ytfhgomcfpmbhnaa.F
open Go.RowKit Go.Proofs.Ytfhgomcfpmbhnaa.Y Go.Proofs.Ytfhgomcfpmbhnaa.PS Ieee
open Go.Proofs.YtfhgomcfpmbhnaaW.PrintWords Go.Proofs.YtfhgomcfpmbhnaaW.PrintMore
set_option linter.unusedVariables false
set_option linter.unusedSimpArgs false
theorem at_past {l : List S73} (hg : Good l) (x : Int) (hx : ∀ j : Int, 0 ≤ j → j < l.length → (rd_T73 l j).f0 < x) : ∀ (n : Nat) (i : Int), 0 ≤ i → i + n = l.length → Ev (fun k => curve_At.l0 k (l.map dP) x (l.map dP) (l.length : Int) i) (0, 175) := by
  intro n
  have hlen := hg.1
  induction n with
  | zero =>
    intro i h0 hn
    refine Ev.step (f := fun _ => some (0, 175)) (fun k => ?_) (Ev.now _)
    rw [curve_At.l0, if_neg (by omega)]
  | succ n ih =>
    intro i h0 hn
    have hi := hx i h0 (by omega)
    refine Ev.step (fun k => ?_) (ih (i + 1) (by omega) (by omega))
    rw [curve_At.l0, if_pos (by omega), if_pos h0, if_pos (by rw [List.length_map]; omega), rd_P l i, show wrap64 (i + 1) = i + 1 by unfold wrap64; omega, if_neg (show ¬ (dP (rd_T73 l i)).f0 = x from Int.ne_of_lt hi), if_neg (show ¬ (dP (rd_T73 l i)).f0 > x from Int.not_lt.2 (Int.le_of_lt hi))]
theorem rising {l : List S73} (ho : InOrd l l.length) : ∀ (n : Nat) (i : Int), 0 ≤ i → i + n < l.length → (rd_T73 l i).f0 ≤ (rd_T73 l (i + n)).f0 := by
  intro n
  induction n with
  | zero => intro i _ _; rw [show i + ((0 : Nat) : Int) = i by omega]; exact Int.le_refl _
  | succ n ih =>
    intro i h0 h1
    have a := ih i h0 (by omega)
    have b := (ho (i + ((n + 1 : Nat) : Int)) (by omega) (by omega)).2.2.2 (by omega)
    rw [show i + ((n + 1 : Nat) : Int) - 1 = i + n by omega] at b
    omega
theorem at_is {l : List S73} (hg : Good l) (x : Int) : ∃ t e, Ev (fun k => curve_At.f k (l.map dP) x) (t, e) ∧ Ev (fun k => levyref17_At.f k (l.map dB) x) ((t : Int), e) ∧ isNum t := by
  obtain ⟨b, b1, b2, b3⟩ := ordered_is hg
  have hlen := hg.1
  cases b with
  | false =>
    refine ⟨0, 172, ?_, ?_, zero_num⟩
    · exact Ev.bind (f := fun k t280 => if t280 = true then curve_At.l0 k (l.map dP) x (l.map dP) ((l.map dP).length : Int) 0 else some (0, 172)) b1 (Ev.now _)
    · refine Ev.bind (f := fun k t146 => _) b2 ?_
      simp only [Bool.false_eq_true, if_false]
      exact Ev.now _
  | true =>
    have ho := b3 rfl
    have p : ∀ t e, Ev (fun k => curve_At.l0 k (l.map dP) x (l.map dP) (l.length : Int) 0) (t, e) → Ev (fun k => curve_At.f k (l.map dP) x) (t, e) := by
      intro t e h
      refine Ev.bind (f := fun k t280 => if t280 = true then curve_At.l0 k (l.map dP) x (l.map dP) ((l.map dP).length : Int) 0 else some (0, 172)) b1 ?_
      rw [List.length_map]
      exact h
    have q : ∀ (t e : Int), Ev (fun k => if (l.length : Int) = 0 then levyref17_At.j0 k (l.map dB) x true else (if 0 < (l.length : Int) then (if x < (rd_T73 l 0).f0 then levyref17_At.j0 k (l.map dB) x true else (if 0 ≤ wrap64 ((l.length : Int) - 1) then (if wrap64 ((l.length : Int) - 1) < (l.length : Int) then levyref17_At.j0 k (l.map dB) x (decide (x > (rd_T73 l (wrap64 ((l.length : Int) - 1))).f0)) else none) else none)) else none)) (t, e) → Ev (fun k => levyref17_At.f k (l.map dB) x) (t, e) := by
      intro t e h
      refine Ev.bind (f := fun k t146 => _) b2 ?_
      simp only [if_true, List.length_map, rd_B]
      exact h
    have j : ∀ k, levyref17_At.j0 (k + 1) (l.map dB) x true = some (0, 175) := fun k => by rw [levyref17_At.j0, if_pos rfl]
    have jf : ∀ k, levyref17_At.j0 (k + 1) (l.map dB) x false = levyref17_At.l0 k (l.map dB) x 0 := fun k => by rw [levyref17_At.j0, if_neg (by decide)]
    by_cases h0 : (l.length : Int) = 0
    · refine ⟨0, 175, p _ _ (at_past hg x (fun j h1 h2 => by omega) 0 0 (by omega) (by omega)), q _ _ ?_, zero_num⟩
      simp only [if_pos h0]
      exact Ev.step (f := fun _ => some (0, 175)) j (Ev.now _)
    · by_cases h1 : x < (rd_T73 l 0).f0
      · refine ⟨0, 175, p _ _ (Ev.step (f := fun _ => some (0, 175)) (fun k => ?_) (Ev.now _)), q _ _ ?_, zero_num⟩
        · rw [curve_At.l0, if_pos (by omega), if_pos (by omega), if_pos (by rw [List.length_map]; omega), rd_P l 0, if_neg (show ¬ (dP (rd_T73 l 0)).f0 = x from Int.ne_of_gt h1), if_pos (show (dP (rd_T73 l 0)).f0 > x from h1), if_pos rfl]
        · simp only [if_neg h0, if_pos h1, if_pos (show 0 < (l.length : Int) by omega)]
          exact Ev.step (f := fun _ => some (0, 175)) j (Ev.now _)
      · have hw : wrap64 ((l.length : Int) - 1) = (l.length : Int) - 1 := by unfold wrap64; omega
        by_cases h2 : x > (rd_T73 l ((l.length : Int) - 1)).f0
        · refine ⟨0, 175, p _ _ (at_past hg x (fun j h3 h4 => ?_) l.length 0 (by omega) (by omega)), q _ _ ?_, zero_num⟩
          · have := rising ho ((l.length : Int) - 1 - j).toNat j h3 (by omega)
            rw [show j + (((l.length : Int) - 1 - j).toNat : Int) = (l.length : Int) - 1 by omega] at this
            omega
          · simp only [if_neg h0, if_neg h1, if_pos (show 0 < (l.length : Int) by omega), hw, if_pos (show 0 ≤ (l.length : Int) - 1 by omega), if_pos (show (l.length : Int) - 1 < l.length by omega), decide_eq_true h2]
            exact Ev.step (f := fun _ => some (0, 175)) j (Ev.now _)
        · obtain ⟨t, e, e1, e2, e3⟩ := at_loop hg ho x (by omega) (by omega) l.length 0 (by omega) (by omega) (by omega) (fun h => absurd h (by decide))
          refine ⟨t, e, p _ _ e1, q _ _ ?_, e3⟩
          simp only [if_neg h0, if_neg h1, if_pos (show 0 < (l.length : Int) by omega), hw, if_pos (show 0 ≤ (l.length : Int) - 1 by omega), if_pos (show (l.length : Int) - 1 < l.length by omega), decide_eq_false h2]
          exact Ev.step jf e2
theorem bits_from (l : List S73) (hl : l.length < 8796093022208) : ∀ (n : Nat) (i : Nat), i + n = l.length → Ev (fun k => levylaw17_bits.l0 k l ((l.take i).map dB) (i : Int)) (l.map dB) := by
  intro n
  induction n with
  | zero =>
    intro i hi
    refine Ev.step (f := fun _ => some (l.map dB)) (fun k => ?_) (Ev.now _)
    rw [levylaw17_bits.l0, if_neg (by omega), List.take_of_length_le (by omega)]
  | succ n ih =>
    intro i hi
    refine Ev.step (fun k => ?_) (ih (i + 1) (by omega))
    have hlt : i < l.length := by omega
    have e1 : (l.take (i + 1)).map dB = (l.take i).map dB ++ [(⟨(rd_T73 l (i : Int)).f0, (rd_T73 l (i : Int)).f1⟩ : S38)] := by
      rw [List.take_add_one, List.map_append]
      unfold rd_T73
      rw [List.getD_eq_getElem?_getD, Int.toNat_natCast, List.getElem?_eq_getElem hlt]
      rfl
    rw [levylaw17_bits.l0, if_pos (by omega), if_pos (by omega), if_pos (by rw [List.length_map, List.length_take]; omega), e1, show wrap64 ((i : Int) + 1) = ((i + 1 : Nat) : Int) by unfold wrap64; omega]
theorem bits_is (l : List S73) (hl : l.length < 8796093022208) : Ev (fun k => levylaw17_bits.f k l) (l.map dB) := bits_from l hl l.length 0 (by omega)
theorem ats_is {l : List S73} (hg : Good l) (hl : l.length < 8796093022208) (xs : List Int) (hxs : xs.length < 4611686018427387904) : Ev (fun k => levylaw17_ats.f k (l.map dP) l xs) true := by
  have go : ∀ (n : Nat) (i : Int), 0 ≤ i → i + n = xs.length → Ev (fun k => levylaw17_ats.l0 k (l.map dP) l xs i) true := by
    intro n
    induction n with
    | zero =>
      intro i h0 hn
      refine Ev.step (f := fun _ => some true) (fun k => ?_) (Ev.now _)
      rw [levylaw17_ats.l0, if_neg (by omega)]
    | succ n ih =>
      intro i h0 hn
      obtain ⟨t, e, e1, e2, e3⟩ := at_is hg (rd xs i)
      have s : ∀ k, levylaw17_ats.l0 (k + 1) (l.map dP) l xs i = ((curve_At.f k (l.map dP) (rd xs i)).bind fun bt336 => ((levylaw17_bits.f k l).bind fun t338 => ((levyref17_At.f k t338 (rd xs i)).bind fun bt342 => (if bt336.2 = bt342.2 then ((levylaw17_near.f bt336.1 bt342.1).bind fun t344 => (if t344 = true then (levylaw17_ats.l0 k (l.map dP) l xs (i + 1)) else (some false))) else (some false))))) := by
        intro k
        rw [levylaw17_ats.l0, if_pos (by omega), if_pos h0, show wrap64 (i + 1) = i + 1 by unfold wrap64; omega]
      refine Ev.step s ?_
      refine Ev.bind (f := fun k bt336 => _) e1 ?_
      refine Ev.bind (f := fun k t338 => _) (bits_is l hl) ?_
      refine Ev.bind (f := fun k bt342 => _) e2 ?_
      have hn := near_same t e3
      simp only [if_true, hn, Option.bind_some]
      exact ih (i + 1) (by omega) (by omega)
  exact go xs.length 0 (by omega) (by omega)
end Go.Proofs.Ytfhgomcfpmbhnaa.F
end

section
namespace Go.Proofs.Ytfhgomcfpmbhnaa.Y
open Go.RowKit Go.Proofs.Ytfhgomcfpmbhnaa.PS Go.Proofs.Ytfhgomcfpmbhnaa.F Go.Proofs.YtfhgomcfpmbhnaaW.PrintWords Go.Proofs.YtfhgomcfpmbhnaaW.PrintMore Go.Proofs.YtfhgomcfpmbhnaaW.Fits
set_option linter.unusedVariables false
set_option maxRecDepth 100000
theorem turned_calls (A : Option Addr) (c1 : Nat) (g cap : Nat) (l : List S73) (w : World) (hr : Kd.C k73 w A l.length l) (hc : l.length ≤ c1) (hcap : l.length + 2 ≤ cap) (hlen : l.length * 16 ≤ 140737488355328) (hg : g < w.heap.size) (hin : InRow w g (l.map dP)) :
    Calls Try.prog 19 #[.slice (some ⟨g, 0, none⟩) l.length cap, .slice A l.length c1] w fun e w' => ∃ A' c', e = .returned (.slice A' (turnedL l).length c') ∧ (turnedL l).length ≤ c' ∧ Kd.C k73 w' A' (turnedL l).length (turnedL l) ∧ w.grownBy w' (some g) ∧ InRow w' g ((turnedL l).map dP) := by
  by_cases h0 : l.length = 0
  · exact (turned_nil (.bool true) A c1 g cap l w h0 hr hc hg).mono fun e w' ⟨A', c', h1, h2, h3, h4, h5⟩ => ⟨A', c', h1, h2, h3, h4, h5 hin⟩
  · exact turned_pos A c1 g cap l w (by omega) hr hc hcap hlen hg hin
theorem good_turned {l : List S73} (h : F.Good l) : F.Good (turnedL l) := by
  refine ⟨by rw [turnedL_len]; exact h.1, ?_⟩
  have hz : ∀ i, (0 ≤ (l.getD i z73).f1 ∧ (l.getD i z73).f1 < 4294967296) ∧ -9223372036854775808 ≤ (l.getD i z73).f0 ∧ (l.getD i z73).f0 ≤ 9223372036854775807 := fun i => by
    rw [List.getD_eq_getElem?_getD]
    by_cases hi : i < l.length
    · rw [List.getElem?_eq_getElem hi]
      exact h.2 _ (List.getElem_mem hi)
    · rw [List.getElem?_eq_none (by omega)]
      show (0 ≤ (0 : Int) ∧ (0 : Int) < 4294967296) ∧ -9223372036854775808 ≤ (0 : Int) ∧ (0 : Int) ≤ 9223372036854775807
      omega
  have step : ∀ (m : List S73) (i : Nat) (y : Int), (∀ d ∈ m, (0 ≤ d.f1 ∧ d.f1 < 4294967296) ∧ -9223372036854775808 ≤ d.f0 ∧ d.f0 ≤ 9223372036854775807) → 0 ≤ y → y < 4294967296 → ∀ d ∈ setY m i y, (0 ≤ d.f1 ∧ d.f1 < 4294967296) ∧ -9223372036854775808 ≤ d.f0 ∧ d.f0 ≤ 9223372036854775807 := by
    intro m i y hm y0 y1 d hd
    unfold setY at hd
    rcases List.mem_or_eq_of_mem_set hd with hd | rfl
    · exact hm d hd
    · refine ⟨⟨y0, y1⟩, ?_⟩
      rw [List.getD_eq_getElem?_getD]
      by_cases hi : i < m.length
      · rw [List.getElem?_eq_getElem hi]
        exact (hm _ (List.getElem_mem hi)).2
      · rw [List.getElem?_eq_none (by omega)]
        show -9223372036854775808 ≤ (0 : Int) ∧ (0 : Int) ≤ 9223372036854775807
        omega
  unfold turnedL
  split
  · exact h.2
  · exact step _ _ _ (step _ _ _ h.2 (by omega) (by omega)) (by omega) (by omega)
theorem C_cells {α : Type} {d : Kd α} (hd : ∀ {W W' : World} {x : α} {cs : List Value}, d.K W x cs → d.K W' x cs) {w w' : World} {A : Option Addr} {n : Nat} {l : List α} (h : d.C w A n l) (hk : ∀ a v, w.cell? a = some v → a.block < w.heap.size → w'.cell? a = some v) : d.C w' A n l := by
  refine ⟨h.1, h.2.1, fun hp => ?_⟩
  obtain ⟨ad, e, hc⟩ := h.2.2 hp
  refine ⟨ad, e, fun j p hj => ?_⟩
  obtain ⟨c, hcl, hK, hcc⟩ := hc j p hj
  exact ⟨c, hcl, hd hK, fun i u hu => hk _ _ (hcc i u hu) (World.block_lt_of_cell? w _ (hcc i u hu))⟩
def TrueBelow (w : World) (e : Ending) (w' : World) : Prop := e = .returned (.bool true) ∧ Below w.heap.size w w'
theorem ats_one (g c c0 c2 m n : Nat) (A A2 : Option Addr) (l : List S73) (xs : List Int) (w : World) (hm : l.length = m) (hn : l.length = n) (hin : InRow w g (l.map dP)) (hmax : m ≤ c) (hr : Kd.C k73 w A n l) (hc : n ≤ c0) (hr2 : Kd.C (Kd.int .i64) w A2 xs.length xs) (hc2 : xs.length ≤ c2) (hlen : n + 2 ≤ 8796093022208) (hxs : xs.length < 4611686018427387904) (hg : F.Good l) :
    Calls Try.prog 17 #[.slice (some ⟨g, 0, none⟩) m c, .slice A n c0, .slice A2 xs.length c2] w fun e w' => e = .returned (.bool true) ∧ Below w.heap.size w w' := by
  subst hm
  subst hn
  obtain ⟨k, hk⟩ := (F.ats_is hg (by omega) xs hxs).rounds
  have h := levylaw17_ats.calls k (some ⟨g, 0, none⟩) c (l.map dP) A c0 l A2 c2 xs true w (hin.C (by rw [List.length_map]; omega)) (by rw [List.length_map]; exact hmax) hr hc hr2 hc2 hk
  rw [List.length_map] at h
  exact h
theorem int_K {W W' : World} {x : Int} {cs : List Value} (h : (Kd.int .i64).K W x cs) : (Kd.int .i64).K W' x cs := h
theorem k73_K {W W' : World} {x : S73} {cs : List Value} (h : k73.K W x cs) : k73.K W' x cs := by
  rw [k73_open h]
  exact k73_mk W' x
theorem C_old {α : Type} {d : Kd α} (hd : ∀ {W W' : World} {x : α} {cs : List Value}, d.K W x cs → d.K W' x cs) {w w' : World} {A : Option Addr} {n : Nat} {l : List α} (h : d.C w A n l) (hk : ∀ i, i < w.heap.size → w'.heap[i]? = w.heap[i]?) : d.C w' A n l :=
  C_cells hd h fun a v hv hlt => (World.cell?_of_block (hk _ hlt)).trans hv
set_option maxHeartbeats 4000000 in
theorem ats_calls (A : Option Addr) (c0 : Nat) (l : List S73) (A2 : Option Addr) (c2 : Nat) (xs : List Int) (w : World) (hr : Kd.C k73 w A l.length l) (hc : l.length ≤ c0) (hr2 : Kd.C (Kd.int .i64) w A2 xs.length xs) (hc2 : xs.length ≤ c2) (hlen : l.length + 2 ≤ 8796093022208) (hxs : xs.length < 4611686018427387904) (hg : F.Good l) :
    Calls Try.prog 5 #[.slice A l.length c0, .slice A2 xs.length c2] w (TrueBelow w) := by
  have HR := Aside0.mk hr
  have HR2 := Aside0.mk hr2
  have HG := Aside0.mk hg
  have HL := Aside0.mk hlen
  have HC := Aside0.mk hc
  have HC2 := Aside0.mk hc2
  have HX := Aside0.mk hxs
  clear hr hr2 hg hlen hc hc2 hxs
  go_enter Try.func5, Try.ntmps5
  go_wp2_with fail
  go_at_call 16
  with_reducible refine (points_calls A c0 l w HR.out HC.out HL.out).mono ?_
  rintro e w1 ⟨rfl, hown, hb⟩
  have HI := Aside0.mk (InRow.of_own hown)
  have HB := Aside0.mk hb
  have HLT := Aside0.mk (show w.heap.size < w1.heap.size from (hown.lt w.heap.size (by simp [Value.ownBlock])).2)
  clear hown hb
  have HRa := Aside0.mk (C_old k73_K HR.out (fun i hi => HB.out.block i hi))
  have HR2a := Aside0.mk (C_old int_K HR2.out (fun i hi => HB.out.block i hi))
  go_wp2_with fail
  go_at_call 17
  with_reducible refine (ats_one w.heap.size (l.length + 2) c0 c2 l.length l.length A A2 l xs w1 rfl rfl HI.out (Nat.le_add_right _ _) HRa.out HC.out HR2a.out HC2.out HL.out HX.out HG.out).mono ?_
  rintro e w2 ⟨rfl, hb⟩
  have HB2 := Aside0.mk hb
  have HIb := Aside0.mk (HI.out.keep (hb.block _ HLT.out))
  have HRb := Aside0.mk (C_old k73_K HRa.out (fun i hi => hb.block i hi))
  have HR2b := Aside0.mk (C_old int_K HR2a.out (fun i hi => hb.block i hi))
  clear hb
  go_wp2_with fail
  go_at_call 18
  with_reducible refine (kept_calls w.heap.size (l.length + 2) l A c0 w2 HIb.out (Nat.le_refl _) HRb.out HC.out (by have := HL.out; omega) HG.out).mono ?_
  rintro e w3 ⟨rfl, ⟨⟨nd, rfl⟩⟩⟩
  go_wp2_with fail
  go_at_call 19
  have HLT3 : w.heap.size < (w2.drewN nd).heap.size := Nat.lt_of_lt_of_le HLT.out HB2.out.size
  have HIc0 : InRow (w2.drewN nd) w.heap.size (l.map dP) := HIb.out.keep rfl
  with_reducible refine (turned_calls A c0 w.heap.size (l.length + 2) l (w2.drewN nd) (Kd.C_drewN HRb.out nd) HC.out (Nat.le_refl _) (by have := HL.out; omega) HLT3 HIc0).mono ?_
  rintro e w4 ⟨A', c', rfl, hc', hC', hkb, hin'⟩
  have HC' := Aside0.mk hc'
  have HRc := Aside0.mk hC'
  have HKB := Aside0.mk hkb
  have HIc := Aside0.mk hin'
  have HLT2 := Aside0.mk (show w.heap.size ≤ (w2.drewN nd).heap.size from Nat.le_of_lt (Nat.lt_of_lt_of_le HLT.out HB2.out.size))
  clear hc' hC' hkb hin' HLT3 HIc0
  have hOld : ∀ i, i < w.heap.size → w4.heap[i]? = w.heap[i]? := fun i hi => (HKB.out.block i (Nat.lt_of_lt_of_le hi (HLT2.out)) (fun e => by have := Option.some.inj e; omega)).trans ((HB2.out.block i (Nat.lt_trans hi HLT.out)).trans (HB.out.block i hi))
  have HO := Aside0.mk hOld
  clear hOld
  have HR2c := Aside0.mk (C_old int_K HR2.out HO.out)
  go_wp2_with fail
  go_at_call 17
  with_reducible refine (ats_one w.heap.size (l.length + 2) c' c2 l.length (turnedL l).length A' A2 (turnedL l) xs w4 (turnedL_len l) rfl HIc.out (Nat.le_add_right _ _) HRc.out HC'.out HR2c.out HC2.out (by rw [turnedL_len]; exact HL.out) HX.out (good_turned HG.out)).mono ?_
  rintro e w5 ⟨rfl, hb5⟩
  have HB5 := Aside0.mk hb5
  clear hb5
  go_wp2_with fail
  go_ret
  refine ⟨rfl, ?_⟩
  have hk5 := HKB.out.size
  exact below_then (w1 := w4) ⟨HKB.out.os.trans (HB2.out.os.trans HB.out.os), HKB.out.tape.trans (HB2.out.tape.trans HB.out.tape), HKB.out.output.trans (HB2.out.output.trans HB.out.output), Nat.le_trans HLT2.out hk5, HO.out⟩ (Nat.le_trans HLT2.out hk5) HB5.out
theorem good_ok (l : List S73) (hl : l.length < 4611686018427387904) (h : ∀ x ∈ l, (Lit.int .i64 x.f0).wf = true ∧ (Lit.int .u32 x.f1).wf = true) : F.Good l := by
  refine ⟨hl, fun d hd => ?_⟩
  obtain ⟨h0, h1⟩ := h d hd
  have a : IntKind.i64.min ≤ d.f0 ∧ d.f0 ≤ IntKind.i64.max := by simpa [Lit.wf] using h0
  have b : IntKind.u32.min ≤ d.f1 ∧ d.f1 ≤ IntKind.u32.max := by simpa [Lit.wf] using h1
  exact ⟨⟨b.1, Int.lt_of_le_of_lt b.2 (by decide)⟩, a.1, a.2⟩
end Go.Proofs.Ytfhgomcfpmbhnaa.Y
end

-- Part 5 of the texts of the claim CS (wrote by programs: words of the kit's print.sh, printed functions; and my own texts; joined by wip/tools/pack.py).
import Derived.Test.YtfhgomcfpmbhnaaCS4
import Derived.Laws.AppendOwn

section
namespace Go.Proofs.Ytfhgomcfpmbhnaa.Y
open Go.RowKit Go.Proofs.Ytfhgomcfpmbhnaa.PS Go.Proofs.Ytfhgomcfpmbhnaa.F Go.Proofs.YtfhgomcfpmbhnaaW.PrintWords Go.Proofs.YtfhgomcfpmbhnaaW.PrintMore Go.Proofs.YtfhgomcfpmbhnaaW.Fits
attribute [local go_sem] frun_store frun_bits frun_from
set_option linter.unusedVariables false
set_option maxRecDepth 100000
def two {α : Type} (f1 f2 : α → Value) (l : List α) : List Value := l.flatMap fun x => [f1 x, f2 x]
theorem two_len {α : Type} (f1 f2 : α → Value) (l : List α) : (two f1 f2 l).length = l.length * 2 := by
  unfold two
  induction l with
  | nil => rfl
  | cons d t ih => rw [List.flatMap_cons, List.length_append, ih]; simp; omega
theorem two_at {α : Type} (f1 f2 : α → Value) : ∀ (l : List α) (j : Nat), (two f1 f2 l)[j * 2]? = l[j]?.map f1 ∧ (two f1 f2 l)[j * 2 + 1]? = l[j]?.map f2
  | [], j => by simp [two]
  | x :: t, 0 => by simp [two]
  | x :: t, j + 1 => by
    have ih := two_at f1 f2 t j
    have e : two f1 f2 (x :: t) = f1 x :: f2 x :: two f1 f2 t := rfl
    rw [e, show (j + 1) * 2 = j * 2 + 1 + 1 by omega, show (j * 2 + 1 + 1 + 1) = (j * 2 + 1) + 1 + 1 by omega]
    simp only [List.getElem?_cons_succ]
    exact ih
def pntv (l : List S58) : List Value := two (fun d => .int .i64 d.f0) (fun d => .float .f32 d.f1) l
theorem C_pnt {w : World} {g n : Nat} {l : List S58} (hn : n = l.length) (hmax : n ≤ 9223372036854775807) (h : ∀ j u, (pntv l)[j]? = some u → w.cell? ⟨g, j, none⟩ = some u) : Kd.C k58 w (some ⟨g, 0, none⟩) n l := by
  subst hn
  refine ⟨rfl, hmax, fun _ => ⟨_, rfl, fun j p hj => ?_⟩⟩
  refine ⟨_, rfl, k58_mk w p, fun i u hu => ?_⟩
  rw [add_at]
  refine h _ u ?_
  obtain ⟨h0, h1⟩ := two_at (fun d : S58 => .int .i64 d.f0) (fun d => .float .f32 d.f1) l j
  rw [hj] at h0 h1
  unfold pntv
  match i, hu with
  | 0, hu => rw [show 0 + (j * k58.sz + 0) = j * 2 by show 0 + (j * 2 + 0) = _; omega, h0]; exact hu
  | 1, hu => rw [show 0 + (j * k58.sz + 1) = j * 2 + 1 by show 0 + (j * 2 + 1) = _; omega, h1]; exact hu
  | i + 2, hu => simp at hu
structure InRow (w : World) (g : Nat) (l : List S58) : Prop where
  cell : ∀ j u, (pntv l)[j]? = some u → w.cell? ⟨g, j, none⟩ = some u
  m0 : w.cell? ⟨g, l.length * 2, none⟩ = some (.int .i64 (-7701))
  m1 : w.cell? ⟨g, (l.length + 1) * 2, none⟩ = some (.int .i64 (-7702))
  fr : ∀ j, w.frozen? ⟨g, j, none⟩ = false
theorem InRow.keep {w w' : World} {g : Nat} {l : List S58} (h : InRow w g l) (hb : w'.heap[g]? = w.heap[g]?) : InRow w' g l :=
  ⟨fun j u hu => (World.cell?_of_block (a := ⟨g, j, none⟩) hb).trans (h.cell j u hu), (World.cell?_of_block (a := ⟨g, _, none⟩) hb).trans h.m0, (World.cell?_of_block (a := ⟨g, _, none⟩) hb).trans h.m1, fun j => (World.frozen?_of_block (a := ⟨g, j, none⟩) hb).trans (h.fr j)⟩
theorem InRow.C {w : World} {g : Nat} {l : List S58} (h : InRow w g l) (hmax : l.length ≤ 9223372036854775807) : Kd.C k58 w (some ⟨g, 0, none⟩) l.length l := C_pnt rfl hmax h.cell
def setY (l : List S73) (i : Nat) (y : Int) : List S73 := l.set i ⟨(l.getD i z73).f0, y⟩
theorem setY_len (l : List S73) (i : Nat) (y : Int) : (setY l i y).length = l.length := by simp [setY]
theorem two_set {α : Type} (f1 f2 : α → Value) : ∀ (l : List α) (i : Nat) (x y : α), l[i]? = some x → f1 y = f1 x → (two f1 f2 l).set (i * 2 + 1) (f2 y) = two f1 f2 (l.set i y)
  | [], i, x, y, h, _ => by simp at h
  | z :: t, 0, x, y, h, e => by
    obtain rfl : z = x := by simpa using h
    simp [two, e]
  | z :: t, i + 1, x, y, h, e => by
    have ih := two_set f1 f2 t i x y (by simpa using h) e
    have e1 : two f1 f2 (z :: t) = f1 z :: f2 z :: two f1 f2 t := rfl
    have e2 : two f1 f2 ((z :: t).set (i + 1) y) = f1 z :: f2 z :: two f1 f2 (t.set i y) := rfl
    rw [e1, e2, show (i + 1) * 2 + 1 = (i * 2 + 1) + 1 + 1 by omega, List.set_cons_succ, List.set_cons_succ, ih]
theorem pntv_set (l : List S73) (i : Nat) (y : Nat) (hi : i < l.length) : (pntv (l.map dP)).set (i * 2 + 1) (.float .f32 y) = pntv ((setY l i y).map dP) := by
  unfold pntv setY
  rw [List.getD_eq_getElem?_getD, List.getElem?_eq_getElem hi, List.map_set]
  exact two_set (fun d : S58 => .int .i64 d.f0) (fun d => .float .f32 d.f1) (l.map dP) i (dP l[i]) (dP ⟨l[i].f0, y⟩) (by rw [List.getElem?_map, List.getElem?_eq_getElem hi]; rfl) rfl
theorem InRow.set {w : World} {g : Nat} {l : List S73} (h : InRow w g (l.map dP)) (i : Nat) (y : Nat) (hi : i < l.length) : InRow (w.setCell ⟨g, i * 2 + 1, none⟩ (.float .f32 y)) g ((setY l i y).map dP) := by
  have hlt : i * 2 + 1 < (pntv (l.map dP)).length := by unfold pntv; rw [two_len, List.length_map]; omega
  have hother : ∀ j, j ≠ i * 2 + 1 → (w.setCell ⟨g, i * 2 + 1, none⟩ (.float .f32 y)).cell? ⟨g, j, none⟩ = w.cell? ⟨g, j, none⟩ := fun j hj => World.cell?_setCell_other w _ _ _ (fun e => hj (by injection e with _ e2 _; exact e2.symm))
  have hm0 := h.m0
  have hm1 := h.m1
  rw [List.length_map] at hm0 hm1
  refine ⟨fun j u hu => ?_, ?_, ?_, fun j => ?_⟩
  · rw [← pntv_set l i y hi] at hu
    by_cases hj : j = i * 2 + 1
    · subst hj
      rw [List.getElem?_set_self hlt] at hu
      obtain rfl := Option.some.inj hu
      exact World.cell?_setCell_same w _ _ (h.cell _ _ (List.getElem?_eq_getElem hlt))
    · rw [List.getElem?_set_ne (fun e => hj e.symm)] at hu
      rw [hother j hj]
      exact h.cell j u hu
  · rw [List.length_map, setY_len, hother _ (by omega)]; exact hm0
  · rw [List.length_map, setY_len, hother _ (by omega)]; exact hm1
  · rw [World.frozen?_setCell]; exact h.fr j
end Go.Proofs.Ytfhgomcfpmbhnaa.Y
end

section
namespace Go.Proofs.Ytfhgomcfpmbhnaa.F
open Go.RowKit Go.Proofs.Ytfhgomcfpmbhnaa.Y Go.Proofs.Ytfhgomcfpmbhnaa.PS Ieee
open Go.Proofs.YtfhgomcfpmbhnaaW.PrintWords Go.Proofs.YtfhgomcfpmbhnaaW.PrintMore
set_option linter.unusedVariables false
set_option linter.unusedSimpArgs false
theorem bits_from (l : List S73) (hl : l.length < 8796093022208) : ∀ (n : Nat) (i : Nat), i + n = l.length → Ev (fun k => levylaw17_bits.l0 k l ((l.take i).map dB) (i : Int)) (l.map dB) := by
  intro n
  induction n with
  | zero =>
    intro i hi
    refine Ev.step (f := fun _ => some (l.map dB)) (fun k => ?_) (Ev.now _)
    rw [levylaw17_bits.l0, if_neg (by omega), List.take_of_length_le (by omega)]
  | succ n ih =>
    intro i hi
    refine Ev.step (fun k => ?_) (ih (i + 1) (by omega))
    have hlt : i < l.length := by omega
    have e1 : (l.take (i + 1)).map dB = (l.take i).map dB ++ [(⟨(rd_T73 l (i : Int)).f0, (rd_T73 l (i : Int)).f1⟩ : S38)] := by
      rw [List.take_add_one, List.map_append]
      unfold rd_T73
      rw [List.getD_eq_getElem?_getD, Int.toNat_natCast, List.getElem?_eq_getElem hlt]
      rfl
    rw [levylaw17_bits.l0, if_pos (by omega), if_pos (by omega), if_pos (by rw [List.length_map, List.length_take]; omega), e1, show wrap64 ((i : Int) + 1) = ((i + 1 : Nat) : Int) by unfold wrap64; omega]
end Go.Proofs.Ytfhgomcfpmbhnaa.F
end

section
namespace Go.Proofs.Ytfhgomcfpmbhnaa.Y
open Go.RowKit Go.Proofs.Ytfhgomcfpmbhnaa.PS Go.Proofs.Ytfhgomcfpmbhnaa.F Go.Proofs.YtfhgomcfpmbhnaaW.PrintWords Go.Proofs.YtfhgomcfpmbhnaaW.PrintMore Go.Proofs.YtfhgomcfpmbhnaaW.Fits
set_option linter.unusedVariables false
set_option maxRecDepth 100000
def TrueBelow (w : World) (e : Ending) (w' : World) : Prop := e = .returned (.bool true) ∧ Below w.heap.size w w'
end Go.Proofs.Ytfhgomcfpmbhnaa.Y
end

section
namespace Go.Proofs.Ytfhgomcfpmbhnaa.F
open Go.RowKit Go.Proofs.Ytfhgomcfpmbhnaa.Y Go.Proofs.Ytfhgomcfpmbhnaa.PS Ieee
open Go.Proofs.YtfhgomcfpmbhnaaW.PrintWords Go.Proofs.YtfhgomcfpmbhnaaW.PrintMore
set_option linter.unusedVariables false
set_option linter.unusedSimpArgs false
theorem whole_fin (n : Int) (h0 : -9223372036854775808 ≤ n) (h1 : n < 9223372036854775808) (hn : n ≠ 0) : FloatKind.f32.nearest n < 4294967296 ∧ FloatKind.f32.nearest n % 2147483648 < 2139095040 ∧ mX (FloatKind.f32.nearest n) ≠ 0 := by
  have lu : n.natAbs.log2 < 64 := (Nat.log2_lt (by omega)).2 (by omega)
  obtain ⟨p, hp, p0, p1⟩ := nearest_mid (decide (n < 0)) n.natAbs 0 (by omega) (by omega) (by omega)
  have hfu : FloatKind.f32.nearest n = single.nearest (decide (n < 0)) n.natAbs 0 := rfl
  obtain ⟨w1, w2, w3, w4, w5⟩ := word_parts (decide (n < 0)) p (by omega) (by omega)
  rw [hfu, hp]
  exact ⟨w1, by omega, by rw [w4]; omega⟩
def AllNum (l : List S73) : Prop := ∀ d ∈ l, 0 ≤ d.f1 ∧ isNum d.f1.toNat
theorem AllNum.snoc {l : List S73} (h : AllNum l) (x : Int) (r : Nat) (hr : isNum r) : AllNum (l ++ [(⟨x, r⟩ : S73)]) := by
  intro d hd
  rcases List.mem_append.1 hd with hd | hd
  · exact h d hd
  · rw [List.mem_singleton.1 hd]
    exact ⟨Int.natCast_nonneg r, hr⟩
theorem same_is' (m : List S73) (h : AllNum m) (hl : m.length < 8796093022208) : Ev (fun k => levylaw17_sameDots.f k (m.map dP) (m.map dB)) true := by
  have go : ∀ (n : Nat) (i : Int), 0 ≤ i → i + n = m.length → Ev (fun k => levylaw17_sameDots.l0 k (m.map dP) (m.map dB) i) true := by
    intro n
    induction n with
    | zero =>
      intro i h0 hn
      refine Ev.step (f := fun _ => some true) (fun k => ?_) (Ev.now _)
      rw [levylaw17_sameDots.l0, if_neg (by rw [List.length_map]; omega)]
    | succ n ih =>
      intro i h0 hn
      refine Ev.step (fun k => ?_) (ih (i + 1) (by omega) (by omega))
      have hmem : rd_T73 m i ∈ m := by
        unfold rd_T73
        rw [List.getD_eq_getElem?_getD, List.getElem?_eq_getElem (by omega)]
        exact List.getElem_mem _
      obtain ⟨p0, p1⟩ := h _ hmem
      have hP1 : (rd_T58 (m.map dP) i).f1 = (rd_T73 m i).f1.toNat := by rw [rd_P]; rfl
      have hB1 : (rd_T38 (m.map dB) i).f1 = ((rd_T73 m i).f1.toNat : Int) := by rw [rd_B]; show (rd_T73 m i).f1 = _; omega
      have hX : (rd_T58 (m.map dP) i).f0 = (rd_T38 (m.map dB) i).f0 := by rw [rd_P, rd_B]; rfl
      rw [levylaw17_sameDots.l0, if_pos (by rw [List.length_map]; omega), if_pos h0, if_pos (by rw [List.length_map]; omega), if_pos hX, hP1, hB1, near_same _ p1, show wrap64 (i + 1) = i + 1 by unfold wrap64; omega]
      rfl
  have e : ∀ k, levylaw17_sameDots.f k (m.map dP) (m.map dB) = levylaw17_sameDots.l0 k (m.map dP) (m.map dB) 0 := by
    intro k
    unfold levylaw17_sameDots.f
    rw [if_pos (by rw [List.length_map, List.length_map])]
  exact Ev.congr e (go m.length 0 (by omega) (by omega))
end Go.Proofs.Ytfhgomcfpmbhnaa.F
end

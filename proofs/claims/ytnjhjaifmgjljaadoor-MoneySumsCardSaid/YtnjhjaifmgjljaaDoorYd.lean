/- The contract of money.Sum over a method value whose receiver counts. -/
import Derived.Test.YtnjhjaifmgjljaaDoorPMx0
import Derived.Test.YtnjhjaifmgjljaaDoorYc
import Derived.Test.YtnjhjaifmgjljaaDoorQa
namespace Go.Proofs.YtnjhjaifmgjljaaDoor.Y
open Go.RowKit Go.Shelf Go.Proofs.YtnjhjaifmgjljaaDoor.PM Go.Proofs.YtnjhjaifmgjljaaDoor.Q Go.Proofs.YtnjhjaifmgjljaaDoorW.PrintWords
set_option linter.unusedVariables false
attribute [local go_sem] Oper.semAt_some
/-- One value more: on with the two halves, or the answer. -/
def sumStep (kind h lo : Int) (v : S23) : (Int × Int) ⊕ (Int × Int) :=
  if vld v.f0 v.f1 = false then .inr (6, 5) else if v.f0 = 6 then .inr (v.f0, v.f1) else if v.f0 = 0 then .inl (h, lo) else if v.f0 ≠ kind then .inr (6, 5)
  else if wrap64 (lo + v.f1) ≥ 1000000000000000000 then .inl (wrap64 (h + 1), wrap64 (wrap64 (lo + v.f1) - 1000000000000000000))
  else if wrap64 (lo + v.f1) ≤ -1000000000000000000 then .inl (wrap64 (h - 1), wrap64 (wrap64 (lo + v.f1) + 1000000000000000000)) else .inl (h, wrap64 (lo + v.f1))
def runs (kind : Int) (l : List S23) : Option (Int × Int) :=
  l.foldl (fun s x => s.bind fun st => match sumStep kind st.1 st.2 x with | .inl st' => some st' | .inr _ => none) (some (0, 0))
theorem runs_snoc (kind : Int) (l : List S23) (x : S23) : runs kind (l ++ [x]) = (runs kind l).bind fun st => match sumStep kind st.1 st.2 x with | .inl st' => some st' | .inr _ => none := by
  simp [runs, List.foldl_append]
def fin (kind h lo : Int) : Int × Int := if h ≠ 0 ∧ (h > 1 ∨ h < -1) then (6, 1) else boundS kind (wrap64 (wrap64 (h * 1000000000000000000) + lo))
/-- What lies in the caller's cells: the kind, the answer (still nothing), the two halves; and the receiver's count. -/
structure St (w : World) (gb : Nat) (s : Value) (kind h lo : Int) (c : Nat) (W : World) : Prop where
  but : But w.heap.size gb w W
  size : w.heap.size + 4 ≤ W.heap.size
  b2 : W.heap[w.heap.size]? = some (.cells #[.int .i64 kind] 3 (0, 0))
  b4 : W.heap[w.heap.size + 1]? = some (.cells #[.int .i64 0, .int .i64 0] 23 (0, 0))
  b5 : W.heap[w.heap.size + 1 + 1]? = some (.cells #[.int .i64 h] 2 (0, 0))
  b6 : W.heap[w.heap.size + 1 + 1 + 1]? = some (.cells #[.int .i64 lo] 2 (0, 0))
  g : W.heap[gb]? = some (.cells #[s, .int .i64 (c : Int)] 30 (0, 0))
/-- What lies there when a round has told the answer. -/
structure Told (w : World) (gb : Nat) (s : Value) (a : Int × Int) (c : Nat) (W : World) : Prop where
  but : But w.heap.size gb w W
  size : w.heap.size + 4 ≤ W.heap.size
  b4 : W.heap[w.heap.size + 1]? = some (.cells #[.int .i64 a.1, .int .i64 a.2] 23 (0, 0))
  g : W.heap[gb]? = some (.cells #[s, .int .i64 (c : Int)] 30 (0, 0))
theorem St.below {w : World} {gb : Nat} {s : Value} {kind h lo : Int} {c : Nat} {W W' : World} (hs : St w gb s kind h lo c W) (hgb : gb < w.heap.size) (hb : Below (w.heap.size + 4) W W') : St w gb s kind h lo c W' :=
  ⟨hs.but.trans (.of_below (hb.mono (by omega))), Nat.le_trans hs.size hb.size, (hb.block _ (by omega)).trans hs.b2, (hb.block _ (by omega)).trans hs.b4, (hb.block _ (by omega)).trans hs.b5, (hb.block _ (by omega)).trans hs.b6, (hb.block _ (by omega)).trans hs.g⟩
theorem kept_cells {W W' : World} {row : Option Nat} {b : Nat} {cs : Array Value} {t : TypeId} {f : Nat × Nat} (h : W.heap[b]? = some (.cells cs t f)) (hg : W.grownBy W' row)
    (hr : ∀ r, row = some r → ∃ o : Obj, W.heap[r]? = some o ∧ o.isCells = false) : W'.heap[b]? = some (.cells cs t f) := by
  refine (hg.block b (Array.getElem?_eq_some_iff.1 h).1 (fun e => ?_)).trans h
  obtain ⟨o, ho, hc⟩ := hr b e.symm
  rw [h] at ho
  cases ho
  simp [Obj.isCells] at hc
theorem St.own {w : World} {gb : Nat} {s : Value} {kind h lo : Int} {c : Nat} {W W' : World} {row : Option Nat} (hs : St w gb s kind h lo c W) (hg : W.grownBy W' row)
    (hr : ∀ r, row = some r → w.heap.size + 4 ≤ r ∧ ∃ o : Obj, W.heap[r]? = some o ∧ o.isCells = false) : St w gb s kind h lo c W' := by
  have hr2 := fun r e => (hr r e).2
  have hb : But w.heap.size gb W W' := But.grown hg (by have := hs.size; omega) (fun k e => by have := (hr k e).1; omega)
  exact ⟨hs.but.trans hb, Nat.le_trans hs.size hb.size, kept_cells hs.b2 hg hr2, kept_cells hs.b4 hg hr2, kept_cells hs.b5 hg hr2, kept_cells hs.b6 hg hr2, kept_cells hs.g hg hr2⟩
theorem Told.own {w : World} {gb : Nat} {s : Value} {a : Int × Int} {c : Nat} {W W' : World} {row : Option Nat} (hs : Told w gb s a c W) (hg : W.grownBy W' row)
    (hr : ∀ r, row = some r → w.heap.size + 4 ≤ r ∧ ∃ o : Obj, W.heap[r]? = some o ∧ o.isCells = false) : Told w gb s a c W' := by
  have hr2 := fun r e => (hr r e).2
  have hb : But w.heap.size gb W W' := But.grown hg (by have := hs.size; omega) (fun k e => by have := (hr k e).1; omega)
  exact ⟨hs.but.trans hb, Nat.le_trans hs.size hb.size, kept_cells hs.b4 hg hr2, kept_cells hs.g hg hr2⟩
theorem St.count {w : World} {gb : Nat} {s : Value} {kind h lo : Int} {c : Nat} {W : World} (hs : St w gb s kind h lo c W) (hgb : gb < w.heap.size) : St w gb s kind h lo (c + 1) (count gb c W) := by
  have ne : ∀ b, b ≠ gb → (Y.count gb c W).heap[b]? = W.heap[b]? := fun b hb => Below.heap_setCell _ _ _ _ hb
  have hb : But w.heap.size gb W (Y.count gb c W) := But.setCell _ _ _ (.inl rfl)
  exact ⟨hs.but.trans hb, Nat.le_trans hs.size hb.size, (ne _ (by omega)).trans hs.b2, (ne _ (by omega)).trans hs.b4, (ne _ (by omega)).trans hs.b5, (ne _ (by omega)).trans hs.b6, heap_count hs.g⟩
theorem cells_at {W : World} {b : Nat} {u : Value} {t : TypeId} (h : W.heap[b]? = some (.cells #[u] t (0, 0))) : W.cell? ⟨b, 0, none⟩ = some u ∧ W.frozen? ⟨b, 0, none⟩ = false := ⟨by simp [World.cell?, h], by simp [World.frozen?, h]⟩
theorem cells_at2 {W : World} {b : Nat} {u v : Value} {t : TypeId} (h : W.heap[b]? = some (.cells #[u, v] t (0, 0))) :
    W.cell? ⟨b, 0, none⟩ = some u ∧ W.cell? ⟨b, 1, none⟩ = some v ∧ W.frozen? ⟨b, 0, none⟩ = false ∧ W.frozen? ⟨b, 1, none⟩ = false := ⟨by simp [World.cell?, h], by simp [World.cell?, h], by simp [World.frozen?, h], by simp [World.frozen?, h]⟩
theorem kf_below {B : Nat} {W W' : World} (hb : Below W.heap.size W W') : KeepsFrom B W W' :=
  ⟨hb.size, fun k o _ hk _ => (hb.block k (Array.getElem?_eq_some_iff.1 hk).1).trans hk⟩
theorem kf_set {B : Nat} (W : World) (p : Addr) (u : Value) : KeepsFrom B W (W.setCell p u) := (KeepsOthers.setCell W p u).from B
theorem set_one {W : World} {b : Nat} {u v : Value} {t : TypeId} (h : W.heap[b]? = some (.cells #[u] t (0, 0))) : (W.setCell ⟨b, 0, none⟩ v).heap[b]? = some (.cells #[v] t (0, 0)) := by
  simp [World.setCell, Array.getElem?_modify, h]
theorem set_two {W : World} {b : Nat} {u v u' v' : Value} {t : TypeId} (h : W.heap[b]? = some (.cells #[u, v] t (0, 0))) : ((W.setCell ⟨b, 0, none⟩ u').setCell ⟨b, 1, none⟩ v').heap[b]? = some (.cells #[u', v'] t (0, 0)) := by
  simp [World.setCell, Array.getElem?_modify, h]
theorem other {W : World} {b : Nat} {p : Addr} {u : Value} {r : Option Obj} (h : W.heap[b]? = r) (hne : b ≠ p.block) : (W.setCell p u).heap[b]? = r := (Below.heap_setCell W p u b hne).trans h
theorem St.tell {w : World} {gb : Nat} {s : Value} {kind h lo : Int} {c : Nat} {W : World} (hs : St w gb s kind h lo c W) (hgb : gb < w.heap.size) (a b : Int) :
    Told w gb s (a, b) c ((W.setCell ⟨w.heap.size + 1, 0, none⟩ (.int .i64 a)).setCell ⟨w.heap.size + 1, 1, none⟩ (.int .i64 b)) :=
  ⟨hs.but.trans ((But.setCell _ _ _ (.inr (by simp only; omega))).trans (But.setCell _ _ _ (.inr (by simp only; omega)))), by have := hs.size; simp [World.setCell]; omega, set_two hs.b4, other (other hs.g (by simp only; omega)) (by simp only; omega)⟩
theorem St.set6 {w : World} {gb : Nat} {s : Value} {kind h lo : Int} {c : Nat} {W : World} (hs : St w gb s kind h lo c W) (hgb : gb < w.heap.size) (v : Int) :
    St w gb s kind h v c (W.setCell ⟨w.heap.size + 1 + 1 + 1, 0, none⟩ (.int .i64 v)) :=
  ⟨hs.but.trans (But.setCell _ _ _ (.inr (by simp only; omega))), by have := hs.size; simp [World.setCell]; omega, other hs.b2 (by simp only; omega), other hs.b4 (by simp only; omega), other hs.b5 (by simp only; omega), set_one hs.b6, other hs.g (by simp only; omega)⟩
theorem St.set5 {w : World} {gb : Nat} {s : Value} {kind h lo : Int} {c : Nat} {W : World} (hs : St w gb s kind h lo c W) (hgb : gb < w.heap.size) (v : Int) :
    St w gb s kind v lo c (W.setCell ⟨w.heap.size + 1 + 1, 0, none⟩ (.int .i64 v)) :=
  ⟨hs.but.trans (But.setCell _ _ _ (.inr (by simp only; omega))), by have := hs.size; simp [World.setCell]; omega, other hs.b2 (by simp only; omega), other hs.b4 (by simp only; omega), set_one hs.b5, other hs.b6 (by simp only; omega), other hs.g (by simp only; omega)⟩
/-- The activation at a round's body. -/
def Round (w : World) (gb : Nat) (kind : Int) (x : S23) (a' : Act) (W : World) : Prop :=
  ∃ (B7 : Nat) (v8 v9 v10 v11 v12 v13 v14 v15 v16 v17 v18 : Value), w.heap.size + 4 ≤ B7 ∧ W.heap[B7]? = some (.cells #[.int .i64 x.f0, .int .i64 x.f1] 23 (0, 0)) ∧
    a' = { tmps := #[.int .i64 kind, .func (.func 21) #[.pointer (some ⟨gb, 0, none⟩)] #[], .pointer (some ⟨w.heap.size, 0, none⟩), undef, .pointer (some ⟨w.heap.size + 1, 0, none⟩), .pointer (some ⟨w.heap.size + 1 + 1, 0, none⟩), .pointer (some ⟨w.heap.size + 1 + 1 + 1, 0, none⟩), .pointer (some ⟨B7, 0, none⟩), v8, v9, v10, v11, v12, v13, v14, v15, v16, v17, v18, .func (.func 21) #[.pointer (some ⟨gb, 0, none⟩)] #[], .agg #[.int .i64 x.f0, .int .i64 x.f1], undef, undef, undef, undef, undef, undef, undef, undef, undef, undef, undef, undef, undef, undef, undef, undef, undef, undef, undef, undef, undef, undef, undef, undef, undef, undef, undef, undef, undef, undef, undef, undef, undef, undef, undef, undef, undef, undef, undef, undef, undef, undef, undef, undef, undef, undef, undef, undef, undef, undef, undef, undef, undef, undef, undef], defers := [] }
end Go.Proofs.YtnjhjaifmgjljaaDoor.Y

/- Words for worlds that are the same but for one block, and what lies in them. -/
import Derived.Test.YtnjhjaifmgjljaaDoorPMx0
import Derived.Test.YtnjhjaifmgjljaaDoorYb
namespace Go.Proofs.YtnjhjaifmgjljaaDoor.Y
open Go.RowKit Go.Shelf Go.Proofs.YtnjhjaifmgjljaaDoor.PM Go.Proofs.YtnjhjaifmgjljaaDoorW.PrintWords
/-- Below B, but for block gb, the world lies as it lay. -/
structure But (B gb : Nat) (w w' : World) : Prop where
  os : w'.os = w.os
  tape : w'.tape = w.tape
  output : w'.output = w.output
  size : w.heap.size ≤ w'.heap.size
  block : ∀ k, k < B → k ≠ gb → w'.heap[k]? = w.heap[k]?
theorem But.refl (B gb : Nat) (w : World) : But B gb w w := ⟨rfl, rfl, rfl, Nat.le_refl _, fun _ _ _ => rfl⟩
theorem But.trans {B gb : Nat} {a b c : World} (h : But B gb a b) (k : But B gb b c) : But B gb a c :=
  ⟨k.os.trans h.os, k.tape.trans h.tape, k.output.trans h.output, Nat.le_trans h.size k.size, fun i hi hg => (k.block i hi hg).trans (h.block i hi hg)⟩
theorem But.of_below {B gb : Nat} {a b : World} (h : Below B a b) : But B gb a b := ⟨h.os, h.tape, h.output, h.size, fun i hi _ => h.block i hi⟩
theorem But.below {B gb n : Nat} {a b : World} (h : But B gb a b) (h1 : n ≤ B) (h2 : n ≤ gb) : Below n a b := ⟨h.os, h.tape, h.output, h.size, fun i hi => h.block i (by omega) (by omega)⟩
theorem But.setCell {B gb : Nat} (w : World) (p : Addr) (u : Value) (hp : p.block = gb ∨ B ≤ p.block) : But B gb w (w.setCell p u) :=
  ⟨rfl, rfl, rfl, by simp [World.setCell], fun i hi hg => Below.heap_setCell w p u i (by rcases hp with h | h <;> omega)⟩
theorem But.alloc {B gb : Nat} (w : World) (hB : B ≤ w.heap.size) (o : Obj) : But B gb w (w.alloc o) := .of_below ((Below.refl B w).alloc hB o)
theorem But.grown {B gb : Nat} {w w' : World} {row : Option Nat} (hg : w.grownBy w' row) (hB : B ≤ w.heap.size) (hr : ∀ k, row = some k → B ≤ k) : But B gb w w' := .of_below ((Below.refl B w).grown hg hB hr)
/-- A row of plain values lies as it lay. -/
theorem C_but {α : Type} {d : Kd α} (hK : ∀ (w w' : World) x cs, d.K w x cs → d.K w' x cs) {w w' : World} {gb : Nat} {A : Option Addr} {n : Nat} {xs : List α} (h : d.C w A n xs) (hb : But w.heap.size gb w w')
    (hne : 0 < n → ∀ ad, A = some ad → ad.block ≠ gb) : d.C w' A n xs :=
  ⟨h.1, h.2.1, fun hn => by
    obtain ⟨ad, e, hc⟩ := h.2.2 hn
    refine ⟨ad, e, fun j p hj => ?_⟩
    obtain ⟨c, hs, hr, hcell⟩ := hc j p hj
    refine ⟨c, hs, hK _ _ _ _ hr, fun i u hu => ?_⟩
    have h1 := hcell i u hu
    have hblk : (ad.add (j * d.sz + i)).block = ad.block := by unfold Addr.add; split <;> rfl
    exact (World.cell?_of_block (hb.block _ (World.block_lt_of_cell? w _ h1) (by rw [hblk]; exact hne hn ad e))).trans h1⟩
theorem k23_flat (w w' : World) (x : S23) (cs : List Value) (h : k23.K w x cs) : k23.K w' x cs := h
theorem k87_flat (w w' : World) (x : S87) (cs : List Value) (h : k87.K w x cs) : k87.K w' x cs := h
theorem heap_count {gb k : Nat} {W : World} {v : Value} {t : TypeId} (h : W.heap[gb]? = some (.cells #[v, .int .i64 (k : Int)] t (0, 0))) : (count gb k W).heap[gb]? = some (.cells #[v, .int .i64 ((k + 1 : Nat) : Int)] t (0, 0)) := by
  simp [count, World.setCell, Array.getElem?_modify, h]
end Go.Proofs.YtnjhjaifmgjljaaDoor.Y

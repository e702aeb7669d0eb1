-- Part 10 of the texts of the claim CL (wrote by programs: words of the kit's print.sh, printed functions; and my own texts; joined by wip/tools/pack.py).
import Derived.Test.YtfhgomcfpmbhnaaCL9
import Derived.Laws.IdiomStrings

section
namespace Go.Proofs.Ytfhgomcfpmbhnaa.Y
open Go Go.RowKit Go.Proofs.Ytfhgomcfpmbhnaa.PS Go.Proofs.Ytfhgomcfpmbhnaa.F Go.Proofs.YtfhgomcfpmbhnaaW.PrintWords Go.Proofs.YtfhgomcfpmbhnaaW.PrintMore Go.Proofs.YtfhgomcfpmbhnaaW.Fits
attribute [local go_sem] frun_add frun_sub frun_mul frun_quo frun_neg frun_of frun_same frun_store frun_bits frun_from
set_option linter.unusedVariables false
set_option maxRecDepth 100000
theorem repeat_at (b : UInt8) : ∀ (n j : Nat), j < n → (Lib.repeatL [b] n)[j]? = some b
  | n + 1, 0, _ => rfl
  | n + 1, j + 1, h => by
    show ([b] ++ Lib.repeatL [b] n)[j + 1]? = _
    rw [List.singleton_append, List.getElem?_cons_succ]
    exact repeat_at b n j (by omega)
def RowB (w : World) (b wd : Nat) (G : Nat → Int) : Prop := ∃ cs : Array Value, w.heap[b]? = some (.cells cs 5 (cs.size, cs.size + 1)) ∧ wd ≤ cs.size ∧ ∀ j, j < wd → cs[j]? = some (.int .u8 (G j))
theorem RowB.below {w w1 : World} {b wd : Nat} {G : Nat → Int} (h : RowB w b wd G) (hb : Below w.heap.size w w1) : RowB w1 b wd G := by
  obtain ⟨cs, h1, h2, h3⟩ := h
  exact ⟨cs, blk_below h1 hb, h2, h3⟩
theorem RowB.far {w : World} {b wd : Nat} {G : Nat → Int} (h : RowB w b wd G) {p : Addr} (hp : b ≠ p.block) (u : Value) : RowB (w.setCell p u) b wd G := by
  obtain ⟨cs, h1, h2, h3⟩ := h
  exact ⟨cs, (Below.heap_setCell w p u b hp).trans h1, h2, h3⟩
theorem RowB.set {w : World} {b wd : Nat} {G : Nat → Int} (h : RowB w b wd G) (c : Nat) (hc : c < wd) (v : Int) : RowB (w.setCell ⟨b, c, none⟩ (.int .u8 v)) b wd (fun j => if j = c then v else G j) := by
  obtain ⟨cs, h1, h2, h3⟩ := h
  refine ⟨cs.setIfInBounds c (.int .u8 v), ?_, by simpa using h2, fun j hj => ?_⟩
  · simp [World.setCell, Array.getElem?_modify, h1]
  · by_cases e : j = c
    · subst e
      have : j < cs.size := by omega
      simp [this]
    · rw [Array.getElem?_setIfInBounds, if_neg (fun h => e h.symm)]
      simp only [if_neg e]
      exact h3 j hj
theorem RowB.cell {w : World} {b wd : Nat} {G : Nat → Int} (h : RowB w b wd G) (c : Nat) (hc : c < wd) : w.cell? ⟨b, c, none⟩ = some (.int .u8 (G c)) ∧ w.frozen? ⟨b, c, none⟩ = false := by
  obtain ⟨cs, h1, h2, h3⟩ := h
  refine ⟨?_, ?_⟩
  · rw [cell_of_row w b c cs 5 _ h1]
    exact h3 c hc
  · simp [World.frozen?, h1]
    omega
theorem row_made (w : World) (b : UInt8) (wd : Nat) : ∃ cap w1, (convert 9 88 (.string ⟨(Lib.repeatL [b] wd).toArray⟩)).run Try.prog w = .ok (.slice (some ⟨w.heap.size, 0, none⟩) wd cap) w1 ∧ wd ≤ cap ∧ RowB w1 w.heap.size wd (fun _ => (b.toNat : Int)) ∧ Below w.heap.size w w1 ∧ w.heap.size < w1.heap.size := by
  have hl : (⟨(Lib.repeatL [b] wd).toArray⟩ : ByteArray).size = wd := by
    show (Lib.repeatL [b] wd).toArray.size = wd
    simp [Lib.repeatL_length]
  have hr := run_bytes_of_string (P := Try.prog) w 9 88 5 ⟨(Lib.repeatL [b] wd).toArray⟩ Try.underlying9 Try.underlying88 Try.underlying5
  rw [hl] at hr
  have hg := grownCap_ge w wd 0 5
  refine ⟨_, _, hr, hg, ⟨_, heap_alloc_new w.drew _, ?_, fun j hj => ?_⟩, ?_, by simp⟩
  · unfold bytesRow
    rw [hl]
    simp [Lib.repeatL_length]
  · have hd : (⟨(Lib.repeatL [b] wd).toArray⟩ : ByteArray).data.size = wd := hl
    rw [bytesRow_at _ _ j (by rw [hd]; exact hj)]
    have h2 := repeat_at b wd j hj
    have h3 : (Lib.repeatL [b] wd).toArray[j]? = some b := by rw [List.getElem?_toArray]; exact h2
    obtain ⟨hlt, h4⟩ := Array.getElem?_eq_some_iff.1 h3
    show some (Value.int .u8 (((Lib.repeatL [b] wd).toArray[j]).toNat : Int)) = _
    rw [h4]
  · exact (pw_below_drewN (Below.refl _ _) 1).alloc (Nat.le_refl _) _
def lowF (x y : Nat) : Nat := match FloatKind.f32.format.order x y with | some .lt => x | some .gt => y | _ => if (FloatKind.f32.decode x).neg then x else y
def highF (x y : Nat) : Nat := match FloatKind.f32.format.order x y with | some .lt => y | some .gt => x | _ => if (FloatKind.f32.decode x).neg then y else x
theorem frun_min {P : Program} (ats : Array TypeId) (ty : TypeId) (x y : Nat) (w : World) (h : (FloatKind.f32.format.order x y).isSome = true) : (Builtin.min_ ats ty #[.float .f32 x, .float .f32 y]).run P w = .ok (.float .f32 (lowF x y)) w := by
  rw [min_two]
  unfold Builtin.min2 lowF
  obtain ⟨o, ho⟩ := Option.isSome_iff_exists.1 h
  simp only [ho]
  cases o <;> simp [go_sem]
theorem frun_max {P : Program} (ats : Array TypeId) (ty : TypeId) (x y : Nat) (w : World) (h : (FloatKind.f32.format.order x y).isSome = true) : (Builtin.max_ ats ty #[.float .f32 x, .float .f32 y]).run P w = .ok (.float .f32 (highF x y)) w := by
  rw [max_two]
  unfold Builtin.max2 highF
  obtain ⟨o, ho⟩ := Option.isSome_iff_exists.1 h
  simp only [ho]
  cases o <;> simp [go_sem]
attribute [local go_sem] frun_min frun_max
def lowL (l : List S58) (j : Nat) : Nat := (l.take j).foldl (fun a p => lowF a p.f1) (l.getD 0 z58).f1
def highL (l : List S58) (j : Nat) : Nat := (l.take j).foldl (fun a p => highF a p.f1) (l.getD 0 z58).f1
theorem lowL_succ (l : List S58) (j : Nat) (hj : j < l.length) : lowL l (j + 1) = lowF (lowL l j) (l.getD j z58).f1 := by
  unfold lowL
  rw [List.take_succ_eq_append_getElem hj, List.foldl_append, show l.getD j z58 = l[j] by rw [List.getD_eq_getElem?_getD, List.getElem?_eq_getElem hj]; rfl]
  rfl
theorem highL_succ (l : List S58) (j : Nat) (hj : j < l.length) : highL l (j + 1) = highF (highL l j) (l.getD j z58).f1 := by
  unfold highL
  rw [List.take_succ_eq_append_getElem hj, List.foldl_append, show l.getD j z58 = l[j] by rw [List.getD_eq_getElem?_getD, List.getElem?_eq_getElem hj]; rfl]
  rfl
def Ordd (l : List S58) : Prop := ∀ j, j < l.length → (FloatKind.f32.format.order (lowL l j) (l.getD j z58).f1).isSome = true ∧ (FloatKind.f32.format.order (highL l j) (l.getD j z58).f1).isSome = true
def rowV (wd : Nat) (p : Nat × Nat) : Value := .slice (some ⟨p.1, 0, none⟩) wd p.2
def gridL (wd : Nat) (bs : List (Nat × Nat)) : List Value := bs.map (rowV wd) ++ List.replicate (40 - bs.length) (.slice none 0 0)
structure Grid (w0 w : World) (g : Nat) (bs : List (Nat × Nat)) (wd : Nat) (G : Nat → Nat → Int) : Prop where
  len : bs.length ≤ 40
  cap : ∀ p ∈ bs, wd ≤ p.2
  row : w.heap[g]? = some (.cells (gridL wd bs).toArray 89 (0, 0))
  cells : ∀ (r : Nat) (p : Nat × Nat), bs[r]? = some p → RowB w p.1 wd (G r)
  inj : ∀ (r r' : Nat) (p p' : Nat × Nat), bs[r]? = some p → bs[r']? = some p' → r ≠ r' → p.1 ≠ p'.1
  far : ∀ p ∈ bs, p.1 ≠ g ∧ w0.heap.size ≤ p.1
  base : w0.heap.size ≤ g
  below : Below w0.heap.size w0 w
theorem gridL_at {wd : Nat} {bs : List (Nat × Nat)} {r : Nat} {p : Nat × Nat} (h : bs[r]? = some p) : (gridL wd bs)[r]? = some (rowV wd p) := by
  have hl := (List.getElem?_eq_some_iff.1 h).1
  unfold gridL
  rw [List.getElem?_append_left (by simpa using hl), List.getElem?_map, h]
  rfl
theorem Grid.cell {w0 w : World} {g wd : Nat} {bs : List (Nat × Nat)} {G : Nat → Nat → Int} (h : Grid w0 w g bs wd G) {r : Nat} {p : Nat × Nat} (hp : bs[r]? = some p) : w.cell? ⟨g, r, none⟩ = some (rowV wd p) := by
  rw [blk_cell h.row, List.getElem?_toArray]
  exact gridL_at hp
theorem Grid.moved {w0 w w1 : World} {g wd : Nat} {bs : List (Nat × Nat)} {G : Nat → Nat → Int} (h : Grid w0 w g bs wd G) (hb : Below w.heap.size w w1) : Grid w0 w1 g bs wd G :=
  ⟨h.len, h.cap, blk_below h.row hb, fun r p hp => (h.cells r p hp).below hb, h.inj, h.far, h.base, below_then h.below h.below.size hb⟩
theorem RowB.lt {w : World} {b wd : Nat} {G : Nat → Int} (h : RowB w b wd G) : b < w.heap.size := by
  obtain ⟨cs, h1, _⟩ := h
  exact blk_lt h1
theorem Grid.push {w0 w w1 : World} {g wd cap : Nat} {bs : List (Nat × Nat)} {G : Nat → Nat → Int} (h : Grid w0 w g bs wd G) (hi : bs.length < 40) (hc : wd ≤ cap) (hr : RowB w1 w.heap.size wd (G bs.length)) (hb : Below w.heap.size w w1) :
    Grid w0 (w1.setCell ⟨g, bs.length, none⟩ (rowV wd (w.heap.size, cap))) g (bs ++ [(w.heap.size, cap)]) wd G := by
  have h1 := h.moved hb
  have lg := blk_lt h.row
  refine ⟨by simp; omega, ?_, ?_, ?_, ?_, ?_, h.base, ?_⟩
  · intro p hp
    rcases List.mem_append.1 hp with hp | hp
    · exact h.cap p hp
    · obtain rfl : p = (w.heap.size, cap) := by simpa using hp
      exact hc
  · rw [blk_set h1.row]
    congr 2
    unfold gridL
    obtain ⟨m, hm⟩ : ∃ m, 40 - bs.length = m + 1 := ⟨39 - bs.length, by omega⟩
    have hm2 : 40 - (bs ++ [(w.heap.size, cap)]).length = m := by simp; omega
    rw [hm, hm2, List.replicate_succ, List.map_append, List.append_assoc]
    simp [List.setIfInBounds_toArray]
  · intro r p hp
    by_cases hr2 : r < bs.length
    · rw [List.getElem?_append_left hr2] at hp
      exact (h1.cells r p hp).far (fun e => (h.far p (List.mem_of_getElem? hp)).1 e) _
    · rw [List.getElem?_append_right (by omega)] at hp
      have hr3 : r = bs.length := by
        have := (List.getElem?_eq_some_iff.1 hp).1
        simp at this
        omega
      subst hr3
      obtain rfl : p = (w.heap.size, cap) := by simpa using hp.symm
      exact hr.far (by simp only []; omega) _
  · intro r r' p p' hp hp' hne
    have key : ∀ r p, (bs ++ [(w.heap.size, cap)])[r]? = some p → (r < bs.length ∧ bs[r]? = some p ∧ p.1 < w.heap.size) ∨ (r = bs.length ∧ p.1 = w.heap.size) := by
      intro r p hp
      by_cases hr2 : r < bs.length
      · rw [List.getElem?_append_left hr2] at hp
        exact .inl ⟨hr2, hp, (h.cells r p hp).lt⟩
      · rw [List.getElem?_append_right (by omega)] at hp
        have := (List.getElem?_eq_some_iff.1 hp).1
        simp at this
        have hr3 : r = bs.length := by omega
        subst hr3
        obtain rfl : p = (w.heap.size, cap) := by simpa using hp.symm
        exact .inr ⟨rfl, rfl⟩
    rcases key r p hp with ⟨a1, a2, a3⟩ | ⟨a1, a2⟩ <;> rcases key r' p' hp' with ⟨c1, c2, c3⟩ | ⟨c1, c2⟩
    · exact h.inj r r' p p' a2 c2 hne
    · omega
    · omega
    · omega
  · intro p hp
    rcases List.mem_append.1 hp with hp | hp
    · exact h.far p hp
    · obtain rfl : p = (w.heap.size, cap) := by simpa using hp
      exact ⟨by simp only []; omega, h.below.size⟩
  · exact h1.below.setCell h.base _
theorem Grid.put {w0 w w1 : World} {g wd cap z : Nat} {bs : List (Nat × Nat)} {G : Nat → Nat → Int} {p0 : Nat × Nat} {Gz : Nat → Int} (h : Grid w0 w g bs wd G) (hz : bs[z]? = some p0) (hc : wd ≤ cap) (hr : RowB w1 w.heap.size wd Gz) (hb : Below w.heap.size w w1) :
    Grid w0 (w1.setCell ⟨g, z, none⟩ (rowV wd (w.heap.size, cap))) g (bs.set z (w.heap.size, cap)) wd (fun r => if r = z then Gz else G r) := by
  have h1 := h.moved hb
  have lg := blk_lt h.row
  have hzl := (List.getElem?_eq_some_iff.1 hz).1
  have key : ∀ (r : Nat) (p : Nat × Nat), (bs.set z (w.heap.size, cap))[r]? = some p → (r ≠ z ∧ bs[r]? = some p ∧ p.1 < w.heap.size) ∨ (r = z ∧ p = (w.heap.size, cap)) := by
    intro r p hp
    by_cases hr2 : r = z
    · subst hr2
      rw [List.getElem?_set_self hzl] at hp
      exact .inr ⟨rfl, by simpa using hp.symm⟩
    · rw [List.getElem?_set_ne (fun e => hr2 e.symm)] at hp
      exact .inl ⟨hr2, hp, (h.cells r p hp).lt⟩
  refine ⟨by simpa using h.len, ?_, ?_, ?_, ?_, ?_, h.base, h1.below.setCell h.base _⟩
  · intro p hp
    obtain ⟨r, hr⟩ := List.mem_iff_getElem?.1 hp
    rcases key r p hr with ⟨_, a, _⟩ | ⟨_, rfl⟩
    · exact h.cap p (List.mem_of_getElem? a)
    · exact hc
  · rw [blk_set h1.row]
    congr 2
    unfold gridL
    rw [List.setIfInBounds_toArray, List.set_append_left _ _ (by simpa using hzl), List.length_set, List.map_set]
  · intro r p hp
    rcases key r p hp with ⟨a1, a2, a3⟩ | ⟨rfl, rfl⟩
    · simp only [if_neg a1]
      exact (h1.cells r p a2).far (fun e => (h.far p (List.mem_of_getElem? a2)).1 e) _
    · simp only [ite_true]
      exact hr.far (by simp only []; omega) _
  · intro r r' p p' hp hp' hne
    rcases key r p hp with ⟨a1, a2, a3⟩ | ⟨a1, rfl⟩ <;> rcases key r' p' hp' with ⟨c1, c2, c3⟩ | ⟨c1, rfl⟩
    · exact h.inj r r' p p' a2 c2 hne
    · simp only []; omega
    · simp only []; omega
    · omega
  · intro p hp
    obtain ⟨r, hr⟩ := List.mem_iff_getElem?.1 hp
    rcases key r p hr with ⟨_, a, _⟩ | ⟨_, rfl⟩
    · exact h.far p (List.mem_of_getElem? a)
    · exact ⟨by simp only []; omega, h.below.size⟩
theorem Grid.mark {w0 w : World} {g wd c r : Nat} {bs : List (Nat × Nat)} {G : Nat → Nat → Int} {p : Nat × Nat} (h : Grid w0 w g bs wd G) (hp : bs[r]? = some p) (hc : c < wd) (v : Int) :
    Grid w0 (w.setCell ⟨p.1, c, none⟩ (.int .u8 v)) g bs wd (fun r' c' => if r' = r ∧ c' = c then v else G r' c') := by
  have hf := h.far p (List.mem_of_getElem? hp)
  refine ⟨h.len, h.cap, (Below.heap_setCell w ⟨p.1, c, none⟩ _ g (fun e => hf.1 e.symm)).trans h.row, fun r' p' hp' => ?_, h.inj, h.far, h.base, h.below.setCell hf.2 _⟩
  by_cases e : r' = r
  · subst e
    rw [hp] at hp'
    cases hp'
    have := (h.cells r' p hp).set c hc v
    obtain ⟨cs, a1, a2, a3⟩ := this
    refine ⟨cs, a1, a2, fun j hj => ?_⟩
    rw [a3 j hj]
    simp
  · have := (h.cells r' p' hp').far (p := ⟨p.1, c, none⟩) (h.inj r' r p' p hp' hp e) (.int .u8 v)
    obtain ⟨cs, a1, a2, a3⟩ := this
    refine ⟨cs, a1, a2, fun j hj => ?_⟩
    rw [a3 j hj]
    simp [e]
theorem Grid.free {w0 w : World} {g wd : Nat} {bs : List (Nat × Nat)} {G : Nat → Nat → Int} (h : Grid w0 w g bs wd G) (hi : bs.length < 40) : w.cell? ⟨g, bs.length, none⟩ = some (.slice none 0 0) ∧ w.frozen? ⟨g, bs.length, none⟩ = false := by
  refine ⟨?_, blk_frozen h.row _⟩
  rw [blk_cell h.row, List.getElem?_toArray]
  unfold gridL
  rw [List.getElem?_append_right (by simp), List.getElem?_replicate, if_pos (by simp; omega)]
theorem Grid.none {w0 w1 : World} {wd : Nat} (G : Nat → Nat → Int) (hb : Below w0.heap.size w0 w1) : Grid w0 (w1.alloc (.cells (gridL wd []).toArray 89)) w1.heap.size [] wd G :=
  ⟨by simp, by simp, blk_new w1 _, by simp, by simp, by simp, hb.size, hb.alloc hb.size _⟩
end Go.Proofs.Ytfhgomcfpmbhnaa.Y
end

section
namespace Go.Proofs.Ytfhgomcfpmbhnaa.Y
open Go Go.RowKit Ieee Go.Proofs.Ytfhgomcfpmbhnaa.PS Go.Proofs.Ytfhgomcfpmbhnaa.F Go.Proofs.YtfhgomcfpmbhnaaW.PrintWords
def IsFin (x : Nat) : Prop := x < 4294967296 ∧ x % 2147483648 < 2139095040
theorem lowF_or (x y : Nat) : lowF x y = x ∨ lowF x y = y := by
  unfold lowF
  split
  · exact .inl rfl
  · exact .inr rfl
  · split
    · exact .inl rfl
    · exact .inr rfl
theorem highF_or (x y : Nat) : highF x y = x ∨ highF x y = y := by
  unfold highF
  split
  · exact .inr rfl
  · exact .inl rfl
  · split
    · exact .inr rfl
    · exact .inl rfl
def AllFin (l : List S58) : Prop := ∀ j, j < l.length → IsFin (l.getD j z58).f1
theorem low_fin {l : List S58} (h : AllFin l) (h0 : 0 < l.length) : ∀ j, j ≤ l.length → IsFin (lowL l j) ∧ IsFin (highL l j) := by
  intro j
  induction j with
  | zero => intro _; exact ⟨h 0 h0, h 0 h0⟩
  | succ j ih =>
    intro hj
    obtain ⟨a, b⟩ := ih (by omega)
    have c := h j (by omega)
    rw [lowL_succ l j (by omega), highL_succ l j (by omega)]
    refine ⟨?_, ?_⟩
    · rcases lowF_or (lowL l j) (l.getD j z58).f1 with e | e <;> rw [e] <;> assumption
    · rcases highF_or (highL l j) (l.getD j z58).f1 with e | e <;> rw [e] <;> assumption
theorem order_some {x y : Nat} (hx : IsFin x) (hy : IsFin y) : (FloatKind.f32.format.order x y).isSome = true := by
  have : FloatKind.f32.format.order x y = some (compare (ordI x) (ordI y)) := order_is x y hx.1 hy.1 (by have := hx.2; omega) (by have := hy.2; omega)
  rw [this]
  rfl
theorem ordd_of {l : List S58} (h : AllFin l) : Ordd l := fun j hj =>
  have hf := low_fin h (by omega) j (by omega)
  ⟨order_some hf.1 (h j hj), order_some hf.2 (h j hj)⟩
end Go.Proofs.Ytfhgomcfpmbhnaa.Y
end

section
namespace Go.Proofs.Ytfhgomcfpmbhnaa.Y
open Go Go.RowKit Go.Proofs.Ytfhgomcfpmbhnaa.PS Go.Proofs.Ytfhgomcfpmbhnaa.F Go.Proofs.YtfhgomcfpmbhnaaW.PrintWords Go.Proofs.YtfhgomcfpmbhnaaW.PrintMore Go.Proofs.YtfhgomcfpmbhnaaW.Fits
attribute [local go_sem] frun_add frun_sub frun_mul frun_quo frun_neg frun_of frun_same frun_store frun_bits frun_from frun_min frun_max
set_option linter.unusedVariables false
set_option maxRecDepth 100000
def blankG (zr : Option Nat) (r c : Nat) : Int := if zr = some r then 45 else 32
def starG (rn cn : Nat → Nat) (G : Nat → Nat → Int) : Nat → Nat → Nat → Int
  | 0 => G
  | j + 1 => fun r c => if r = rn j ∧ c = cn j then 42 else starG rn cn G j r c
def leF (x y : Nat) : Bool := FloatKind.f32.format.order x y == some Ordering.lt || FloatKind.f32.format.order x y == some Ordering.eq
def RowOk (a D : Nat) (h : Int) (y n : Nat) : Prop :=
  ((FloatKind.f32.format.order D 0 == some Ordering.eq) = true ∧ n = 0) ∨
  ((FloatKind.f32.format.order D 0 == some Ordering.eq) = false ∧ fk_sub y a = true ∧ fk_quo (fl_sub y a) D = true ∧ fk_mul (fl_quo (fl_sub y a) D) (fl_of (h - 1)) = true ∧ fk_add (fl_mul (fl_quo (fl_sub y a) D) (fl_of (h - 1))) 1056964608 = true ∧
    (FloatKind.f32.decode (fl_add (fl_mul (fl_quo (fl_sub y a) D) (fl_of (h - 1))) 1056964608)).toInt .zero = some (n : Int))
theorem row_c (a D y n : Nat) (h : Int) (w : World) (hk : RowOk a D h y n) (h1 : 1 ≤ h) (h2 : h ≤ 1000) (hn : n ≤ 1000) :
    Calls Try.prog 51 #[.agg #[.float .f32 a, .float .f32 D, .int .i64 h], .float .f32 y] w (fun e w' => e = .returned (.int .i64 (n : Int)) ∧ Below w.heap.size w w') := by
  rcases hk with ⟨k0, rfl⟩ | ⟨k0, k1, k2, k3, k4, k5⟩
  · exact row_zero a D y h w k0
  · exact row_calls a D y h w k0 h1 h2 k1 k2 k3 k4 n k5 (by omega) (by omega)
theorem info9' : (Try.prog.info? 9).map (fun i => (i.zero, i.size, i.bytes)) = some (some (.string ⟨#[]⟩), 1, 16) := by kernel_rfl
def rowS (wd : Nat) (G : Nat → Int) : List UInt8 := (List.range wd).map fun c => UInt8.ofNat (G c).toNat
def picsL (wd ht : Nat) (G : Nat → Nat → Int) (t : Nat) : List Value := (List.range t).map fun j => .string ⟨(rowS wd (G (ht - 1 - j))).toArray⟩
theorem picsL_succ (wd ht : Nat) (G : Nat → Nat → Int) (t : Nat) : picsL wd ht G (t + 1) = picsL wd ht G t ++ [.string ⟨(rowS wd (G (ht - 1 - t))).toArray⟩] := by
  unfold picsL
  rw [List.range_succ, List.map_append]
  rfl
theorem row_back {w : World} {b wd : Nat} {G : Nat → Int} (h : RowB w b wd G) (hG : ∀ c, 0 ≤ G c ∧ G c < 256) (cap : Nat) : (convert 88 9 (.slice (some ⟨b, 0, none⟩) wd cap)).run Try.prog w = .ok (.string ⟨(rowS wd G).toArray⟩) w := by
  have hl : (rowS wd G).length = wd := by simp [rowS]
  have := run_convert_bytes_back (P := Try.prog) w 88 9 5 ⟨b, 0, none⟩ cap (rowS wd G) Try.underlying88 Try.underlying5 Try.underlying9 (fun j hj => ?_)
  · rw [hl] at this
    exact this
  · have hj' : j < wd := by omega
    rw [add_at, Nat.zero_add, (h.cell j hj').1]
    have e : (rowS wd G)[j] = UInt8.ofNat (G j).toNat := by simp [rowS]
    rw [e]
    have := hG j
    have e2 : (UInt8.ofNat (G j).toNat).toNat = (G j).toNat := by
      rw [UInt8.toNat_ofNat']
      omega
    rw [e2]
    congr 2
    omega
theorem Grid.grown {w0 w w3 : World} {g wd n : Nat} {bs : List (Nat × Nat)} {G : Nat → Nat → Int} {v : Value} {xs : List Value} {o : Obj} (h : Grid w0 w g bs wd G) (ho : w.ownsRow w0.heap.size 9 1 v n xs) (hg : (w.alloc o).grownBy w3 v.ownBlock) : Grid w0 w3 g bs wd G := by
  have hk : ∀ k, k < w.heap.size → some k ≠ v.ownBlock → w3.heap[k]? = w.heap[k]? := fun k h1 h2 => by
    rw [hg.block k (by simp; omega) h2, Below.heap_alloc _ _ _ h1]
  refine ⟨h.len, h.cap, (hk g (blk_lt h.row) (own_ne ho h.row (by decide))).trans h.row, fun r p hp => ?_, h.inj, h.far, h.base, (h.below.alloc h.below.size _).grown hg (Nat.le_trans h.below.size (by simp)) (fun k hk => own_base ho k hk)⟩
  obtain ⟨cs, a1, a2, a3⟩ := h.cells r p hp
  refine ⟨cs, (hk p.1 (blk_lt a1) (fun e => ?_)).trans a1, a2, a3⟩
  obtain ⟨c1, e1⟩ := own_typed ho _ e.symm
  rw [a1] at e1
  injection e1 with e1
  injection e1 with _ e2
  exact absurd e2 (by decide)
def pictG (l : List S58) (rz : Nat) (rn cn : Nat → Nat) : Nat → Nat → Int :=
  if l.length = 0 then (fun _ _ => 32) else starG rn cn (blankG (if leF (lowL l l.length) 0 = true ∧ geF (highL l l.length) 0 = true then some rz else none)) l.length
theorem star_rng (rn cn : Nat → Nat) (zr : Option Nat) (j : Nat) : ∀ r c, 0 ≤ starG rn cn (blankG zr) j r c ∧ starG rn cn (blankG zr) j r c < 256 := by
  induction j with
  | zero => intro r c; unfold starG blankG; split <;> decide
  | succ j ih =>
    intro r c
    unfold starG
    split
    · decide
    · exact ih r c
def Drew (w : World) (wd ht : Nat) (G : Nat → Nat → Int) (e : Ending) (w' : World) : Prop := ∃ v, e = .returned (.tuple #[v, .int .i64 0]) ∧ w'.ownsRow w.heap.size 9 1 v ht (picsL wd ht G ht) ∧ Below w.heap.size w w'
set_option maxHeartbeats 4000000 in
theorem draw_good (A : Option Addr) (c0 wd ht : Nat) (l : List S58) (w : World) (hr : Kd.C k58 w A l.length l) (hc : l.length ≤ c0) (k : Nat) (hord : curve_ordered.f k l = some true) (hlen : l.length ≤ 8796093022208) (hod : Ordd l) (hsp : fk_sub (highL l l.length) (lowL l l.length) = true) (hfi : curve_finite.f (fl_sub (highL l l.length) (lowL l l.length)) = some true)
    (rz : Nat) (hrz : leF (lowL l l.length) 0 = true → geF (highL l l.length) 0 = true → RowOk (lowL l l.length) (fl_sub (highL l l.length) (lowL l l.length)) ht 0 rz ∧ rz < ht)
    (rn cn : Nat → Nat) (hrn : ∀ j, j < l.length → RowOk (lowL l l.length) (fl_sub (highL l l.length) (lowL l l.length)) ht (l.getD j z58).f1 (rn j) ∧ rn j < ht)
    (hcn : ∀ j, j < l.length → cn j < wd ∧ 0 ≤ (l.getD j z58).f0 - (l.getD 0 z58).f0 ∧ (l.getD j z58).f0 ≤ (l.getD (l.length - 1) z58).f0 ∧ -9999999999999 ≤ (l.getD j z58).f0 ∧ (l.getD j z58).f0 ≤ 9999999999999 ∧
      (if (l.getD 0 z58).f0 < (l.getD (l.length - 1) z58).f0 then ((l.getD j z58).f0 - (l.getD 0 z58).f0) * ((wd : Int) - 1) / ((l.getD (l.length - 1) z58).f0 - (l.getD 0 z58).f0) else 0) = (cn j : Int))
    (w1 : 2 ≤ wd) (w2 : wd ≤ 72) (h1 : 2 ≤ ht) (h2 : ht ≤ 40) :
    Calls Try.prog 25 #[.slice A l.length c0, .int .i64 wd, .int .i64 ht] w (Drew w wd ht (pictG l rz rn cn)) := by
  have HR := Aside0.mk hr
  have HC := Aside0.mk hc
  have HLEN := Aside0.mk hlen
  have HOD := Aside0.mk hod
  have HSP := Aside0.mk hsp
  have HFI := Aside0.mk hfi
  have HRZ := Aside0.mk hrz
  have HRN := Aside0.mk hrn
  have HCN := Aside0.mk hcn
  clear hr hc hlen hod hsp hfi hrz hrn hcn
  have b1 : decide ((wd : Int) < 2) = false := decide_eq_false (by omega)
  have b2 : decide ((72 : Int) < wd) = false := decide_eq_false (by omega)
  have b3 : decide ((ht : Int) < 2) = false := decide_eq_false (by omega)
  have b4 : decide ((40 : Int) < ht) = false := decide_eq_false (by omega)
  go_enter Try.func25, Try.ntmps25
  go_wp2_with fail
  go_at_call 48
  with_reducible refine (curve_ordered.calls k A c0 l true w HR.out HC.out hord).mono ?_
  rintro e wo ⟨rfl, hb⟩
  have HB0 := Aside0.mk hb
  clear hb
  go_wp2_with fail
  have HG0 : Aside0 (Grid w (wo.alloc (.cells (gridL wd []).toArray 89)) wo.heap.size [] wd (fun _ _ => 32)) := ⟨Grid.none _ HB0.out⟩
  generalize hg : wo.heap.size = g at HG0 ⊢
  clear hg
  go_loopg [40] (ht + 1) (fun kq v40 w' => ∃ (i : Nat) (bs : List (Nat × Nat)), v40 = .int .i64 (i : Int) ∧ Aside0 (bs.length = i) ∧ Aside0 (kq + i = ht + 1) ∧ Aside0 (i ≤ ht) ∧ Aside0 (Grid w w' g bs wd (fun _ _ => 32)))
  case atStart => exact ⟨0, [], rfl, ⟨rfl⟩, ⟨by omega⟩, ⟨by omega⟩, HG0⟩
  case round =>
    obtain ⟨i, bs, rfl, HL, HK, HI, HG⟩ := hrel
    cases gk with
    | zero => exact absurd HK.out (by have := HI.out; omega)
    | succ k1 =>
      by_cases hlt : i < ht
      · have hb0 : decide ((i : Int) < (ht : Int)) = true := decide_eq_true (by omega)
        go_wp2_with fail
        go_at_call 49
        with_reducible refine (Try.strings_Repeat_main ⟨#[32]⟩ wd wr w1 (by omega) (by rw [show (⟨#[32]⟩ : ByteArray).size = 1 from rfl]; omega) (by decide)).mono ?_
        rintro e w2' ⟨rfl, hb⟩
        obtain ⟨cap, w3, hconv, hcap, hrow, hb3, hlt3⟩ := row_made w2' 32 wd
        have HGM := Aside0.mk ((HG.out.moved hb))
        have hfree := (HGM.out.moved hb3).free (by rw [HL.out]; omega)
        rw [HL.out] at hfree
        obtain ⟨f0, f1⟩ := hfree
        have HGP := Aside0.mk (HGM.out.push (by rw [HL.out]; omega) hcap hrow hb3)
        clear hb hcap hrow hb3 hlt3
        have i40 : (i : Int) < 40 := by omega
        have i0 : (0 : Int) ≤ (i : Int) := by omega
        go_wp2_with fail
        go_roundg k1
        case measure => omega
        case rel => exact ⟨i + 1, bs ++ [(w2'.heap.size, cap)], by simp, ⟨by rw [List.length_append, HL.out]; rfl⟩, ⟨by have := HK.out; omega⟩, ⟨by omega⟩, ⟨HL.out ▸ HGP.out⟩⟩
      · obtain rfl : i = ht := by have := HI.out; omega
        have hb0 : decide ((i : Int) < (i : Int)) = false := decide_eq_false (by omega)
        by_cases hn : l.length = 0
        · have hb1 : decide ((0 : Int) < (l.length : Int)) = false := decide_eq_false (by omega)
          have HN0 := Aside0.mk hn
          have hn1 : ¬ (0 < l.length) := by omega
          clear hn
          have HLF := HL
          have HGF := HG
          have HGB : Aside0 (∀ r c, 0 ≤ (fun (_ _ : Nat) => (32 : Int)) r c ∧ (fun (_ _ : Nat) => (32 : Int)) r c < 256) := ⟨fun _ _ => ⟨show (0 : Int) ≤ 32 by decide, show (32 : Int) < 256 by decide⟩⟩
          have HGE : Aside0 ((fun (_ _ : Nat) => (32 : Int)) = pictG l rz rn cn) := ⟨by unfold pictG; rw [if_pos HN0.out]⟩
          clear HG
          generalize (fun (_ _ : Nat) => (32 : Int)) = GF at HGF HGB HGE ⊢
          go_wp2_with fail
          clear hn1
          obtain ⟨i0, hi0, hz0, hz1, hz2⟩ := info_parts info9'
          have HI0 := Aside0.mk hi0
          have HZ0 := Aside0.mk hz0
          have HZ1 := Aside0.mk hz1
          have HZ2 := Aside0.mk hz2
          clear hi0 hz0 hz1 hz2
          go_loopg [20, 21] (i + 1) (fun kq v20 v21 w' => ∃ (t : Nat), v21 = .int .i64 ((i : Int) - 1 - (t : Int)) ∧ Aside0 (kq + t = i + 1) ∧ Aside0 (t ≤ i) ∧ Aside0 (Grid w w' g bs wd GF) ∧ Aside0 (w'.ownsRow w.heap.size 9 1 v20 t (picsL wd i GF t)))
          case atStart => exact ⟨0, by simp, ⟨by omega⟩, ⟨by omega⟩, HGF, ⟨own_nil _ _ _ _⟩⟩
          case round =>
            obtain ⟨t, rfl, HK9, HT9, HG9, HO9⟩ := hrel
            cases gk with
            | zero => exact absurd HK9.out (by have := HT9.out; omega)
            | succ k9 =>
              by_cases ht9 : t < i
              · have hb9 : decide ((0 : Int) ≤ (i : Int) - 1 - (t : Int)) = true := decide_eq_true (by omega)
                obtain ⟨r, hr9⟩ : ∃ r : Nat, i - 1 - t = r := ⟨_, rfl⟩
                have hr8 : (i : Int) - 1 - (t : Int) = (r : Int) := by omega
                obtain ⟨pr, hpr⟩ : ∃ pr, bs[r]? = some pr := ⟨bs[r]'(by rw [HLF.out]; omega), List.getElem?_eq_getElem _⟩
                have f0 := HG9.out.cell hpr
                have hcv := row_back (HG9.out.cells r pr hpr) (HGB.out r) pr.2
                have r40 : (r : Int) < 40 := by omega
                have r0 : (0 : Int) ≤ (r : Int) := by omega
                have HR8 := Aside0.mk hr8
                have HR9 := Aside0.mk hr9
                rw [hr8] at hb9 ⊢
                clear hpr hr8 hr9
                unfold rowV at f0
                go_wp2_with (first | (at_builtin; refine wpList_append_own_at _ rfl _ _ 52 rfl w.heap.size 9 i0 (.string ⟨#[]⟩) 1 16 Try.underlying52 HI0.out HZ0.out HZ1.out HZ2.out rfl (by decide) u20 t (picsL wd i GF t) rfl (HO9.out.alloc _) ⟨wr.heap.size, 0, none⟩ 1 1 [.string ⟨(rowS wd (GF r)).toArray⟩] (by first | rfl | simp) rfl (World.news_of_block (cs := #[.string ⟨(rowS wd (GF r)).toArray⟩]) (t := 9) (fr := (0, 0)) (heap_alloc_new wr _)) (by simp [Value.oneCell']) (by unfold maxLen; omega) (by omega) (by simp; have := HG9.out.below.size; omega) ?_; intro v1 w3 hown3 hgrow3 _ hat3))
                go_roundg k9
                case measure => omega
                case rel => exact ⟨t + 1, by simp; have := HR8.out; omega, ⟨by have := HK9.out; omega⟩, ⟨by omega⟩, ⟨HG9.out.grown HO9.out hgrow3⟩, ⟨by rw [picsL_succ, HR9.out]; exact hown3⟩⟩
              · obtain rfl : t = i := by have := HT9.out; omega
                have hb9 : decide ((0 : Int) ≤ (t : Int) - 1 - (t : Int)) = false := decide_eq_false (by omega)
                go_wp2_with fail
                go_ret2
                exact ⟨_, rfl, HGE.out ▸ HO9.out, HG9.out.below⟩
        · have hb1 : decide ((0 : Int) < (l.length : Int)) = true := decide_eq_true (by omega)
          have hp0 : (0 : Int) < (l.length : Int) := by omega
          obtain ⟨ad, e1, x0, x1⟩ := at_T58 HR.out 0 (by omega) hp0
          subst e1
          have hbel : Below w.heap.size w wr := HG.out.below
          replace x0 := pw_cell_below hbel x0
          replace x1 := pw_cell_below hbel x1
          rw [show (0 : Int).toNat * 2 = 0 from rfl, show ad.add 0 = ad from rfl] at x0 x1
          clear hbel
          go_wp2_with fail
          go_quiet (fail)
          go_wp2_with fail
          have HGW := Aside0.mk (HG.out.moved (pw_below_drewN (Below.refl wr.heap.size wr) nq))
          clear HG
          generalize wr.drewN nq = wq at HGW ⊢
          go_loopg [10, 11, 62] (l.length + 1) (fun kq v10 v11 v62 w' => ∃ (j : Nat) (a b : Nat), v62 = .int .i64 (j : Int) ∧ v10 = .float .f32 a ∧ v11 = .float .f32 b ∧ Aside0 (lowL l j = a) ∧ Aside0 (highL l j = b) ∧ Aside0 (kq + j = l.length + 1) ∧ Aside0 (j ≤ l.length) ∧ Aside0 (Below wq.heap.size wq w'))
          case atStart => exact ⟨0, _, _, rfl, rfl, rfl, ⟨rfl⟩, ⟨rfl⟩, ⟨by omega⟩, ⟨by omega⟩, ⟨Below.refl _ _⟩⟩
          case round =>
            obtain ⟨j, a, b, rfl, rfl, rfl, HLO, HHI, HK2, HJ, HB2⟩ := hrel
            cases gk with
            | zero => exact absurd HK2.out (by have := HJ.out; omega)
            | succ k2 =>
              have HGR := Aside0.mk (HGW.out.moved HB2.out)
              by_cases hj : j < l.length
              · have hb2 : decide ((j : Int) < (l.length : Int)) = true := decide_eq_true (by omega)
                obtain ⟨ad', e1, y0, y1⟩ := at_T58 HR.out (j : Int) (by omega) (by omega)
                cases e1
                rw [Int.toNat_natCast] at y0 y1
                replace y0 := pw_cell_below HGR.out.below y0
                replace y1 := pw_cell_below HGR.out.below y1
                have p1 : (j : Int) < (l.length : Int) := by omega
                have p2 : (0 : Int) ≤ (j : Int) := by omega
                have p3 : (j : Int) < 8796093022208 := by have := HLEN.out; omega
                have hj' := HOD.out j hj
                have hlo := lowL_succ l j hj
                have hhi := highL_succ l j hj
                rw [show (l.getD j z58).f1 = (rd_T58 l (j : Int)).f1 from rfl] at hj' hlo hhi
                rw [HLO.out] at hj' hlo
                rw [HHI.out] at hj' hhi
                generalize (rd_T58 l (j : Int)).f0 = X at y0
                generalize (rd_T58 l (j : Int)).f1 = Y at y1 hj' hlo hhi
                have HLO2 := Aside0.mk hlo
                have HHI2 := Aside0.mk hhi
                obtain ⟨o1, o2⟩ := hj'
                clear hlo hhi
                go_wp2_with fail
                go_quiet (fail)
                go_wp2_with fail
                go_roundg k2
                case measure => omega
                case rel => exact ⟨j + 1, lowF a Y, highF b Y, by simp, rfl, rfl, HLO2, HHI2, ⟨by have := HK2.out; omega⟩, ⟨by omega⟩, ⟨pw_below_drewN (HB2.out.alloc HB2.out.size _) _⟩⟩
              · obtain rfl : j = l.length := by have := HJ.out; omega
                have hb2 : decide ((l.length : Int) < (l.length : Int)) = false := decide_eq_false (by omega)
                have hsub := HSP.out
                have hfin := HFI.out
                rw [HLO.out, HHI.out] at hsub hfin
                go_wp2_with fail
                go_at_call 50
                with_reducible refine (curve_finite.calls _ true _ hfin).mono ?_
                rintro e wf ⟨rfl, ⟨⟨nf, rfl⟩⟩⟩
                have HGP := Aside0.mk (HGR.out.moved (pw_below_drewN ((Below.refl wr.heap.size wr).alloc (Nat.le_refl _) (.cells #[.float .f32 a, .float .f32 (fl_sub b a), .int .i64 i] 92)) nf))
                have HPB := Aside0.mk (show ((wr.alloc (.cells #[.float .f32 a, .float .f32 (fl_sub b a), .int .i64 i] 92)).drewN nf).heap[wr.heap.size]? = some (.cells #[.float .f32 a, .float .f32 (fl_sub b a), .int .i64 i] 92 (0, 0)) from blk_new wr _)
                have HRZ2 := HRZ.out
                have HRN2 := HRN.out
                rw [HLO.out, HHI.out] at HRZ2 HRN2
                have HRZ3 := Aside0.mk HRZ2
                have HRN3 := Aside0.mk HRN2
                clear HRZ2 HRN2 hsub hfin HB2 HGR
                generalize (wr.alloc (.cells #[.float .f32 a, .float .f32 (fl_sub b a), .int .i64 i] 92)).drewN nf = wp at HGP HPB ⊢
                generalize wr.heap.size = gp at HPB ⊢
                generalize fl_sub b a = D at HPB HRZ3 HRN3 ⊢
                have g0 : wp.cell? ⟨gp, 0, none⟩ = some (.float .f32 a) := (blk_cell HPB.out 0).trans rfl
                have g1 : wp.cell? ⟨gp, 1, none⟩ = some (.float .f32 D) := (blk_cell HPB.out 1).trans rfl
                have g2 : wp.cell? ⟨gp, 2, none⟩ = some (.int .i64 i) := (blk_cell HPB.out 2).trans rfl
                have HLB := Aside0.mk HL.out
                obtain ⟨zr, hzr⟩ : ∃ zr : Option Nat, (if leF a 0 = true ∧ geF b 0 = true then some rz else none) = zr := ⟨_, rfl⟩
                have hcz : (leF a 0 = true ∧ geF b 0 = true) ∨ (leF a 0 = false) ∨ (leF a 0 = true ∧ geF b 0 = false) := by
                  cases leF a 0 <;> cases geF b 0 <;> simp
                have HZE := Aside0.mk hzr
                rcases hcz with ⟨hz1, hz2⟩ | hz1 | ⟨hz1, hz2⟩
                case' inl =>
                  obtain ⟨hk, hrz⟩ := HRZ3.out hz1 hz2
                  have HK3 := Aside0.mk hk
                  rw [if_pos ⟨hz1, hz2⟩] at hzr
                  have HZR := Aside0.mk hzr
                  clear hzr
                  clear hk
                  unfold leF at hz1
                  unfold geF at hz2
                  go_wp2_with fail
                  with_reducible refine (row_c a D 0 rz i wp HK3.out (by omega) (by omega) (by omega)).mono ?_
                  rintro e wq2 ⟨rfl, hb⟩
                  have HG4 := Aside0.mk (HGP.out.moved hb)
                  have HP4 := Aside0.mk (blk_below HPB.out hb)
                  clear hb g0 g1 g2
                  go_wp2_with fail
                  go_at_call 49
                  with_reducible refine (Try.strings_Repeat_main ⟨#[45]⟩ wd wq2 w1 (by omega) (by rw [show (⟨#[45]⟩ : ByteArray).size = 1 from rfl]; omega) (by decide)).mono ?_
                  rintro e w2' ⟨rfl, hb⟩
                  obtain ⟨cap, w3, hconv, hcap, hrow, hb3, hlt3⟩ := row_made w2' 45 wd
                  have HGM := Aside0.mk ((HG4.out.moved hb))
                  have HPM := Aside0.mk (blk_below (blk_below HP4.out hb) hb3)
                  obtain ⟨pz, hpz⟩ : ∃ pz, bs[rz]? = some pz := ⟨bs[rz]'(by rw [HL.out]; exact hrz), List.getElem?_eq_getElem _⟩
                  have f0 := (HGM.out.moved hb3).cell hpz
                  have f1 : w3.frozen? ⟨g, rz, none⟩ = false := blk_frozen (HGM.out.moved hb3).row _
                  have HGX := Aside0.mk (HGM.out.put hpz hcap hrow hb3)
                  have hgne : gp ≠ g := by
                    intro e
                    have e1 := HP4.out
                    rw [e, HG4.out.row] at e1
                    injection e1 with e1
                    injection e1 with _ e2
                    exact absurd e2 (by decide)
                  have HPX := Aside0.mk (blk_far HPM.out (p := ⟨g, rz, none⟩) hgne (rowV wd (w2'.heap.size, cap)))
                  have HLX : Aside0 ((bs.set rz (w2'.heap.size, cap)).length = i) := ⟨by rw [List.length_set]; exact HL.out⟩
                  clear hb hcap hrow hb3 hlt3 hgne hpz
                  have i40 : (rz : Int) < 40 := by omega
                  have i0 : (0 : Int) ≤ (rz : Int) := by omega
                  unfold rowV at f0
                  go_wp2_with fail
                  replace HGX := Aside0.mk (show Grid w (w3.setCell ⟨g, rz, none⟩ (.slice (some ⟨w2'.heap.size, 0, none⟩) wd cap)) g (bs.set rz (w2'.heap.size, cap)) wd (blankG zr) by
                    have h := HGX.out
                    have e : (fun r => if r = rz then (fun _ => ((45 : UInt8).toNat : Int)) else (fun (_ _ : Nat) => (32 : Int)) r) = blankG zr := by
                      funext r c
                      rw [← HZR.out]
                      unfold blankG
                      by_cases h : r = rz
                      · simp [h]
                      · simp [h]
                        exact fun e => h e.symm
                    rw [e] at h
                    exact h)
                  replace HPX := Aside0.mk (show (w3.setCell ⟨g, rz, none⟩ (.slice (some ⟨w2'.heap.size, 0, none⟩) wd cap)).heap[gp]? = some (.cells #[.float .f32 a, .float .f32 D, .int .i64 i] 92 (0, 0)) from HPX.out)
                  clear HGM HPM HG4 HP4 f0 f1 hconv
                  generalize w3.setCell ⟨g, rz, none⟩ (.slice (some ⟨w2'.heap.size, 0, none⟩) wd cap) = wx at HGX HPX ⊢
                  generalize bs.set rz (w2'.heap.size, cap) = bs2 at HGX HLX
                case' inr.inl =>
                  rw [if_neg (by simp [hz1])] at hzr
                  have HZR := Aside0.mk hzr
                  clear hzr
                  have HGX := Aside0.mk (show Grid w wp g bs wd (blankG zr) by rw [← HZR.out]; exact HGP.out)
                  have HPX := HPB
                  have HLX := HL
                  unfold leF at hz1
                  go_wp2_with fail
                  clear HGP HPB g0 g1 g2
                  generalize wp = wx at HGX HPX ⊢
                  generalize bs = bs2 at HGX HLX
                case' inr.inr =>
                  rw [if_neg (by simp [hz2])] at hzr
                  have HZR := Aside0.mk hzr
                  clear hzr
                  have HGX := Aside0.mk (show Grid w wp g bs wd (blankG zr) by rw [← HZR.out]; exact HGP.out)
                  have HPX := HPB
                  have HLX := HL
                  unfold leF at hz1
                  unfold geF at hz2
                  go_wp2_with fail
                  clear HGP HPB g0 g1 g2
                  generalize wp = wx at HGX HPX ⊢
                  generalize bs = bs2 at HGX HLX
                all_goals (
                  obtain ⟨ad', e1, x0, x1⟩ := at_T58 HR.out 0 (by omega) hp0
                  cases e1
                  obtain ⟨ad', e1, y0, y1⟩ := at_T58 HR.out ((l.length : Int) - 1) (by omega) (by omega)
                  cases e1
                  rw [show ((l.length : Int) - 1).toNat = l.length - 1 by omega] at y0 y1
                  replace x0 := pw_cell_below HGX.out.below x0
                  replace y0 := pw_cell_below HGX.out.below y0
                  rw [show (0 : Int).toNat * 2 = 0 from rfl, show ad.add 0 = ad from rfl] at x0
                  clear x1 y1
                  have eF : (rd_T58 l 0).f0 = (l.getD 0 z58).f0 := rfl
                  have eL : (rd_T58 l ((l.length : Int) - 1)).f0 = (l.getD (l.length - 1) z58).f0 := by unfold rd_T58; rw [show ((l.length : Int) - 1).toNat = l.length - 1 by omega]
                  rw [eF] at x0
                  rw [eL] at y0
                  have HCN2 := HCN.out
                  obtain ⟨cz0, cz1, cz2, cz3, cz4, _⟩ := HCN2 0 (by omega)
                  obtain ⟨cl0, cl1, cl2, cl3, cl4, _⟩ := HCN2 (l.length - 1) (by omega)
                  generalize (l.getD 0 z58).f0 = F at x0 HCN2 cz1 cz2 cz3 cz4 cl1
                  generalize (l.getD (l.length - 1) z58).f0 = L at y0 HCN2 cz2 cl1 cl2 cl3 cl4
                  have HCN3 := Aside0.mk HCN2
                  clear HCN2 eF eL cz0 cz1 cl0 cl2
                  have q1 : IntKind.i64.wrap ((l.length : Int) - 1) = (l.length : Int) - 1 := Go.IntWalk.i64_in _ (by have := HLEN.out; omega)
                  have q2 : (0 : Int) ≤ (l.length : Int) - 1 := by omega
                  have q3 : ((l.length : Int) - 1).toNat = l.length - 1 := by omega
                  go_quiet (fail)
                  clear q1 q2 q3 x0 y0
                  have HGQ := Aside0.mk (HGX.out.moved (pw_below_drewN (Below.refl wx.heap.size wx) nq))
                  have HPQ := Aside0.mk (show (wx.drewN nq).heap[gp]? = some (.cells #[.float .f32 a, .float .f32 D, .int .i64 i] 92 (0, 0)) from HPX.out)
                  clear HGX HPX
                  generalize wx.drewN nq = wy at HGQ HPQ ⊢
                  go_wp2_with fail
                  go_loopg [110] (l.length + 1) (fun kq v110 w' => ∃ (j : Nat), v110 = .int .i64 (j : Int) ∧ Aside0 (kq + j = l.length + 1) ∧ Aside0 (j ≤ l.length) ∧ Aside0 (Grid w w' g bs2 wd (starG rn cn (blankG zr) j)) ∧ Aside0 (w'.heap[gp]? = some (.cells #[.float .f32 a, .float .f32 D, .int .i64 i] 92 (0, 0))))
                  case atStart => exact ⟨0, rfl, ⟨by omega⟩, ⟨by omega⟩, HGQ, HPQ⟩
                  case round =>
                    obtain ⟨j, rfl, HK4, HJ4, HG5, HP5⟩ := hrel
                    cases gk with
                    | zero => exact absurd HK4.out (by have := HJ4.out; omega)
                    | succ k4 =>
                      by_cases hj : j < l.length
                      · have hb5 : decide ((j : Int) < (l.length : Int)) = true := decide_eq_true (by omega)
                        obtain ⟨ad', e1, x0, x1⟩ := at_T58 HR.out (j : Int) (by omega) (by omega)
                        cases e1
                        rw [Int.toNat_natCast] at x0 x1
                        replace x0 := pw_cell_below HG5.out.below x0
                        replace x1 := pw_cell_below HG5.out.below x1
                        obtain ⟨d0, d1, d2, d3, d4, d5⟩ := HCN3.out j hj
                        obtain ⟨hk, hrl⟩ := HRN3.out j hj
                        have eX : (rd_T58 l (j : Int)).f0 = (l.getD j z58).f0 := rfl
                        have eY : (rd_T58 l (j : Int)).f1 = (l.getD j z58).f1 := rfl
                        rw [eX] at x0
                        rw [eY] at x1
                        generalize (l.getD j z58).f0 = X at x0 d1 d2 d3 d4 d5
                        generalize (l.getD j z58).f1 = Y at x1 hk
                        have HK5 := Aside0.mk hk
                        have HST : Aside0 (starG rn cn (blankG zr) (j + 1) = fun r c => if r = rn j ∧ c = cn j then 42 else starG rn cn (blankG zr) j r c) := ⟨rfl⟩
                        clear eX eY hk
                        generalize rn j = R at HK5 hrl HST
                        generalize cn j = C at d0 d5 HST
                        have p1 : (j : Int) < (l.length : Int) := by omega
                        have p2 : (0 : Int) ≤ (j : Int) := by omega
                        have p3 : (j : Int) < 8796093022208 := by have := HLEN.out; omega
                        obtain ⟨q0, q1⟩ : 0 ≤ (X - F) * ((wd : Int) - 1) ∧ (X - F) * ((wd : Int) - 1) ≤ 1419999999999858 := by
                          refine ⟨Int.mul_nonneg d1 (by omega), Int.le_trans (Int.mul_le_mul (show X - F ≤ 19999999999998 by omega) (show (wd : Int) - 1 ≤ 71 by omega) (by omega) (by omega)) (by decide)⟩
                        have g0 : wr.cell? ⟨gp, 0, none⟩ = some (.float .f32 a) := (blk_cell HP5.out 0).trans rfl
                        have g1 : wr.cell? ⟨gp, 1, none⟩ = some (.float .f32 D) := (blk_cell HP5.out 1).trans rfl
                        have g2 : wr.cell? ⟨gp, 2, none⟩ = some (.int .i64 i) := (blk_cell HP5.out 2).trans rfl
                        have HQ := Aside0.mk (And.intro q0 q1)
                        have HD := Aside0.mk (And.intro d1 (And.intro d2 (And.intro d3 d4)))
                        have HCZ := Aside0.mk (And.intro cz2 (And.intro cz3 (And.intro cz4 (And.intro cl1 (And.intro cl3 cl4)))))
                        clear q0 q1 d1 d2 d3 d4 cz2 cz3 cz4 cl1 cl3 cl4
                        have HBW := Aside0.mk ((Below.refl wr.heap.size wr).alloc (Nat.le_refl _) (.cells #[.int .i64 X, .float .f32 Y] 58))
                        have HBK := Aside0.mk (blk_new wr (.cells #[.int .i64 X, .float .f32 Y] 58))
                        go_upto_region 27 with (fail)
                        have HG6 := Aside0.mk (HG5.out.moved HBW.out)
                        have HP6 := Aside0.mk (blk_below HP5.out HBW.out)
                        clear x0 x1 g0 g1 g2 HBW
                        generalize wr.alloc (.cells #[.int .i64 X, .float .f32 Y] 58) = wb at HBK HG6 HP6 ⊢
                        generalize wr.heap.size = gb at HBK ⊢
                        have b0 : wb.cell? ⟨gb, 0, none⟩ = some (.int .i64 X) := (blk_cell HBK.out 0).trans rfl
                        have b1' : wb.cell? ⟨gb, 1, none⟩ = some (.float .f32 Y) := (blk_cell HBK.out 1).trans rfl
                        have g0 : wb.cell? ⟨gp, 0, none⟩ = some (.float .f32 a) := (blk_cell HP6.out 0).trans rfl
                        have g1 : wb.cell? ⟨gp, 1, none⟩ = some (.float .f32 D) := (blk_cell HP6.out 1).trans rfl
                        have g2 : wb.cell? ⟨gp, 2, none⟩ = some (.int .i64 i) := (blk_cell HP6.out 2).trans rfl
                        by_cases hFL : F < L
                        · have hb6 : decide (F < L) = true := decide_eq_true hFL
                          rw [if_pos hFL] at d5
                          have HD5 := Aside0.mk d5
                          clear d5
                          have hquo : ((X - F) * ((wd : Int) - 1)).tdiv (L - F) = (C : Int) := by rw [Int.tdiv_eq_ediv_of_nonneg HQ.out.1]; exact HD5.out
                          have hLF : ¬ (L - F = 0) := by omega
                          go_upto_region 29 with (fail)
                          apply wp_region_lit
                          refine Kd.event_run rfl rfl ?_
                          refine Kd.event_run (v := .int .i64 X) (w1 := wb) rfl (by go_simp) ?_
                          refine Kd.event_run rfl rfl ?_
                          refine Kd.event_run (v := .int .i64 (X - F)) (w1 := wb) rfl (by go_simp; exact Go.IntWalk.i64_in _ (by have := HD.out; have := HCZ.out; omega)) ?_
                          refine Kd.event_run rfl rfl ?_
                          refine Kd.event_run (v := .int .i64 ((wd : Int) - 1)) (w1 := wb) rfl (by go_simp; exact Go.IntWalk.i64_in _ (by omega)) ?_
                          refine Kd.event_run (v := .int .i64 ((X - F) * ((wd : Int) - 1))) (w1 := wb) rfl (by go_simp; exact Go.IntWalk.i64_in _ ⟨Int.le_trans (by decide) HQ.out.1, Int.le_trans HQ.out.2 (by decide)⟩) ?_
                          refine Kd.event_run rfl rfl ?_
                          refine Kd.event_run rfl rfl ?_
                          refine Kd.event_run (v := .int .i64 (L - F)) (w1 := wb) rfl (by go_simp; exact Go.IntWalk.i64_in _ (by have := HD.out; have := HCZ.out; omega)) ?_
                          refine Kd.event_run (v := .int .i64 (C : Int)) (w1 := wb) rfl (by go_simp; exact Go.IntWalk.i64_in _ (by omega)) ?_
                          refine Kd.event_run rfl rfl ?_
                          apply wpList_nil
                          clear hquo hLF
                          go_simp
                          go_wp2_with fail
                          with_reducible refine (row_c a D Y R i wb HK5.out (by omega) (by omega) (by omega)).mono ?_
                          rintro e wc ⟨rfl, hb⟩
                          obtain ⟨pr, hpr⟩ : ∃ pr, bs2[R]? = some pr := ⟨bs2[R]'(by rw [HLX.out]; exact hrl), List.getElem?_eq_getElem _⟩
                          have HG7 := Aside0.mk (HG6.out.moved hb)
                          have HP7 := Aside0.mk (blk_below HP6.out hb)
                          have f0 := HG7.out.cell hpr
                          obtain ⟨f1, f2⟩ := (HG7.out.cells R pr hpr).cell C d0
                          have hcap := HG7.out.cap pr (List.mem_of_getElem? hpr)
                          have hpg : pr.1 ≠ gp := by
                            intro e
                            obtain ⟨cs, e1, _, _⟩ := HG7.out.cells R pr hpr
                            rw [e, HP7.out] at e1
                            injection e1 with e1
                            injection e1 with _ e2
                            exact absurd e2 (by decide)
                          have HG8 := Aside0.mk (HG7.out.mark hpr d0 42)
                          have HP8 := Aside0.mk ((Below.heap_setCell wc ⟨pr.1, C, none⟩ (.int .u8 42) gp (fun e => hpg e.symm)).trans HP7.out)
                          clear hb hpr hpg b0 b1' g0 g1 g2
                          have r40 : (R : Int) < 40 := by omega
                          have r0 : (0 : Int) ≤ (R : Int) := by omega
                          have c40 : (C : Int) < (wd : Int) := by omega
                          have c00 : (0 : Int) ≤ (C : Int) := by omega
                          unfold rowV at f0
                          go_wp2_with fail
                          go_roundg k4
                          case measure => omega
                          case rel => exact ⟨j + 1, by simp, ⟨by have := HK4.out; omega⟩, ⟨by omega⟩, ⟨HST.out ▸ HG8.out⟩, HP8⟩
                        · have hb6 : decide (F < L) = false := decide_eq_false hFL
                          rw [if_neg hFL] at d5
                          obtain rfl : C = 0 := by omega
                          clear d5
                          go_wp2_with fail
                          with_reducible refine (row_c a D Y R i wb HK5.out (by omega) (by omega) (by omega)).mono ?_
                          rintro e wc ⟨rfl, hb⟩
                          obtain ⟨pr, hpr⟩ : ∃ pr, bs2[R]? = some pr := ⟨bs2[R]'(by rw [HLX.out]; exact hrl), List.getElem?_eq_getElem _⟩
                          have HG7 := Aside0.mk (HG6.out.moved hb)
                          have HP7 := Aside0.mk (blk_below HP6.out hb)
                          have f0 := HG7.out.cell hpr
                          obtain ⟨f1, f2⟩ := (HG7.out.cells R pr hpr).cell 0 d0
                          have hcap := HG7.out.cap pr (List.mem_of_getElem? hpr)
                          have hpg : pr.1 ≠ gp := by
                            intro e
                            obtain ⟨cs, e1, _, _⟩ := HG7.out.cells R pr hpr
                            rw [e, HP7.out] at e1
                            injection e1 with e1
                            injection e1 with _ e2
                            exact absurd e2 (by decide)
                          have HG8 := Aside0.mk (HG7.out.mark hpr d0 42)
                          have HP8 := Aside0.mk ((Below.heap_setCell wc ⟨pr.1, 0, none⟩ (.int .u8 42) gp (fun e => hpg e.symm)).trans HP7.out)
                          clear hb hpr hpg b0 b1' g0 g1 g2
                          have r40 : (R : Int) < 40 := by omega
                          have r0 : (0 : Int) ≤ (R : Int) := by omega
                          have c40 : ((0 : Nat) : Int) < (wd : Int) := by omega
                          have c00 : (0 : Int) ≤ ((0 : Nat) : Int) := by omega
                          unfold rowV at f0
                          go_wp2_with fail
                          go_roundg k4
                          case measure => omega
                          case rel => exact ⟨j + 1, by simp, ⟨by have := HK4.out; omega⟩, ⟨by omega⟩, ⟨HST.out ▸ HG8.out⟩, HP8⟩
                      · obtain rfl : j = l.length := by have := HJ4.out; omega
                        have hb5 : decide ((l.length : Int) < (l.length : Int)) = false := decide_eq_false (by omega)
                        have HLF := HLX
                        have HGE : Aside0 (starG rn cn (blankG zr) l.length = pictG l rz rn cn) := ⟨by unfold pictG; rw [if_neg (by omega), HLO.out, HHI.out, HZE.out]⟩
                        have HGB := Aside0.mk (star_rng rn cn zr l.length)
                        have HGF := HG5
                        clear HG5
                        generalize starG rn cn (blankG zr) l.length = GF at HGF HGE HGB
                        go_wp2_with fail
                        obtain ⟨i0, hi0, hz0, hz1, hz2⟩ := info_parts info9'
                        have HI0 := Aside0.mk hi0
                        have HZ0 := Aside0.mk hz0
                        have HZ1 := Aside0.mk hz1
                        have HZ2 := Aside0.mk hz2
                        clear hi0 hz0 hz1 hz2
                        go_loopg [20, 21] (i + 1) (fun kq v20 v21 w' => ∃ (t : Nat), v21 = .int .i64 ((i : Int) - 1 - (t : Int)) ∧ Aside0 (kq + t = i + 1) ∧ Aside0 (t ≤ i) ∧ Aside0 (Grid w w' g bs2 wd GF) ∧ Aside0 (w'.ownsRow w.heap.size 9 1 v20 t (picsL wd i GF t)))
                        case atStart => exact ⟨0, by simp, ⟨by omega⟩, ⟨by omega⟩, HGF, ⟨own_nil _ _ _ _⟩⟩
                        case round =>
                          obtain ⟨t, rfl, HK9, HT9, HG9, HO9⟩ := hrel
                          cases gk with
                          | zero => exact absurd HK9.out (by have := HT9.out; omega)
                          | succ k9 =>
                            by_cases ht9 : t < i
                            · have hb9 : decide ((0 : Int) ≤ (i : Int) - 1 - (t : Int)) = true := decide_eq_true (by omega)
                              obtain ⟨r, hr9⟩ : ∃ r : Nat, i - 1 - t = r := ⟨_, rfl⟩
                              have hr8 : (i : Int) - 1 - (t : Int) = (r : Int) := by omega
                              obtain ⟨pr, hpr⟩ : ∃ pr, bs2[r]? = some pr := ⟨bs2[r]'(by rw [HLF.out]; omega), List.getElem?_eq_getElem _⟩
                              have f0 := HG9.out.cell hpr
                              have hcv := row_back (HG9.out.cells r pr hpr) (HGB.out r) pr.2
                              have r40 : (r : Int) < 40 := by omega
                              have r0 : (0 : Int) ≤ (r : Int) := by omega
                              have HR8 := Aside0.mk hr8
                              have HR9 := Aside0.mk hr9
                              rw [hr8] at hb9 ⊢
                              clear hpr hr8 hr9
                              unfold rowV at f0
                              go_wp2_with (first | (at_builtin; refine wpList_append_own_at _ rfl _ _ 52 rfl w.heap.size 9 i0 (.string ⟨#[]⟩) 1 16 Try.underlying52 HI0.out HZ0.out HZ1.out HZ2.out rfl (by decide) u20 t (picsL wd i GF t) rfl (HO9.out.alloc _) ⟨wr.heap.size, 0, none⟩ 1 1 [.string ⟨(rowS wd (GF r)).toArray⟩] (by first | rfl | simp) rfl (World.news_of_block (cs := #[.string ⟨(rowS wd (GF r)).toArray⟩]) (t := 9) (fr := (0, 0)) (heap_alloc_new wr _)) (by simp [Value.oneCell']) (by unfold maxLen; omega) (by omega) (by simp; have := HG9.out.below.size; omega) ?_; intro v1 w3 hown3 hgrow3 _ hat3))
                              go_roundg k9
                              case measure => omega
                              case rel => exact ⟨t + 1, by simp; have := HR8.out; omega, ⟨by have := HK9.out; omega⟩, ⟨by omega⟩, ⟨HG9.out.grown HO9.out hgrow3⟩, ⟨by rw [picsL_succ, HR9.out]; exact hown3⟩⟩
                            · obtain rfl : t = i := by have := HT9.out; omega
                              have hb9 : decide ((0 : Int) ≤ (t : Int) - 1 - (t : Int)) = false := decide_eq_false (by omega)
                              go_wp2_with fail
                              go_ret2
                              exact ⟨_, rfl, HGE.out ▸ HO9.out, HG9.out.below⟩)
end Go.Proofs.Ytfhgomcfpmbhnaa.Y
end

section
namespace Go.Proofs.Ytfhgomcfpmbhnaa.F
open Go Go.RowKit Go.Proofs.Ytfhgomcfpmbhnaa.Y Go.Proofs.Ytfhgomcfpmbhnaa.PS Ieee
open Go.Proofs.YtfhgomcfpmbhnaaW.PrintWords Go.Proofs.YtfhgomcfpmbhnaaW.PrintMore
set_option linter.unusedVariables false
set_option linter.unusedSimpArgs false
theorem heights : ∀ h : Fin 41, 2 ≤ h.val → FloatKind.f32.nearest (((h.val : Nat) : Int) - 1) < 2139095040 ∧ (Ieee.single.add (FloatKind.f32.nearest (((h.val : Nat) : Int) - 1)) 1056964608).getD 0 < 1200000000 ∧
    units (FloatKind.f32.nearest (((h.val : Nat) : Int) - 1)) + units 1056964608 = units ((Ieee.single.add (FloatKind.f32.nearest (((h.val : Nat) : Int) - 1)) 1056964608).getD 0) ∧ wholeN ((Ieee.single.add (FloatKind.f32.nearest (((h.val : Nat) : Int) - 1)) 1056964608).getD 0) = h.val - 1 := by
  decide +kernel
theorem units_one : units 1065353216 = 2 ^ 149 := by decide +kernel
theorem part_is (x : Nat) (hx : x < 1200000000) : levyref17_Part.f (x : Int) = some ((wholeN x : Nat) : Int) := by
  have fx : x % 2147483648 < 2139095040 := by omega
  have hm := m_lt x
  obtain ⟨e0, e1⟩ := e_in x fx
  have e2 : eX x ≤ -7 := by unfold eX; split <;> omega
  unfold levyref17_Part.f
  rw [parts_is x (by omega)]
  simp only [Option.bind_some]
  unfold wholeN
  generalize mX x = m at *
  obtain ⟨n, hn⟩ : ∃ n : Nat, eX x = -(n : Int) := ⟨(-eX x).toNat, by omega⟩
  rw [hn] at e0 e1 e2 ⊢
  rw [if_neg (by omega), show (-(n : Int)).toNat = 0 by omega, show (-(-(n : Int))).toNat = n by omega, Nat.pow_zero, Nat.mul_one]
  by_cases h : -(n : Int) < -40
  · rw [if_pos h, Nat.div_eq_of_lt]
    · rfl
    · have : 2 ^ 24 ≤ 2 ^ n := Nat.pow_le_pow_right (by decide) (by omega)
      omega
  · rw [if_neg h, show wrap64 (-(-(n : Int))) = n by unfold wrap64; omega, u64_id _ (by omega) (by omega), if_pos (by omega)]
    refine congrArg some ?_
    have hs : shr .u64 (m : Int) (n : Int) = ((m / 2 ^ n : Nat) : Int) := by
      unfold shr
      rw [show min (n : Int).toNat IntKind.u64.bits = n by show min n 64 = n; omega, pow_nat, Int.natCast_ediv]
    rw [hs]
    have : m / 2 ^ n ≤ m := Nat.div_le_self _ _
    generalize m / 2 ^ n = z at *
    unfold wrap64
    omega
theorem valI_eq (x y : Nat) (hx : x < 4294967296) (hy : y < 4294967296) : valI x = valI y ↔ ordI x = ordI y := by
  have h1 := valI_lt x y hx hy
  have h2 := valI_lt y x hy hx
  omega
theorem nearest_to (m r k : Nat) (hr : r < 2139095040) (h : m ≤ units r * 2 ^ k) : ∃ r', r' ≤ r ∧ (m = 0 → r' = 0) ∧ ∀ s, single.nearest s m (-149 - (k : Int)) = single.word s r' := by
  by_cases h0 : m = 0
  · exact ⟨0, Nat.zero_le _, fun _ => rfl, fun s => by rw [h0, nearest_zero]⟩
  · have hm : units r * 2 ^ k ≠ 0 := by omega
    have e1 := nearest_rung false (units r * 2 ^ k) (-149 - (k : Int)) hm
    rw [nearest_scale, nearest_units false r hr, word_false, word_false] at e1
    have e2 := rung_mono m (units r * 2 ^ k) (-149 - (k : Int)) h
    exact ⟨min (rung m (-149 - (k : Int))) 2139095040, by omega, fun h => absurd h h0, fun s => nearest_rung s m _ h0⟩
theorem nearest_mono (m m' : Nat) (e : Int) (hm : m ≠ 0) (h : m ≤ m') : single.nearest false m e ≤ single.nearest false m' e := by
  rw [nearest_rung false m e hm, nearest_rung false m' e (by omega), word_false, word_false]
  have := rung_mono m m' e h
  omega
theorem chainR (Sm : Option Bool) (S1 S2 : Nat → Option Int) (Dv : Nat → Int → Int → Option Int) (Wh : Option Int) (M : Int → Int → Option Int) (A : Nat → Int → Option Int) (P : Int → Option Int) (a d t h m s n : Int)
    (h0 : Sm = some false) (h1 : Ev S1 a) (h2 : Ev S2 d) (h3 : Ev (fun k => Dv k a d) t) (h4 : Wh = some h) (h5 : M t h = some m) (h6 : Ev (fun k => A k m) s) (h7 : P s = some n) :
    Ev (fun k => Sm.bind fun t220 => (if t220 = true then (some 0) else ((S1 k).bind fun t221 => ((S2 k).bind fun t222 => ((Dv k t221 t222).bind fun t223 => (Wh.bind fun t224 => ((M t223 t224).bind fun t225 => ((A k t225).bind fun t226 => ((P t226).bind fun t227 => (some t227))))))))) ) n := by
  rw [h0]
  simp only [Option.bind_some, Bool.false_eq_true, if_false]
  refine Ev.bind (f := fun k t221 => _) h1 ?_
  refine Ev.bind (f := fun k t222 => _) h2 ?_
  refine Ev.bind (f := fun k t223 => _) h3 ?_
  rw [h4]
  simp only [Option.bind_some]
  rw [h5]
  simp only [Option.bind_some]
  refine Ev.bind (f := fun k t226 => _) h6 ?_
  rw [h7]
  exact Ev.now _
theorem valI_word (s : Bool) (r : Nat) (hr : r ≤ 2139095040) : valI (single.word s r) = pm s (units r) := by
  obtain ⟨w1, w2, w3⟩ := word_at s r hr
  unfold valI
  rw [w2, w3]
theorem valI_half : valI 1056964608 = (units 1056964608 : Int) := by
  unfold valI
  rw [show (1056964608 : Nat) % 2147483648 = 1056964608 from rfl, show sX 1056964608 = false by decide]
  generalize units 1056964608 = u
  rfl
theorem units_nil : units 0 = 0 := by decide
theorem row_is (low high y low' high' h : Nat) (fl : IsFin low) (fh : IsFin high) (fy : IsFin y) (fl' : IsFin low') (fh' : IsFin high') (el : valI low' = valI low) (eh : valI high' = valI high) (h0 : valI low ≤ valI y) (h1 : valI y ≤ valI high)
    (hD : fl_sub high low % 2147483648 < 2139095040) (k0 : 2 ≤ h) (k1 : h ≤ 40) :
    ∃ n, n < h ∧ RowOk low (fl_sub high low) h y n ∧ Ev (fun k => levyref17_row.f k (y : Int) (low' : Int) (high' : Int) (h : Int)) (n : Int) := by
  have hsame : levyref17_Same.f (low' : Int) (high' : Int) = some (decide (valI low = valI high)) := by
    rw [same_is low' high' fl'.1 fh'.1, order_is low' high' fl'.1 fh'.1 (Nat.le_of_lt fl'.2) (Nat.le_of_lt fh'.2), cmp_eq]
    refine congrArg some ?_
    rw [Bool.eq_iff_iff]
    simp only [decide_eq_true_eq]
    rw [← valI_eq low' high' fl'.1 fh'.1, el, eh]
  by_cases hc : valI low = valI high
  · refine ⟨0, by omega, .inl ⟨?_, rfl⟩, ?_⟩
    · have hs := sub_units high low fh.1 fl.1 fh.2 fl.2
      rw [if_pos (by omega)] at hs
      rw [(fk_of.2.1 hs).2]
      generalize (sX high && !sX low) = s
      cases s <;> decide +kernel
    · unfold levyref17_row.f
      rw [hsame, decide_eq_true hc]
      simp only [Option.bind_some, if_true]
      exact Ev.now _
  · have hdpos : valI high - valI low ≠ 0 := by omega
    obtain ⟨rD, p0, p1, pD⟩ := nearest_pos false (valI high - valI low).natAbs (by omega)
    have sD := sub_units high low fh.1 fl.1 fh.2 fl.2
    rw [if_neg hdpos, decide_eq_false (by omega), pD, word_false] at sD
    have sD' := sub_units high' low' fh'.1 fl'.1 fh'.2 fl'.2
    rw [el, eh, if_neg hdpos, decide_eq_false (by omega), pD, word_false] at sD'
    obtain ⟨kD, fD⟩ := fk_of.2.1 sD
    rw [fD] at hD ⊢
    have hrD : rD < 2139095040 := by omega
    have mD : rD % 2147483648 = rD := by omega
    have sXD : sX rD = false := decide_eq_false (by omega)

    obtain ⟨ra, sa, sa', a0, a1, a2, a3⟩ : ∃ ra sa sa', ra ≤ rD ∧ (ra = 0 ∨ (sa = false ∧ sa' = false)) ∧ single.sub y low = some (single.word sa ra) ∧ single.sub y low' = some (single.word sa' ra) := by
      have u := sub_units y low fy.1 fl.1 fy.2 fl.2
      have u' := sub_units y low' fy.1 fl'.1 fy.2 fl'.2
      rw [el] at u'
      by_cases hz : valI y - valI low = 0
      · rw [if_pos hz] at u u'
        exact ⟨0, _, _, Nat.zero_le _, .inl rfl, u, u'⟩
      · rw [if_neg hz, decide_eq_false (by omega)] at u u'
        have hmono := nearest_mono (valI y - valI low).natAbs (valI high - valI low).natAbs (-149) (by omega) (by omega)
        rw [pD, word_false] at hmono
        exact ⟨_, false, false, hmono, .inr ⟨rfl, rfl⟩, by rw [word_false]; exact u, by rw [word_false]; exact u'⟩
    obtain ⟨wa, ma, xa⟩ := word_at sa ra (by omega)
    obtain ⟨wa', ma', xa'⟩ := word_at sa' ra (by omega)

    obtain ⟨rt, st, st', t0, t1, t2, t3⟩ : ∃ rt st st', rt ≤ 1065353216 ∧ (rt = 0 ∨ (st = false ∧ st' = false)) ∧ single.div (single.word sa ra) rD = some (single.word st rt) ∧ single.div (single.word sa' ra) rD = some (single.word st' rt) := by
      obtain ⟨r1, q0, q1, q2⟩ := div_le_one (single.word sa ra) rD wa (by omega) (by omega) (by omega) (by rw [ma, mD]; exact a0)
      obtain ⟨r1', q0', q1', q2'⟩ := div_le_one (single.word sa' ra) rD wa' (by omega) (by omega) (by omega) (by rw [ma', mD]; exact a0)
      rcases a1 with rfl | ⟨rfl, rfl⟩
      · rw [q2 ma] at q1
        rw [q2' ma'] at q1'
        exact ⟨0, _, _, Nat.zero_le _, .inl rfl, q1, q1'⟩
      · rw [xa, sXD] at q1
        exact ⟨r1, false, false, q0, .inr ⟨rfl, rfl⟩, q1, q1⟩
    obtain ⟨wt, mt, xt⟩ := word_at st rt (by omega)
    obtain ⟨wt', mt', xt'⟩ := word_at st' rt (by omega)

    obtain ⟨c0, c1, c2, c3⟩ := heights ⟨h, by omega⟩ k0
    simp only [] at c0 c1 c2 c3
    have hwh : levyref17_Whole.f (wrap64 ((h : Int) - 1)) = some ((FloatKind.f32.nearest ((h : Int) - 1) : Nat) : Int) := by
      rw [show wrap64 ((h : Int) - 1) = (h : Int) - 1 by unfold wrap64; omega]
      exact whole_is _ (by omega) (by omega)
    have hof : fl_of ((h : Int) - 1) = FloatKind.f32.nearest ((h : Int) - 1) := rfl
    generalize FloatKind.f32.nearest ((h : Int) - 1) = H at *
    generalize (Ieee.single.add H 1056964608).getD 0 = S at *
    have sXH : sX H = false := decide_eq_false (by omega)
    have mH : H % 2147483648 = H := by omega

    have hle : units rt * units H ≤ units H * 2 ^ 149 := by
      rw [Nat.mul_comm]
      refine Nat.mul_le_mul_left _ ?_
      rw [← units_one]
      exact units_le _ _ t0
    obtain ⟨rm, m0, m1, m2⟩ := nearest_to (units rt * units H) H 149 c0 hle
    have e1 := mul_units (single.word st rt) H wt (by omega) (by omega) (by omega)
    have e1' := mul_units (single.word st' rt) H wt' (by omega) (by omega) (by omega)
    rw [mt, mH, xt, sXH, m2, Bool.xor_false] at e1
    rw [mt', mH, xt', sXH, m2, Bool.xor_false] at e1'
    have z0 : rt = 0 → rm = 0 := fun hz => m1 (by rw [hz, units_nil, Nat.zero_mul])
    obtain ⟨wm, mm, xm⟩ := word_at st rm (by omega)
    obtain ⟨wm', mm', xm'⟩ := word_at st' rm (by omega)
    have vm : valI (single.word st rm) = (units rm : Int) := by
      rw [valI_word st rm (by omega)]
      rcases t1 with hz | ⟨hz, _⟩
      · rw [z0 hz, units_nil]; cases st <;> rfl
      · rw [hz]; rfl
    have vm' : valI (single.word st' rm) = (units rm : Int) := by
      rw [valI_word st' rm (by omega)]
      rcases t1 with hz | ⟨_, hz⟩
      · rw [z0 hz, units_nil]; cases st' <;> rfl
      · rw [hz]; rfl

    have vh := valI_half
    have hpos : 0 < units 1056964608 := (units_zero _).2 (by decide)
    generalize units 1056964608 = u at *
    have hm2 : units rm + u ≤ units S * 2 ^ 0 := by
      rw [Nat.pow_zero, Nat.mul_one, ← c2]
      exact Nat.add_le_add_right (units_le _ _ m0) _
    obtain ⟨rs, s0, s1, s2⟩ := nearest_to (units rm + u) S 0 (by omega) hm2
    have s2f := s2 false
    rw [show (-149 : Int) - ((0 : Nat) : Int) = -149 from rfl, word_false] at s2f
    have hs1 : single.add (single.word st rm) 1056964608 = some rs := by
      have e := add_units (single.word st rm) 1056964608 wm (by omega) (by omega) (by omega)
      rw [vm, vh, if_neg (by omega), decide_eq_false (by omega), show ((units rm : Int) + (u : Int)).natAbs = units rm + u by omega, s2f] at e
      exact e
    have hs1' : single.add (single.word st' rm) 1056964608 = some rs := by
      have e := add_units (single.word st' rm) 1056964608 wm' (by omega) (by omega) (by omega)
      rw [vm', vh, if_neg (by omega), decide_eq_false (by omega), show ((units rm : Int) + (u : Int)).natAbs = units rm + u by omega, s2f] at e
      exact e
    have hw := whole_le rs S (by omega) (by omega)
    refine ⟨wholeN rs, by omega, .inr ⟨?_, ?_⟩, ?_⟩
    · have : FloatKind.f32.format.order rD 0 = some (compare (ordI rD) (ordI 0)) := order_is rD 0 (by omega) (by decide) (by omega) (by decide)
      rw [this, cmp_eq]
      refine decide_eq_false ?_
      unfold ordI
      rw [if_neg (by omega), if_neg (by decide)]
      omega
    · rw [(fk_of.2.1 a2).2, (fk_of.2.2.2 t2).2, hof, (fk_of.2.2.1 e1).2, (fk_of.1 hs1).2]
      exact ⟨(fk_of.2.1 a2).1, (fk_of.2.2.2 t2).1, (fk_of.2.2.1 e1).1, (fk_of.1 hs1).1, toInt_is rs (by omega) (by omega) (decide_eq_false (by omega))⟩
    · have hb : mX rD ≠ 0 := fun e => by have := (mX_zero rD (by omega)).1 e; omega
      unfold levyref17_row.f
      exact chainR _ (fun k => levyref17_Sub.f k (y : Int) (low' : Int)) (fun k => levyref17_Sub.f k (high' : Int) (low' : Int)) levyref17_Div.f _ levyref17_Mul.f (fun k => fun x => levyref17_Add.f k x 1056964608) levyref17_Part.f _ _ _ _ _ _ _
        (by rw [hsame, decide_eq_false hc]) (sub_ev fy.1 fl'.1 a3) (sub_ev fh'.1 fl'.1 sD') (div_ev wa' (by omega) (by omega) hb t3) hwh (mul_ev wt' (by omega) (by omega) (by omega) e1') (add_ev (y := 1056964608) wm' (by decide) hs1') (part_is rs (by omega))
end Go.Proofs.Ytfhgomcfpmbhnaa.F
end

section
namespace Go.Proofs.Ytfhgomcfpmbhnaa.F
open Go Go.RowKit Go.Proofs.Ytfhgomcfpmbhnaa.Y Go.Proofs.Ytfhgomcfpmbhnaa.PS Ieee
open Go.Proofs.YtfhgomcfpmbhnaaW.PrintWords Go.Proofs.YtfhgomcfpmbhnaaW.PrintMore
set_option linter.unusedVariables false
set_option linter.unusedSimpArgs false
theorem whole_arith (q X : Nat) (hq : q ≤ 23) (a : 8388608 ≤ X) (b : X < 16777216) (r : Nat) (hr : r = (149 - q) * 8388608 + X) : 8388608 ≤ r ∧ r < 2139095040 ∧ r % 8388608 + 8388608 = X ∧ r / 8388608 = 150 - q ∧ min r 2139095040 = r := by
  omega
theorem whole_at (m : Nat) (h0 : m ≠ 0) (h1 : m < 16777216) : ∃ p r : Nat, p ≤ 23 ∧ m.log2 + p = 23 ∧ 8388608 ≤ r ∧ r < 2139095040 ∧ (∀ s, single.nearest s m 0 = single.word s r) ∧ r % 8388608 + 8388608 = m * 2 ^ p ∧ r / 8388608 = 150 - p := by
  obtain ⟨q, hq, hl, a, b⟩ := up_to m h0 h1
  have hm : m * 2 ^ q ≠ 0 := by omega
  obtain ⟨r, hr⟩ : ∃ r, r = (149 - q) * 8388608 + m * 2 ^ q := ⟨_, rfl⟩
  obtain ⟨b0, b1, b2, b3, b4⟩ := whole_arith q (m * 2 ^ q) hq a b r hr
  refine ⟨q, r, hq, by omega, b0, b1, fun s => ?_, b2, b3⟩
  have e := nearest_scale s m q 0
  rw [← e, nearest_is s _ _ hm]
  have hlog : (m * 2 ^ q).log2 = 23 := log2_23 _ a b
  have hp : lastP (m * 2 ^ q) (0 - (q : Int)) = 0 - (q : Int) := by unfold lastP; rw [hlog]; omega
  have hk : keptN (m * 2 ^ q) (0 - (q : Int)) = m * 2 ^ q := by
    unfold keptN
    rw [hp, Int.sub_self]
    show cutE (m * 2 ^ q * 2 ^ 0) 0 = _
    rw [cutE_zero, Nat.pow_zero, Nat.mul_one]
  rw [hp, hk]
  refine congrArg (single.word s) ?_
  rw [show (0 - (q : Int) + 149).toNat = 149 - q by omega, ← hr]
  exact b4
theorem of_is (n : Int) : fl_of n = single.nearest (decide (n < 0)) n.natAbs 0 := rfl
theorem of_nil : fl_of 0 = 0 := by decide +kernel
theorem of_val (P : Nat) (hP : 2 ^ 149 = P) (n : Int) (h : n.natAbs < 16777216) : IsFin (fl_of n) ∧ valI (fl_of n) = n * (P : Int) ∧ sX (fl_of n) = decide (n < 0) := by
  by_cases h0 : n = 0
  · subst h0
    rw [of_nil]
    exact ⟨⟨by decide, by decide⟩, by rw [Int.zero_mul]; decide, by decide⟩
  · obtain ⟨p, r, p0, p1, r0, r1, hn, hm, he⟩ := whole_at n.natAbs (by omega) h
    rw [of_is, hn]
    obtain ⟨w1, w2, w3⟩ := word_at (decide (n < 0)) r (by omega)
    refine ⟨⟨w1, by omega⟩, ?_, w3⟩
    rw [valI_word _ _ (by omega)]
    have hu : units r = n.natAbs * P := by
      unfold units
      rw [if_neg (by omega), hm, he, Nat.mul_assoc, ← Nat.pow_add, show p + (150 - p - 1) = 149 by omega, hP]
    rw [hu]
    by_cases hs : n < 0
    · rw [decide_eq_true hs]
      unfold pm
      rw [if_pos rfl, Int.natCast_mul, ← Int.neg_mul, show -((n.natAbs : Nat) : Int) = n by omega]
    · rw [decide_eq_false hs]
      unfold pm
      rw [if_neg (by decide), Int.natCast_mul, show ((n.natAbs : Nat) : Int) = n by omega]
theorem nearest_149 (P : Nat) (hP : 2 ^ 149 = P) (s : Bool) (m : Nat) : single.nearest s (m * P) (-149) = single.nearest s m 0 := by
  have e := nearest_scale s m 149 0
  rwa [show (0 : Int) - ((149 : Nat) : Int) = -149 from rfl, hP] at e
theorem neg_iff (a : Int) (P : Nat) (hp : 0 < P) : a * (P : Int) < 0 ↔ a < 0 := by
  have hp' : (0 : Int) < (P : Int) := by omega
  constructor
  · intro e
    by_cases c : a < 0
    · exact c
    · have := Int.mul_nonneg (show 0 ≤ a by omega) (Int.le_of_lt hp')
      omega
  · intro e
    exact Int.mul_neg_of_neg_of_pos e hp'
theorem whole_sum (P : Nat) (hP : 2 ^ 149 = P) (c : Int) (t : Bool) (ht : c = 0 → t = false) : (if c * (P : Int) = 0 then single.word t 0 else single.nearest (decide (c * (P : Int) < 0)) (c * (P : Int)).natAbs (-149)) = fl_of c := by
  have hp : 0 < P := by rw [← hP]; exact Nat.two_pow_pos _
  by_cases h : c = 0
  · rw [h, Int.zero_mul, if_pos rfl, of_nil, ht h]
    rfl
  · have hne : ¬ c * (P : Int) = 0 := by
      intro e
      rcases Int.mul_eq_zero.1 e with e | e
      · exact h e
      · omega
    rw [if_neg hne, Int.natAbs_mul, Int.natAbs_natCast, nearest_149 P hP, of_is]
    have : decide (c * (P : Int) < 0) = decide (c < 0) := by
      rw [Bool.eq_iff_iff]
      simp only [decide_eq_true_eq]
      exact neg_iff c P hp
    rw [this]
theorem add_whole (a b : Int) (ha : a.natAbs < 16777216) (hb : b.natAbs < 16777216) : single.add (fl_of a) (fl_of b) = some (fl_of (a + b)) := by
  obtain ⟨P, hP⟩ : ∃ P : Nat, 2 ^ 149 = P := ⟨_, rfl⟩
  obtain ⟨fa, va, sa⟩ := of_val P hP a ha
  obtain ⟨fb, vb, sb⟩ := of_val P hP b hb
  rw [add_units _ _ fa.1 fb.1 fa.2 fb.2, va, vb, sa, sb, ← Int.add_mul]
  refine congrArg some (whole_sum P hP (a + b) _ fun h => ?_)
  by_cases c : a < 0
  · rw [decide_eq_false (show ¬ b < 0 by omega), Bool.and_false]
  · rw [decide_eq_false c, Bool.false_and]
theorem sub_whole (a b : Int) (ha : a.natAbs < 16777216) (hb : b.natAbs < 16777216) : single.sub (fl_of a) (fl_of b) = some (fl_of (a - b)) := by
  obtain ⟨P, hP⟩ : ∃ P : Nat, 2 ^ 149 = P := ⟨_, rfl⟩
  obtain ⟨fa, va, sa⟩ := of_val P hP a ha
  obtain ⟨fb, vb, sb⟩ := of_val P hP b hb
  rw [sub_units _ _ fa.1 fb.1 fa.2 fb.2, va, vb, sa, sb, ← Int.sub_mul]
  refine congrArg some (whole_sum P hP (a - b) _ fun h => ?_)
  obtain rfl : a = b := by omega
  cases decide (a < 0) <;> rfl
theorem near_mono (s : Bool) (m m' : Nat) (e : Int) (h : m ≤ m') : ∃ r r', r ≤ r' ∧ r' ≤ 2139095040 ∧ single.nearest s m e = single.word s r ∧ single.nearest s m' e = single.word s r' ∧ (∀ t, single.nearest t m e = single.word t r) ∧ (∀ t, single.nearest t m' e = single.word t r') := by
  have key : ∀ m : Nat, ∀ t, single.nearest t m e = single.word t (min (rung m e) 2139095040) := by
    intro m t
    by_cases h0 : m = 0
    · subst h0
      rw [nearest_zero]
      rfl
    · exact nearest_rung t m e h0
  have := rung_mono m m' e h
  exact ⟨_, _, by omega, by omega, key m s, key m' s, key m, key m'⟩
theorem div_whole (S n : Nat) (s : Bool) (hS : S ≠ 0) (hn : n ≠ 0) (hS1 : S < 16777216) (hn1 : n < 16777216) :
    ∃ r, r ≤ 2139095040 ∧ single.div (single.nearest s S 0) (single.nearest false n 0) = some (single.word s r) ∧ ∀ m : Nat, (S ≤ m * n → r ≤ single.nearest false m 0) ∧ (m * n ≤ S → single.nearest false m 0 ≤ r) := by
  obtain ⟨p, x, p0, p1, x0, x1, hx, xm, xe⟩ := whole_at S hS hS1
  obtain ⟨t, y, t0, t1, y0, y1, hy, ym, ye⟩ := whole_at n hn hn1
  rw [hx, hy]
  obtain ⟨a1, a2, a3, a4, a5⟩ := word_parts s x x0 x1
  obtain ⟨b1, b2, b3, b4, b5⟩ := word_parts false y y0 y1
  have la : (S * 2 ^ p).log2 = 23 := log2_23 _ (by omega) (by omega)
  have lb : (n * 2 ^ t).log2 = 23 := log2_23 _ (by omega) (by omega)
  have hd : single.div (single.word s x) (single.word false y) = some (single.nearest (s ^^ false) (2 * ((S * 2 ^ p) <<< (25 + 23 - 23) / (n * 2 ^ t)) + ((S * 2 ^ p) <<< (25 + 23 - 23) % (n * 2 ^ t) != 0).toNat) (eX (single.word s x) - eX (single.word false y) - ((25 + 23 - 23 : Nat) : Int) - 1)) := by
    unfold Format.div
    rw [read_fin _ a1 (by omega), read_fin _ b1 (by omega), a3, b3, a4, b4, xm, ym, div_ieee _ _ _ _ _ _ (by omega), la, lb]
  rw [a5, b5, xe, ye, Nat.shiftLeft_eq, Bool.xor_false] at hd
  have he : ((150 - p : Nat) : Int) - 150 - (((150 - t : Nat) : Int) - 150) - ((25 + 23 - 23 : Nat) : Int) - 1 = 0 - ((p + 26 - t : Nat) : Int) := by omega
  rw [he, show 25 + 23 - 23 = 25 from rfl] at hd
  have hb : 0 < n * 2 ^ t := by omega
  have hc : (S * 2 ^ p * 2 ^ 25 % (n * 2 ^ t) != 0).toNat ≤ 1 := Bool.toNat_le _
  have hpow : ∀ m : Nat, m * n * 2 ^ p * 2 ^ 25 = m * 2 ^ (p + 25 - t) * (n * 2 ^ t) := by
    intro m
    have : 2 ^ p * 2 ^ 25 = 2 ^ (p + 25 - t) * 2 ^ t := by rw [← Nat.pow_add, ← Nat.pow_add]; congr 1; omega
    rw [Nat.mul_assoc (m * n), this]
    ac_rfl
  have hle : ∀ m, S ≤ m * n → S * 2 ^ p * 2 ^ 25 ≤ m * 2 ^ (p + 25 - t) * (n * 2 ^ t) := fun m h => by rw [← hpow]; exact Nat.mul_le_mul_right _ (Nat.mul_le_mul_right _ h)
  have hge : ∀ m, m * n ≤ S → m * 2 ^ (p + 25 - t) * (n * 2 ^ t) ≤ S * 2 ^ p * 2 ^ 25 := fun m h => by rw [← hpow]; exact Nat.mul_le_mul_right _ (Nat.mul_le_mul_right _ h)
  have h2 : ∀ m, m * 2 ^ (p + 26 - t) = 2 * (m * 2 ^ (p + 25 - t)) := fun m => by rw [show p + 26 - t = p + 25 - t + 1 by omega, Nat.pow_succ, ← Nat.mul_assoc, Nat.mul_comm]
  generalize n * 2 ^ t = b at *
  generalize S * 2 ^ p * 2 ^ 25 = A at *
  have hA := Nat.div_add_mod A b
  have hM := Nat.mod_lt A hb
  obtain ⟨r, r', hrr, hr', hq, _, hqs, _⟩ := near_mono false (2 * (A / b) + (A % b != 0).toNat) (2 * (A / b) + (A % b != 0).toNat) (0 - ((p + 26 - t : Nat) : Int)) (Nat.le_refl _)
  rw [hqs] at hd
  refine ⟨r, by omega, hd, fun m => ⟨fun h => ?_, fun h => ?_⟩⟩
  · have h3 := hle m h
    have h4 : 2 * (A / b) + (A % b != 0).toNat ≤ m * 2 ^ (p + 26 - t) := by
      rw [h2]
      generalize m * 2 ^ (p + 25 - t) = Q at *
      have h5 : A / b ≤ Q := Nat.div_le_of_le_mul (by rw [Nat.mul_comm]; exact h3)
      by_cases h6 : A / b = Q
      · have h7 : A % b = 0 := by
          rw [h6, Nat.mul_comm] at hA
          omega
        rw [h7, h6]
        show 2 * Q + 0 ≤ _
        omega
      · omega
    obtain ⟨u, u', huu, hu', e1, e2, _, _⟩ := near_mono false _ _ (0 - ((p + 26 - t : Nat) : Int)) h4
    rw [nearest_scale, word_false] at e2
    rw [hq, word_false, word_false] at e1
    omega
  · have h3 := hge m h
    have h4 : m * 2 ^ (p + 26 - t) ≤ 2 * (A / b) + (A % b != 0).toNat := by
      rw [h2]
      generalize m * 2 ^ (p + 25 - t) = Q at *
      have h5 : Q ≤ A / b := (Nat.le_div_iff_mul_le hb).2 h3
      omega
    obtain ⟨u, u', huu, hu', e1, e2, _, _⟩ := near_mono false _ _ (0 - ((p + 26 - t : Nat) : Int)) h4
    rw [nearest_scale, word_false] at e1
    rw [hq, word_false, word_false] at e2
    omega
end Go.Proofs.Ytfhgomcfpmbhnaa.F
end

section
namespace Go.Proofs.Ytfhgomcfpmbhnaa.F
open Go Go.RowKit Go.Proofs.Ytfhgomcfpmbhnaa.Y Go.Proofs.Ytfhgomcfpmbhnaa.PS Ieee
open Go.Proofs.YtfhgomcfpmbhnaaW.PrintWords Go.Proofs.YtfhgomcfpmbhnaaW.PrintMore
set_option linter.unusedVariables false
set_option linter.unusedSimpArgs false
theorem cmp_is_lt {a b : Int} (h : a < b) : compare a b = Ordering.lt := by
  show compareOfLessAndEq a b = _
  unfold compareOfLessAndEq
  rw [if_pos h]
theorem cmp_is_gt {a b : Int} (h : b < a) : compare a b = Ordering.gt := by
  show compareOfLessAndEq a b = _
  unfold compareOfLessAndEq
  rw [if_neg (by omega), if_neg (by omega)]
theorem cmp_is_eq {a b : Int} (h : a = b) : compare a b = Ordering.eq := by
  show compareOfLessAndEq a b = _
  unfold compareOfLessAndEq
  rw [if_neg (by omega), if_pos h]
theorem order_val {x y : Nat} (hx : IsFin x) (hy : IsFin y) : single.order x y = some (compare (valI x) (valI y)) := by
  rw [order_is x y hx.1 hy.1 (Nat.le_of_lt hx.2) (Nat.le_of_lt hy.2)]
  exact congrArg some (cmp_of _ _ _ _ (valI_lt x y hx.1 hy.1).symm (valI_lt y x hy.1 hx.1).symm)
theorem less_val {x y : Nat} (hx : IsFin x) (hy : IsFin y) : levyref17_Less.f (x : Int) (y : Int) = some (decide (valI x < valI y)) := by
  rw [less_is x y hx.1 hy.1, order_val hx hy, cmp_lt]
theorem lowF_val {a y : Nat} (ha : IsFin a) (hy : IsFin y) : valI (lowF a y) = min (valI a) (valI y) := by
  have e : FloatKind.f32.format.order a y = some (compare (valI a) (valI y)) := order_val ha hy
  unfold lowF
  rcases Int.lt_trichotomy (valI a) (valI y) with h | h | h
  · rw [e, cmp_is_lt h]
    simp only []
    omega
  · rw [e, cmp_is_eq h]
    simp only []
    split <;> omega
  · rw [e, cmp_is_gt h]
    simp only []
    omega
theorem highF_val {a y : Nat} (ha : IsFin a) (hy : IsFin y) : valI (highF a y) = max (valI a) (valI y) := by
  have e : FloatKind.f32.format.order a y = some (compare (valI a) (valI y)) := order_val ha hy
  unfold highF
  rcases Int.lt_trichotomy (valI a) (valI y) with h | h | h
  · rw [e, cmp_is_lt h]
    simp only []
    omega
  · rw [e, cmp_is_eq h]
    simp only []
    split <;> omega
  · rw [e, cmp_is_gt h]
    simp only []
    omega
theorem at_P (l : List S73) (j : Nat) : ((l.map dP).getD j z58).f1 = hB l (j : Int) := by
  have h : (rd_T58 (l.map dP) (j : Int)).f1 = ((l.map dP).getD j z58).f1 := rfl
  rw [← h, rd_P]
  rfl
theorem at_PX (l : List S73) (j : Nat) : ((l.map dP).getD j z58).f0 = (rd_T73 l (j : Int)).f0 := by
  have h : (rd_T58 (l.map dP) (j : Int)).f0 = ((l.map dP).getD j z58).f0 := rfl
  rw [← h, rd_P]
  rfl
theorem fin_hB {l : List S73} (hg : Good l) (ho : InOrd l l.length) (j : Nat) (hj : j < l.length) : IsFin (hB l (j : Int)) :=
  ⟨(hB_lt hg j).1, (ho j (by omega) (by omega)).1⟩
theorem fin_P {l : List S73} (hg : Good l) (ho : InOrd l l.length) : Y.AllFin (l.map dP) := fun j hj => by
  rw [at_P]
  exact fin_hB hg ho j (by rwa [List.length_map] at hj)
theorem low_le {l : List S73} (hg : Good l) (ho : InOrd l l.length) (h0 : 0 < l.length) : ∀ j, j ≤ l.length → ∀ i, i < j → valI (lowL (l.map dP) j) ≤ valI (hB l (i : Int)) ∧ valI (hB l (i : Int)) ≤ valI (highL (l.map dP) j) := by
  intro j
  induction j with
  | zero => intro _ i hi; omega
  | succ j ih =>
    intro hj i hi
    have hl : (l.map dP).length = l.length := List.length_map _
    have hf := low_fin (fin_P hg ho) (by omega) j (by omega)
    have hy := fin_hB hg ho j (by omega)
    have a := lowF_val hf.1 hy
    have b := highF_val hf.2 hy
    rw [lowL_succ _ j (by omega), highL_succ _ j (by omega), at_P, a, b]
    by_cases hij : i = j
    · subst hij
      omega
    · have := ih (by omega) i (by omega)
      omega
theorem refD_step {l : List S73} (hg : Good l) (ho : InOrd l l.length) (hl : l.length < 8796093022208) (wd ht : Int) (q : List ByteArray × Int) (i : Nat) (h1 : 1 ≤ i) (hi : i < l.length) (x9 x10 : Nat) (f9 : IsFin x9) (f10 : IsFin x10)
    (h : Ev (fun k => levyref17_Draw.l0 k (l.map dB) wd ht (((if valI (hB l (i : Int)) < valI x9 then hB l (i : Int) else x9) : Nat) : Int) (((if valI x10 < valI (hB l (i : Int)) then hB l (i : Int) else x10) : Nat) : Int) ((i + 1 : Nat) : Int)) q) :
    Ev (fun k => levyref17_Draw.l0 k (l.map dB) wd ht (x9 : Int) (x10 : Int) (i : Int)) q := by
  have hy := fin_hB hg ho i hi
  have e : (rd_T38 (l.map dB) (i : Int)).f1 = (hB l (i : Int) : Int) := by rw [rd_B]; exact (hB_lt hg i).2
  have hlen : (l.map dB).length = l.length := List.length_map _
  refine Ev.step (f := fun k => levyref17_Draw.j2 k (l.map dB) wd ht (x9 : Int) (x10 : Int) (i : Int) (decide (valI x10 < valI (hB l (i : Int)))) (decide (valI (hB l (i : Int)) < valI x9))) (fun k => ?_) ?_
  · rw [levyref17_Draw.l0, if_pos (by rw [hlen]; omega), if_pos (by omega), e, less_val hy f9, less_val f10 hy]
    simp only [Option.bind_some]
    rw [if_neg (by omega)]
  · refine Ev.step (fun k => ?_) h
    rw [levyref17_Draw.j2, e, show wrap64 ((i : Int) + 1) = ((i + 1 : Nat) : Int) by unfold wrap64; omega]
    by_cases c1 : valI (hB l (i : Int)) < valI x9
    · rw [if_pos (decide_eq_true c1), if_pos (by omega), if_pos (by rw [hlen]; omega), if_neg (by omega), if_pos c1]
      by_cases c2 : valI x10 < valI (hB l (i : Int))
      · rw [if_pos (decide_eq_true c2), if_pos c2]
      · rw [if_neg (by simpa using c2), if_neg c2]
    · rw [if_neg (by simpa using c1), if_neg (by omega), if_neg c1]
      by_cases c2 : valI x10 < valI (hB l (i : Int))
      · rw [if_pos (decide_eq_true c2), if_pos (by omega), if_pos (by rw [hlen]; omega), if_pos c2]
      · rw [if_neg (by simpa using c2), if_neg c2]
theorem refD_from {l : List S73} (hg : Good l) (ho : InOrd l l.length) (hl : l.length < 8796093022208) (wd ht : Int) (q : List ByteArray × Int) : ∀ (n i : Nat) (x9 x10 : Nat), 1 ≤ i → i + n = l.length → IsFin x9 → IsFin x10 → valI x9 = valI (lowL (l.map dP) i) → valI x10 = valI (highL (l.map dP) i) →
    (∀ a b : Nat, IsFin a → IsFin b → valI a = valI (lowL (l.map dP) l.length) → valI b = valI (highL (l.map dP) l.length) → Ev (fun k => levyref17_Draw.l0 k (l.map dB) wd ht (a : Int) (b : Int) (l.length : Int)) q) →
    Ev (fun k => levyref17_Draw.l0 k (l.map dB) wd ht (x9 : Int) (x10 : Int) (i : Int)) q := by
  intro n
  induction n with
  | zero =>
    intro i x9 x10 _ hn f9 f10 e9 e10 hq
    obtain rfl : i = l.length := by omega
    exact hq x9 x10 f9 f10 e9 e10
  | succ n ih =>
    intro i x9 x10 h1 hn f9 f10 e9 e10 hq
    have hy := fin_hB hg ho i (by omega)
    have hlen : (l.map dP).length = l.length := List.length_map _
    have hf := low_fin (fin_P hg ho) (by omega) i (by omega)
    have a := lowF_val hf.1 hy
    have b := highF_val hf.2 hy
    refine refD_step hg ho hl wd ht q i h1 (by omega) x9 x10 f9 f10 (ih (i + 1) _ _ (by omega) (by omega) ?_ ?_ ?_ ?_ hq)
    · split <;> assumption
    · split <;> assumption
    · rw [lowL_succ _ i (by omega), at_P, a]
      split <;> omega
    · rw [highL_succ _ i (by omega), at_P, b]
      split <;> omega
theorem fin_zero : IsFin 0 := ⟨by decide, by decide⟩
theorem refD_first {l : List S73} (hg : Good l) (ho : InOrd l l.length) (hl : l.length < 8796093022208) (h0 : 0 < l.length) (wd ht : Int) (q : List ByteArray × Int)
    (hq : ∀ a b : Nat, IsFin a → IsFin b → valI a = valI (lowL (l.map dP) l.length) → valI b = valI (highL (l.map dP) l.length) → Ev (fun k => levyref17_Draw.l0 k (l.map dB) wd ht (a : Int) (b : Int) (l.length : Int)) q) :
    Ev (fun k => levyref17_Draw.l0 k (l.map dB) wd ht 0 0 0) q := by
  have hy := fin_hB hg ho 0 h0
  have e : (rd_T38 (l.map dB) 0).f1 = (hB l ((0 : Nat) : Int) : Int) := by rw [rd_B]; exact (hB_lt hg 0).2
  have hlen : (l.map dB).length = l.length := List.length_map _
  have hlen2 : (l.map dP).length = l.length := List.length_map _
  have z : ∀ x : Nat, IsFin x → levyref17_Less.f (x : Int) 0 = some (decide (valI x < valI 0)) ∧ levyref17_Less.f 0 (x : Int) = some (decide (valI 0 < valI x)) := fun x hx => ⟨less_val hx fin_zero, less_val fin_zero hx⟩
  have hf := low_fin (fin_P hg ho) (by omega) 0 (by omega)
  have b0 : lowL (l.map dP) 0 = hB l ((0 : Nat) : Int) := by
    unfold lowL
    rw [List.take_zero, at_P]
    rfl
  have b1 : highL (l.map dP) 0 = hB l ((0 : Nat) : Int) := by
    unfold highL
    rw [List.take_zero, at_P]
    rfl
  refine Ev.step (f := fun k => levyref17_Draw.j2 k (l.map dB) wd ht 0 0 0 (decide (valI 0 < valI (hB l ((0 : Nat) : Int)))) true) (fun k => ?_) ?_
  · rw [levyref17_Draw.l0, if_pos (by rw [hlen]; omega), if_pos (by omega), e, (z _ hy).1, (z _ hy).2]
    simp only [Option.bind_some]
    rw [if_pos trivial]
  · refine Ev.step (f := fun k => levyref17_Draw.l0 k (l.map dB) wd ht (hB l ((0 : Nat) : Int) : Int) (hB l ((0 : Nat) : Int) : Int) ((1 : Nat) : Int)) (fun k => ?_) ?_
    · rw [levyref17_Draw.j2, e, if_pos rfl, if_pos (by omega), if_pos (by rw [hlen]; omega), if_pos rfl, show wrap64 (0 + 1) = ((1 : Nat) : Int) by unfold wrap64; omega]
    · refine refD_from hg ho hl wd ht q (l.length - 1) 1 _ _ (by omega) (by omega) hy hy ?_ ?_ hq
      · rw [show (1 : Nat) = 0 + 1 from rfl, lowL_succ _ 0 (by omega), at_P, b0, lowF_val hy hy]
        omega
      · rw [show (1 : Nat) = 0 + 1 from rfl, highL_succ _ 0 (by omega), at_P, b1, highF_val hy hy]
        omega
end Go.Proofs.Ytfhgomcfpmbhnaa.F
end

section
namespace Go.Proofs.Ytfhgomcfpmbhnaa.F
open Go Go.RowKit Go.Proofs.Ytfhgomcfpmbhnaa.Y Go.Proofs.Ytfhgomcfpmbhnaa.PS Ieee
open Go.Proofs.YtfhgomcfpmbhnaaW.PrintWords Go.Proofs.YtfhgomcfpmbhnaaW.PrintMore
set_option linter.unusedVariables false
set_option linter.unusedSimpArgs false
theorem nearest_word (t : Bool) (m : Nat) (e : Int) : single.nearest t m e = single.word t (single.nearest false m e) ∧ single.nearest false m e ≤ 2139095040 := by
  obtain ⟨r, r', _, hr, _, _, h1, _⟩ := near_mono false m m e (Nat.le_refl _)
  rw [h1 t, h1 false, word_false]
  exact ⟨rfl, by omega⟩
theorem of_word (n : Int) : fl_of n = single.word (decide (n < 0)) (single.nearest false n.natAbs 0) := by
  rw [of_is]
  exact (nearest_word _ _ _).1
theorem of_pm (n : Int) : valI (fl_of n) = pm (decide (n < 0)) (units (single.nearest false n.natAbs 0)) := by
  rw [of_word, valI_word _ _ (nearest_word false _ _).2]
theorem natAbs_le {m S : Int} {n : Nat} (hm : 0 ≤ m) (h : m * n ≤ S) : m.natAbs * n ≤ S.natAbs := by
  have : ((m.natAbs * n : Nat) : Int) ≤ S := by
    rw [Int.natCast_mul, show ((m.natAbs : Nat) : Int) = m by omega]
    exact h
  omega
theorem natAbs_ge {m S : Int} {n : Nat} (hS : 0 ≤ S) (hm : 0 ≤ m) (h : S ≤ m * n) : S.natAbs ≤ m.natAbs * n := by
  have : S ≤ ((m.natAbs * n : Nat) : Int) := by
    rw [Int.natCast_mul, show ((m.natAbs : Nat) : Int) = m by omega]
    exact h
  omega
theorem quo_val (S : Int) (n : Nat) (hS : S.natAbs < 16777216) (hn : n ≠ 0) (hn1 : n < 16777216) :
    ∃ q, single.div (fl_of S) (fl_of n) = some q ∧ IsFin q ∧ ∀ m : Int, (m * n ≤ S → valI (fl_of m) ≤ valI q) ∧ (S ≤ m * n → valI q ≤ valI (fl_of m)) ∧ (m * n = S → q = fl_of m) := by
  have hnn : fl_of (n : Int) = single.nearest false n 0 := by
    rw [of_is, decide_eq_false (by omega), Int.natAbs_natCast]
  obtain ⟨P, hP⟩ : ∃ P : Nat, 2 ^ 149 = P := ⟨_, rfl⟩
  have hp : 0 < P := by rw [← hP]; exact Nat.two_pow_pos _
  have hneg : ∀ m : Int, m * (n : Int) < 0 ↔ m < 0 := fun m => neg_iff m n (by omega)
  have hmz : ∀ m : Int, m * (n : Int) = 0 ↔ m = 0 := fun m => ⟨fun h => by rcases Int.mul_eq_zero.1 h with h | h <;> omega, fun h => by rw [h, Int.zero_mul]⟩
  have zle : ∀ m : Int, m ≤ 0 → valI (fl_of m) ≤ 0 := fun m h => by
    by_cases h0 : m = 0
    · rw [h0, of_nil]; decide
    · rw [of_pm, decide_eq_true (by omega)]
      unfold pm
      rw [if_pos rfl]
      omega
  have zge : ∀ m : Int, 0 ≤ m → 0 ≤ valI (fl_of m) := fun m h => by
    rw [of_pm, decide_eq_false (by omega)]
    unfold pm
    rw [if_neg (by decide)]
    omega
  by_cases h0 : S = 0
  · subst h0
    obtain ⟨fn, vn, sn⟩ := of_val P hP n (by omega)
    have hy0 : fl_of (n : Int) % 2147483648 ≠ 0 := by
      intro h
      have e : valI (fl_of (n : Int)) = 0 := by
        unfold valI
        rw [h, show units 0 = 0 by decide]
        cases sX (fl_of (n : Int)) <;> rfl
      rw [vn] at e
      rcases Int.mul_eq_zero.1 e with h | h <;> omega
    obtain ⟨r, r0, r1, r2⟩ := div_le_one (fl_of 0) (fl_of n) (by rw [of_nil]; decide) fn.1 fn.2 hy0 (by rw [of_nil]; exact Nat.zero_le _)
    have hr := r2 (by rw [of_nil])
    rw [hr, sn, decide_eq_false (by omega), show sX (fl_of 0) = false by rw [of_nil]; decide] at r1
    refine ⟨0, r1, fin_zero, fun m => ⟨fun h => ?_, fun h => ?_, fun h => ?_⟩⟩
    · have : m ≤ 0 := by
        rcases Int.lt_trichotomy m 0 with h1 | h1 | h1
        · omega
        · omega
        · have := Int.mul_pos h1 (show (0 : Int) < n by omega)
          omega
      have := zle m this
      rw [show valI 0 = 0 by decide]
      exact this
    · have : 0 ≤ m := by
        by_cases h1 : m < 0
        · have := (hneg m).2 h1
          omega
        · omega
      have := zge m this
      rw [show valI 0 = 0 by decide]
      exact this
    · rw [(hmz m).1 h, of_nil]
  · obtain ⟨r, r0, r1, r2⟩ := div_whole S.natAbs n (decide (S < 0)) (by omega) hn hS hn1
    rw [← of_is, ← hnn] at r1
    have hfin : r < 2139095040 := by
      obtain ⟨_, x, _, _, x0, x1, hx, _⟩ := whole_at S.natAbs (by omega) hS
      have h1 := (r2 S.natAbs).1 (Nat.le_mul_of_pos_right _ (by omega))
      rw [hx false, word_false] at h1
      omega
    obtain ⟨w1, w2, w3⟩ := word_at (decide (S < 0)) r (by omega)
    have hv : valI (single.word (decide (S < 0)) r) = pm (decide (S < 0)) (units r) := valI_word _ _ (by omega)
    refine ⟨_, r1, ⟨w1, by omega⟩, fun m => ?_⟩
    rw [hv]
    by_cases hs : S < 0
    · rw [decide_eq_true hs]
      have ev : pm true (units r) = -(units r : Int) := rfl
      rw [ev]
      refine ⟨fun h => ?_, fun h => ?_, fun h => ?_⟩
      · have hm : m < 0 := (hneg m).1 (by omega)
        have h1 := natAbs_ge (m := -m) (S := -S) (n := n) (by omega) (by omega) (by rw [Int.neg_mul]; omega)
        rw [Int.natAbs_neg, Int.natAbs_neg] at h1
        have h2 := units_le _ _ ((r2 m.natAbs).1 h1)
        rw [of_pm, decide_eq_true hm]
        show -(units (single.nearest false m.natAbs 0) : Int) ≤ _
        omega
      · by_cases hm : m < 0
        · have h1 := natAbs_le (m := -m) (S := -S) (n := n) (by omega) (by rw [Int.neg_mul]; omega)
          rw [Int.natAbs_neg, Int.natAbs_neg] at h1
          have h2 := units_le _ _ ((r2 m.natAbs).2 h1)
          rw [of_pm, decide_eq_true hm]
          show _ ≤ -(units (single.nearest false m.natAbs 0) : Int)
          omega
        · have := zge m (by omega)
          omega
      · have hm : m < 0 := (hneg m).1 (by omega)
        have h1 : S.natAbs = m.natAbs * n := by rw [← h, Int.natAbs_mul, Int.natAbs_natCast]
        have h2 := (r2 m.natAbs).1 (by omega)
        have h3 := (r2 m.natAbs).2 (by omega)
        rw [of_word, decide_eq_true hm, show r = single.nearest false m.natAbs 0 by omega]
    · rw [decide_eq_false hs]
      have ev : pm false (units r) = (units r : Int) := rfl
      rw [ev]
      refine ⟨fun h => ?_, fun h => ?_, fun h => ?_⟩
      · by_cases hm : m < 0
        · have := zle m (by omega)
          omega
        · have h2 := units_le _ _ ((r2 m.natAbs).2 (natAbs_le (by omega) h))
          rw [of_pm, decide_eq_false hm]
          show (units (single.nearest false m.natAbs 0) : Int) ≤ _
          omega
      · have hm : ¬ m < 0 := fun hm => by
          have := (hneg m).2 hm
          omega
        have h2 := units_le _ _ ((r2 m.natAbs).1 (natAbs_ge (by omega) (by omega) h))
        rw [of_pm, decide_eq_false hm]
        show _ ≤ (units (single.nearest false m.natAbs 0) : Int)
        omega
      · have hm : ¬ m < 0 := fun hm => by
          have := (hneg m).2 hm
          omega
        have h1 : S.natAbs = m.natAbs * n := by rw [← h, Int.natAbs_mul, Int.natAbs_natCast]
        have h2 := (r2 m.natAbs).1 (by omega)
        have h3 := (r2 m.natAbs).2 (by omega)
        rw [of_word, decide_eq_false hm, show r = single.nearest false m.natAbs 0 by omega]
theorem order_whole (a b : Int) (ha : a.natAbs < 16777216) (hb : b.natAbs < 16777216) : FloatKind.f32.format.order (fl_of a) (fl_of b) = some (compare a b) := by
  obtain ⟨P, hP⟩ : ∃ P : Nat, 2 ^ 149 = P := ⟨_, rfl⟩
  have hp : (0 : Int) < (P : Int) := by have : 0 < P := by { rw [← hP]; exact Nat.two_pow_pos _ }; omega
  obtain ⟨fa, va, _⟩ := of_val P hP a ha
  obtain ⟨fb, vb, _⟩ := of_val P hP b hb
  have e : FloatKind.f32.format.order (fl_of a) (fl_of b) = some (compare (valI (fl_of a)) (valI (fl_of b))) := order_val fa fb
  rw [e, va, vb]
  exact congrArg some (cmp_of _ _ _ _ (Int.mul_lt_mul_right hp) (Int.mul_lt_mul_right hp))
theorem ordered_true {l : List S73} (hg : Good l) (ho : InOrd l l.length) : Ev (fun k => curve_ordered.f k (l.map dP)) true := by
  obtain ⟨b, b1, b2, b3⟩ := ordered_is hg
  cases b with
  | true => exact b1
  | false =>
    exfalso
    have key : ∀ (n : Nat) (i : Int), 0 ≤ i → i + n = l.length → Ev (fun k => levyref17_Ordered.l0 k (l.map dB) i) true := by
      intro n
      induction n with
      | zero =>
        intro i h0 hn
        refine Ev.step (f := fun _ => some true) (fun k => ?_) (Ev.now _)
        rw [levyref17_Ordered.l0, if_neg (by rw [List.length_map]; omega)]
      | succ n ih =>
        intro i h0 hn
        have hlen := hg.1
        obtain ⟨hl, he⟩ := hB_lt hg i
        obtain ⟨o1, o2, o3, o4⟩ := ho i h0 (by omega)
        refine Ev.step (fun k => ?_) (ih (i + 1) (by omega) (by omega))
        rw [levyref17_Ordered.l0, if_pos (by rw [List.length_map]; omega), if_pos h0]
        simp only [rd_B]
        have hw : wrap64 (i + 1) = i + 1 := by unfold wrap64; omega
        have hf : levyref17_Finite.f (dB (rd_T73 l i)).f1 = some (decide (hB l i % 2147483648 < 2139095040)) := by
          show levyref17_Finite.f (rd_T73 l i).f1 = _
          rw [he, fin_is]
        have e0 : (dB (rd_T73 l i)).f0 = (rd_T73 l i).f0 := rfl
        rw [hf, hw]
        simp only [Option.bind_some, decide_eq_true_eq, e0]
        rw [if_pos o1, if_neg (by omega), if_neg (by omega)]
        by_cases hi : i > 0
        · have := o4 hi
          rw [if_pos hi, show wrap64 (i - 1) = i - 1 by unfold wrap64; omega, if_pos (show 0 ≤ i - 1 by omega), if_pos (show i - 1 < ((l.map dB).length : Int) by rw [List.length_map]; omega)]
          have e1 : (dB (rd_T73 l (i - 1))).f0 = (rd_T73 l (i - 1)).f0 := rfl
          rw [e1, if_neg (by omega)]
        · rw [if_neg hi]
    have h1 := key l.length 0 (by omega) (by omega)
    obtain ⟨K, h1⟩ := h1
    obtain ⟨K', h2⟩ := b2
    have a1 := h1 (max K K') (by omega)
    have a2 := h2 (max K K') (by omega)
    unfold levyref17_Ordered.f at a2
    rw [a1] at a2
    exact absurd (Option.some.inj a2) (by decide)
end Go.Proofs.Ytfhgomcfpmbhnaa.F
end

section
namespace Go.Proofs.Ytfhgomcfpmbhnaa.F
open Go Go.RowKit Go.Proofs.Ytfhgomcfpmbhnaa.Y Go.Proofs.Ytfhgomcfpmbhnaa.PS Ieee
open Go.Proofs.YtfhgomcfpmbhnaaW.PrintWords Go.Proofs.YtfhgomcfpmbhnaaW.PrintMore
set_option linter.unusedVariables false
set_option linter.unusedSimpArgs false
def Sound (L : List S58) : Prop := L.length ≤ 64 ∧ ∀ i, i < L.length → (∃ v : Int, -10000 ≤ v ∧ v ≤ 10000 ∧ (L.getD i z58).f1 = fl_of v) ∧ -1000 < (L.getD i z58).f0 ∧ (L.getD i z58).f0 ≤ 1000 * (i : Int) ∧ (0 < i → (L.getD (i - 1) z58).f0 < (L.getD i z58).f0)
theorem getD_app_left (L : List S58) (p : S58) (i : Nat) (h : i < L.length) : (L ++ [p]).getD i z58 = L.getD i z58 := by
  rw [List.getD_eq_getElem?_getD, List.getD_eq_getElem?_getD, List.getElem?_append_left h]
theorem getD_app_last (L : List S58) (p : S58) : (L ++ [p]).getD L.length z58 = p := by
  rw [List.getD_eq_getElem?_getD, List.getElem?_append_right (Nat.le_refl _), Nat.sub_self]
  rfl
theorem Sound.snoc {L : List S58} (h : Sound L) (hl : L.length < 64) (x v : Int) (h0 : -1000 < x) (h1 : x ≤ 1000 * (L.length : Int)) (hv0 : -10000 ≤ v) (hv1 : v ≤ 10000) (hp : 0 < L.length → (L.getD (L.length - 1) z58).f0 < x) : Sound (L ++ [⟨x, fl_of v⟩]) := by
  refine ⟨by rw [List.length_append]; show L.length + 1 ≤ 64; omega, fun i hi => ?_⟩
  rw [List.length_append] at hi
  have hi' : i < L.length + 1 := hi
  by_cases c : i < L.length
  · rw [getD_app_left _ _ _ c, getD_app_left _ _ _ (show i - 1 < L.length by omega)]
    exact h.2 i c
  · obtain rfl : i = L.length := by omega
    rw [getD_app_last]
    refine ⟨⟨v, hv0, hv1, rfl⟩, h0, h1, fun hq => ?_⟩
    rw [getD_app_left _ _ _ (show L.length - 1 < L.length by omega)]
    exact hp hq
def toD (L : List S58) : List S73 := L.map fun p => ⟨p.f0, (p.f1 : Int)⟩
theorem toD_P (L : List S58) : (toD L).map dP = L := by
  unfold toD
  rw [List.map_map]
  have : (dP ∘ fun p : S58 => (⟨p.f0, (p.f1 : Int)⟩ : S73)) = id := by
    funext p
    show (⟨p.f0, ((p.f1 : Int)).toNat⟩ : S58) = p
    rw [Int.toNat_natCast]
  rw [this, List.map_id]
theorem toD_len (L : List S58) : (toD L).length = L.length := by unfold toD; rw [List.length_map]
theorem whole_fin1 (v : Int) (h : v.natAbs < 16777216) : IsFin (fl_of v) := (of_val (2 ^ 149) rfl v h).1
theorem getD_mem (L : List S58) (q : S58) (hq : q ∈ L) : ∃ i, i < L.length ∧ L.getD i z58 = q := by
  obtain ⟨i, hi, e⟩ := List.mem_iff_getElem.1 hq
  exact ⟨i, hi, by rw [List.getD_eq_getElem?_getD, List.getElem?_eq_getElem hi]; exact e⟩
theorem toD_at (L : List S58) (i : Nat) : (rd_T73 (toD L) (i : Int)).f0 = (L.getD i z58).f0 ∧ hB (toD L) (i : Int) = (L.getD i z58).f1 := by
  have a := at_PX (toD L) i
  have b := at_P (toD L) i
  rw [toD_P] at a b
  exact ⟨a.symm, b.symm⟩
end Go.Proofs.Ytfhgomcfpmbhnaa.F
end

section
namespace Go.Proofs.Ytfhgomcfpmbhnaa.Y
open Go Go.RowKit Go.Proofs.Ytfhgomcfpmbhnaa.PS Go.Proofs.Ytfhgomcfpmbhnaa.F Go.Proofs.YtfhgomcfpmbhnaaW.PrintWords Go.Proofs.YtfhgomcfpmbhnaaW.PrintMore Go.Proofs.YtfhgomcfpmbhnaaW.Fits
attribute [local go_sem] frun_add frun_sub frun_mul frun_quo frun_neg frun_of frun_same frun_store frun_bits frun_from
set_option linter.unusedVariables false
set_option maxRecDepth 100000
def lineL (fr st : Int) (fv : Int → Int) : Nat → List S58
  | 0 => []
  | k + 1 => lineL fr st fv k ++ [⟨placeAt fr st k, fl_of (fv (placeAt fr st k))⟩]
theorem lineL_len (fr st : Int) (fv : Int → Int) (k : Nat) : (lineL fr st fv k).length = k := by
  induction k with
  | zero => rfl
  | succ k ih => rw [lineL, List.length_append, ih]; rfl
structure Line (w : World) (ps : List S58) (v10 : Value) (w' : World) : Prop where
  out : w'.ownsRow w.heap.size 58 2 v10 ps.length (pntv ps)
  below : Below w.heap.size w w'
theorem Line.moved {w w' w1 : World} {ps : List S58} {v10 : Value} (h : Line w ps v10 w') (hb : Below w'.heap.size w' w1) : Line w ps v10 w1 :=
  ⟨own_move h.out (fun k hk => hb.block k (own_lt h.out k hk)), below_then h.below h.below.size hb⟩
theorem Line.boxed {w w' : World} {ps : List S58} {v10 : Value} (h : Line w ps v10 w') (o : Obj) (k : Nat) : Line w ps v10 ((w'.alloc o).drewN k) :=
  h.moved (pw_below_drewN ((Below.refl _ _).alloc (Nat.le_refl _) o) k)
set_option maxHeartbeats 4000000 in
theorem sample_line (n : Nat) (fv : Int → Int) (fr st : Int) (w : World) (hcall : ∀ (w1 : World) (x : Int), Below w.heap.size w w1 → Calls Try.prog 47 #[.int .i64 x] w1 (fun e w' => e = .returned (.agg #[.int .i64 1, .int .i64 (fv x)]) ∧ Below w1.heap.size w1 w'))
    (h1 : 1 ≤ n) (h64 : n ≤ 64) (hst : 1 ≤ st) (hst2 : st ≤ 9223372036854775807) (hf0 : -9999999999999 ≤ fr) (hf1 : fr ≤ 9999999999999) (hq : 1 < n → st ≤ (9999999999999 - fr) / ((n : Int) - 1)) :
    Calls Try.prog 13 #[.func (.func 47) #[] #[], .int .i64 fr, .int .i64 st, .int .i64 n] w
      (fun e w' => ∃ v10, e = .returned (.tuple #[v10, .int .i64 0]) ∧ Line w (lineL fr st fv n) v10 w') := by
  have HCALL := Aside0.mk hcall
  have HQ := Aside0.mk hq
  clear hcall hq
  have b1 : decide ((n : Int) < 1) = false := decide_eq_false (by omega)
  have b2 : decide ((64 : Int) < n) = false := decide_eq_false (by omega)
  have b3 : decide (st < 1) = false := decide_eq_false (by omega)
  have b4 : decide (fr < -9999999999999) = false := decide_eq_false (by omega)
  have b5 : decide (9999999999999 < fr) = false := decide_eq_false (by omega)
  have hcase : decide ((1 : Int) < n) = false ∨ (((1 : Int) < n ∧ decide ((1 : Int) < n) = true) ∧ decide ((9999999999999 - fr) / ((n : Int) - 1) < st) = false) := by
    by_cases h : 1 < n
    · exact .inr ⟨⟨by omega, decide_eq_true (by omega)⟩, decide_eq_false (by have := HQ.out h; omega)⟩
    · exact .inl (decide_eq_false (by omega))
  go_enter Try.func13, Try.ntmps13
  rcases hcase with b6 | ⟨⟨b8, b6⟩, b7⟩
  all_goals go_wp2_with fail
  all_goals try (exfalso; omega)
  all_goals try (exfalso; revert b7; simp; omega)
  all_goals (
    go_loopg [10, 44] (n + 1) (fun kq v10 v44 w' => ∃ (i : Nat), v44 = .int .i64 (i : Int) ∧ Aside0 (kq + i = n + 1) ∧ Aside0 (i ≤ n) ∧ Aside0 (Line w (lineL fr st fv i) v10 w'))
    case atStart => exact ⟨0, rfl, ⟨by omega⟩, ⟨by omega⟩, ⟨⟨own_nil _ _ _ _, Below.refl _ _⟩⟩⟩
    case round =>
      obtain ⟨i, rfl, HK, HI, HS⟩ := hrel
      cases gk with
      | zero => exact absurd HK.out (by have := HI.out; omega)
      | succ k1 =>
        by_cases hlt : i < n
        · have hb0 : decide ((i : Int) < (n : Int)) = true := decide_eq_true (by omega)
          have hi64 : (i : Int) < 64 := by omega
          go_wp2_with fail
          with_reducible refine (HCALL.out wr (wrap64 (fr + wrap64 ((i : Int) * st))) HS.out.below).mono ?_
          rintro e w1 ⟨rfl, hb'⟩
          have HS1 := Aside0.mk (HS.out.moved hb')
          clear hb'
          have HSL : Aside0 (lineL fr st fv (i + 1) = lineL fr st fv i ++ [⟨wrap64 (fr + wrap64 ((i : Int) * st)), fl_of (fv (wrap64 (fr + wrap64 ((i : Int) * st))))⟩]) := ⟨rfl⟩
          generalize wrap64 (fr + wrap64 ((i : Int) * st)) = P at HSL ⊢
          generalize fv P = r at HSL ⊢
          obtain ⟨i0, hi0, hz0, hz1, hz2⟩ := info_parts PS.info58
          have HI0 := Aside0.mk hi0
          have HZ0 := Aside0.mk hz0
          have HZ1 := Aside0.mk hz1
          have HZ2 := Aside0.mk hz2
          clear hi0 hz0 hz1 hz2
          go_wp2_with fail
          with_reducible refine (curve_whole.calls r (fl_of r) _ rfl).mono ?_
          rintro e w2 ⟨rfl, ⟨⟨nd, rfl⟩⟩⟩
          have HS2 := Aside0.mk (HS1.out.boxed (.cells #[.int .i64 1, .int .i64 r] 29) nd)
          clear HS1
          generalize (w1.alloc (.cells #[.int .i64 1, .int .i64 r] 29)).drewN nd = w2 at HS2 ⊢
          go_wp2_with (first | (at_builtin; refine wpList_append_own_at _ rfl _ _ 31 rfl w.heap.size 58 i0 (.agg #[.int .i64 0, .float .f32 0]) 2 16 Try.underlying31 HI0.out HZ0.out HZ1.out HZ2.out rfl (by decide) u10 (lineL fr st fv i).length (pntv (lineL fr st fv i)) rfl (HS2.out.out.alloc _) ⟨w2.heap.size, 0, none⟩ 1 1 [.int .i64 P, .float .f32 (fl_of r)] (by first | rfl | simp) rfl (World.news_of_block (cs := #[.int .i64 P, .float .f32 (fl_of r)]) (t := 58) (fr := (0, 0)) (heap_alloc_new w2 _)) (by simp [Value.oneCell']) (by have := lineL_len fr st fv i; unfold maxLen; omega) (by have := lineL_len fr st fv i; omega) (by simp; have := HS2.out.below.size; omega) ?_; intro v1 w3 hown3 hgrow3 _ hat3))
          go_roundg k1
          case measure => omega
          case rel =>
            have hbb : Below w.heap.size w w3 := (HS2.out.below.alloc HS2.out.below.size _).grown hgrow3 (Nat.le_trans HS2.out.below.size (by simp)) (fun k hk => own_base HS2.out.out k hk)
            refine ⟨i + 1, by simp, ⟨by have := HK.out; omega⟩, ⟨by omega⟩, ⟨⟨?_, hbb⟩⟩⟩
            rw [HSL.out, List.length_append, pntv_snoc]
            exact hown3
        · obtain rfl : i = n := by have := HI.out; omega
          have hb0 : decide ((i : Int) < (i : Int)) = false := decide_eq_false (by omega)
          go_wp2
          go_ret2
          exact ⟨_, rfl, HS.out⟩)
set_option maxHeartbeats 4000000 in
theorem sample_by (gk gb n : Nat) (fv : Int → Int) (fr st : Int) (w : World) (hcall : ∀ (w1 : World) (x : Int), Below w.heap.size w w1 → Calls Try.prog 28 #[.int .i64 x, .pointer (some ⟨gk, 0, none⟩), .pointer (some ⟨gb, 0, none⟩)] w1 (fun e w' => e = .returned (.agg #[.int .i64 2, .int .i64 (fv x)]) ∧ Below w1.heap.size w1 w'))
    (h1 : 1 ≤ n) (h64 : n ≤ 64) (hst : 1 ≤ st) (hst2 : st ≤ 9223372036854775807) (hf0 : -9999999999999 ≤ fr) (hf1 : fr ≤ 9999999999999) (hq : 1 < n → st ≤ (9999999999999 - fr) / ((n : Int) - 1)) :
    Calls Try.prog 13 #[.func (.func 28) #[] #[.pointer (some ⟨gk, 0, none⟩), .pointer (some ⟨gb, 0, none⟩)], .int .i64 fr, .int .i64 st, .int .i64 n] w
      (fun e w' => ∃ v10, e = .returned (.tuple #[v10, .int .i64 0]) ∧ Line w (lineL fr st fv n) v10 w') := by
  have HCALL := Aside0.mk hcall
  have HQ := Aside0.mk hq
  clear hcall hq
  have b1 : decide ((n : Int) < 1) = false := decide_eq_false (by omega)
  have b2 : decide ((64 : Int) < n) = false := decide_eq_false (by omega)
  have b3 : decide (st < 1) = false := decide_eq_false (by omega)
  have b4 : decide (fr < -9999999999999) = false := decide_eq_false (by omega)
  have b5 : decide (9999999999999 < fr) = false := decide_eq_false (by omega)
  have hcase : decide ((1 : Int) < n) = false ∨ (((1 : Int) < n ∧ decide ((1 : Int) < n) = true) ∧ decide ((9999999999999 - fr) / ((n : Int) - 1) < st) = false) := by
    by_cases h : 1 < n
    · exact .inr ⟨⟨by omega, decide_eq_true (by omega)⟩, decide_eq_false (by have := HQ.out h; omega)⟩
    · exact .inl (decide_eq_false (by omega))
  go_enter Try.func13, Try.ntmps13
  rcases hcase with b6 | ⟨⟨b8, b6⟩, b7⟩
  all_goals go_wp2_with fail
  all_goals try (exfalso; omega)
  all_goals try (exfalso; revert b7; simp; omega)
  all_goals (
    go_loopg [10, 44] (n + 1) (fun kq v10 v44 w' => ∃ (i : Nat), v44 = .int .i64 (i : Int) ∧ Aside0 (kq + i = n + 1) ∧ Aside0 (i ≤ n) ∧ Aside0 (Line w (lineL fr st fv i) v10 w'))
    case atStart => exact ⟨0, rfl, ⟨by omega⟩, ⟨by omega⟩, ⟨⟨own_nil _ _ _ _, Below.refl _ _⟩⟩⟩
    case round =>
      obtain ⟨i, rfl, HK, HI, HS⟩ := hrel
      cases gk with
      | zero => exact absurd HK.out (by have := HI.out; omega)
      | succ k1 =>
        by_cases hlt : i < n
        · have hb0 : decide ((i : Int) < (n : Int)) = true := decide_eq_true (by omega)
          have hi64 : (i : Int) < 64 := by omega
          go_wp2_with fail
          with_reducible refine (HCALL.out wr (wrap64 (fr + wrap64 ((i : Int) * st))) HS.out.below).mono ?_
          rintro e w1 ⟨rfl, hb'⟩
          have HS1 := Aside0.mk (HS.out.moved hb')
          clear hb'
          have HSL : Aside0 (lineL fr st fv (i + 1) = lineL fr st fv i ++ [⟨wrap64 (fr + wrap64 ((i : Int) * st)), fl_of (fv (wrap64 (fr + wrap64 ((i : Int) * st))))⟩]) := ⟨rfl⟩
          generalize wrap64 (fr + wrap64 ((i : Int) * st)) = P at HSL ⊢
          generalize fv P = r at HSL ⊢
          obtain ⟨i0, hi0, hz0, hz1, hz2⟩ := info_parts PS.info58
          have HI0 := Aside0.mk hi0
          have HZ0 := Aside0.mk hz0
          have HZ1 := Aside0.mk hz1
          have HZ2 := Aside0.mk hz2
          clear hi0 hz0 hz1 hz2
          go_wp2_with fail
          with_reducible refine (curve_whole.calls r (fl_of r) _ rfl).mono ?_
          rintro e w2 ⟨rfl, ⟨⟨nd, rfl⟩⟩⟩
          have HS2 := Aside0.mk (HS1.out.boxed (.cells #[.int .i64 2, .int .i64 r] 29) nd)
          clear HS1
          generalize (w1.alloc (.cells #[.int .i64 2, .int .i64 r] 29)).drewN nd = w2 at HS2 ⊢
          go_wp2_with (first | (at_builtin; refine wpList_append_own_at _ rfl _ _ 31 rfl w.heap.size 58 i0 (.agg #[.int .i64 0, .float .f32 0]) 2 16 Try.underlying31 HI0.out HZ0.out HZ1.out HZ2.out rfl (by decide) u10 (lineL fr st fv i).length (pntv (lineL fr st fv i)) rfl (HS2.out.out.alloc _) ⟨w2.heap.size, 0, none⟩ 1 1 [.int .i64 P, .float .f32 (fl_of r)] (by first | rfl | simp) rfl (World.news_of_block (cs := #[.int .i64 P, .float .f32 (fl_of r)]) (t := 58) (fr := (0, 0)) (heap_alloc_new w2 _)) (by simp [Value.oneCell']) (by have := lineL_len fr st fv i; unfold maxLen; omega) (by have := lineL_len fr st fv i; omega) (by simp; have := HS2.out.below.size; omega) ?_; intro v1 w3 hown3 hgrow3 _ hat3))
          go_roundg k1
          case measure => omega
          case rel =>
            have hbb : Below w.heap.size w w3 := (HS2.out.below.alloc HS2.out.below.size _).grown hgrow3 (Nat.le_trans HS2.out.below.size (by simp)) (fun k hk => own_base HS2.out.out k hk)
            refine ⟨i + 1, by simp, ⟨by have := HK.out; omega⟩, ⟨by omega⟩, ⟨⟨?_, hbb⟩⟩⟩
            rw [HSL.out, List.length_append, pntv_snoc]
            exact hown3
        · obtain rfl : i = n := by have := HI.out; omega
          have hb0 : decide ((i : Int) < (i : Int)) = false := decide_eq_false (by omega)
          go_wp2
          go_ret2
          exact ⟨_, rfl, HS.out⟩)
end Go.Proofs.Ytfhgomcfpmbhnaa.Y
end

section
namespace Go.Proofs.Ytfhgomcfpmbhnaa.F
open Go Go.RowKit Go.Proofs.Ytfhgomcfpmbhnaa.Y Go.Proofs.Ytfhgomcfpmbhnaa.PS Ieee
open Go.Proofs.YtfhgomcfpmbhnaaW.PrintWords Go.Proofs.YtfhgomcfpmbhnaaW.PrintMore
set_option linter.unusedVariables false
set_option linter.unusedSimpArgs false
open Classical in
theorem starG_is (rn cn : Nat → Nat) (G : Nat → Nat → Int) : ∀ (n r c : Nat), starG rn cn G n r c = if ∃ j, j < n ∧ r = rn j ∧ c = cn j then 42 else G r c := by
  intro n
  induction n with
  | zero => intro r c; rw [if_neg (by rintro ⟨j, h, _⟩; omega)]; rfl
  | succ n ih =>
    intro r c
    unfold starG
    rw [ih]
    by_cases h : r = rn n ∧ c = cn n
    · rw [if_pos h, if_pos ⟨n, by omega, h⟩]
    · rw [if_neg h]
      by_cases h2 : ∃ j, j < n ∧ r = rn j ∧ c = cn j
      · obtain ⟨j, a, b⟩ := h2
        rw [if_pos ⟨j, a, b⟩, if_pos ⟨j, by omega, b⟩]
      · rw [if_neg h2, if_neg]
        rintro ⟨j, a, b⟩
        by_cases hj : j = n
        · subst hj; exact h b
        · exact h2 ⟨j, by omega, b⟩
def colI (l : List S73) (wd : Int) (j : Nat) : Int :=
  if (rd_T73 l ((0 : Nat) : Int)).f0 < (rd_T73 l ((l.length - 1 : Nat) : Int)).f0 then ((rd_T73 l (j : Int)).f0 - (rd_T73 l ((0 : Nat) : Int)).f0) * (wd - 1) / ((rd_T73 l ((l.length - 1 : Nat) : Int)).f0 - (rd_T73 l ((0 : Nat) : Int)).f0) else 0
theorem rise {l : List S73} (ho : InOrd l l.length) : ∀ (n i : Nat), i + n < l.length → (rd_T73 l (i : Int)).f0 + n ≤ (rd_T73 l ((i + n : Nat) : Int)).f0 := by
  intro n
  induction n with
  | zero => intro i _; exact Int.le_of_eq (by simp)
  | succ n ih =>
    intro i hi
    have := ih i (by omega)
    have h2 := (ho ((i + (n + 1) : Nat) : Int) (by omega) (by omega)).2.2.2 (by omega)
    rw [show ((i + (n + 1) : Nat) : Int) - 1 = ((i + n : Nat) : Int) by omega] at h2
    omega
theorem col_in {l : List S73} (ho : InOrd l l.length) (wd : Int) (w1 : 2 ≤ wd) (w2 : wd ≤ 72) (j : Nat) (hj : j < l.length) :
    0 ≤ colI l wd j ∧ colI l wd j < wd ∧ 0 ≤ (rd_T73 l (j : Int)).f0 - (rd_T73 l ((0 : Nat) : Int)).f0 ∧ (rd_T73 l (j : Int)).f0 ≤ (rd_T73 l ((l.length - 1 : Nat) : Int)).f0 ∧ -9999999999999 ≤ (rd_T73 l (j : Int)).f0 ∧ (rd_T73 l (j : Int)).f0 ≤ 9999999999999 ∧
    (1 < l.length → (rd_T73 l ((0 : Nat) : Int)).f0 < (rd_T73 l ((l.length - 1 : Nat) : Int)).f0) ∧ (l.length ≤ 1 → ¬ (rd_T73 l ((0 : Nat) : Int)).f0 < (rd_T73 l ((l.length - 1 : Nat) : Int)).f0) := by
  have a := rise ho j 0 (by omega)
  have b := rise ho (l.length - 1 - j) j (by omega)
  have c := rise ho (l.length - 1) 0 (by omega)
  have d := ho (j : Int) (by omega) (by omega)
  rw [Nat.zero_add] at a c
  rw [show j + (l.length - 1 - j) = l.length - 1 by omega] at b
  have hone : l.length ≤ 1 → (rd_T73 l ((l.length - 1 : Nat) : Int)).f0 = (rd_T73 l ((0 : Nat) : Int)).f0 := fun h => by rw [show l.length - 1 = 0 by omega]
  have a0 : 0 ≤ (rd_T73 l (j : Int)).f0 - (rd_T73 l ((0 : Nat) : Int)).f0 := by omega
  have b0 : (rd_T73 l (j : Int)).f0 ≤ (rd_T73 l ((l.length - 1 : Nat) : Int)).f0 := by omega
  refine ⟨?_, ?_, a0, b0, d.2.1, d.2.2.1, fun h => by omega, fun h => by have := hone h; omega⟩
  · unfold colI
    split
    · exact Int.ediv_nonneg (Int.mul_nonneg a0 (by omega)) (by omega)
    · omega
  · unfold colI
    split
    · rename_i hlt
      generalize (rd_T73 l ((l.length - 1 : Nat) : Int)).f0 = L at *
      generalize (rd_T73 l ((0 : Nat) : Int)).f0 = F at *
      generalize (rd_T73 l (j : Int)).f0 = X at *
      have h1 : (X - F) * (wd - 1) ≤ (L - F) * (wd - 1) := Int.mul_le_mul_of_nonneg_right (by omega) (by omega)
      have h2 : (X - F) * (wd - 1) / (L - F) ≤ wd - 1 := Int.le_of_lt_add_one (Int.ediv_lt_of_lt_mul (by omega) (by
        rw [Int.mul_comm] at h1
        have : (wd - 1 + 1) * (L - F) = (L - F) * (wd - 1) + (L - F) := by rw [Int.add_mul, Int.one_mul, Int.mul_comm]
        rw [Int.mul_comm] at h1
        omega))
      omega
    · omega
def chB (v : Int) : ByteArray := ⟨#[UInt8.ofNat v.toNat]⟩
def zrI (zr : Option Nat) : Int := match zr with | some z => (z : Int) | none => -1
theorem mark_col {l : List S73} (ho : InOrd l l.length) (hl : l.length < 8796093022208) (wd ht : Nat) (w1 : 2 ≤ wd) (w2 : wd ≤ 72) (least most : Int) (cn : Nat → Nat) (hcn : ∀ j, j < l.length → colI l wd j = (cn j : Int)) (k : Nat) (i : Nat) (hi : i < l.length) (c r z : Int) :
    levyref17_mark.l0 (k + 1) (l.map dB) c r z wd ht least most (i : Int) = levyref17_mark.j1 k (l.map dB) c r z wd ht least most (i : Int) (cn i : Int) := by
  have hlen : (l.map dB).length = l.length := List.length_map _
  obtain ⟨c0, c1, c2, c3, c4, c5, c6, c7⟩ := col_in ho wd (by omega) (by omega) i hi
  rw [levyref17_mark.l0, hlen, if_pos (by omega)]
  have hc := hcn i hi
  unfold colI at hc c0 c1
  by_cases h1 : 1 < l.length
  · rw [if_pos (by omega), if_pos (by omega), if_pos (by omega), show wrap64 ((l.length : Int) - 1) = ((l.length - 1 : Nat) : Int) by unfold wrap64; omega, if_pos (by omega), if_pos (by omega)]
    have hF := c6 h1
    rw [if_pos hF] at hc c0 c1
    rw [rd_B, rd_B, rd_B]
    have e : ∀ x : S73, (dB x).f0 = x.f0 := fun _ => rfl
    rw [e, e, e]
    have d := ho ((l.length - 1 : Nat) : Int) (by omega) (by omega)
    have d0 := ho 0 (by omega) (by omega)
    have ez : rd_T73 l ((0 : Nat) : Int) = rd_T73 l 0 := rfl
    rw [ez] at hc c0 c1 c2 hF
    generalize (rd_T73 l ((l.length - 1 : Nat) : Int)).f0 = L at *
    generalize (rd_T73 l 0).f0 = F at *
    generalize (rd_T73 l (i : Int)).f0 = X at *
    rw [show wrap64 (L - F) = L - F by unfold wrap64; omega, if_neg (by omega), show wrap64 (X - F) = X - F by unfold wrap64; omega, show wrap64 ((wd : Int) - 1) = (wd : Int) - 1 by unfold wrap64; omega]
    have q0 : 0 ≤ (X - F) * ((wd : Int) - 1) := Int.mul_nonneg c2 (by omega)
    have q1 : (X - F) * ((wd : Int) - 1) ≤ 1419999999999858 := Int.le_trans (Int.mul_le_mul (show X - F ≤ 19999999999998 by omega) (show (wd : Int) - 1 ≤ 71 by omega) (by omega) (by omega)) (by decide)
    rw [show wrap64 ((X - F) * ((wd : Int) - 1)) = (X - F) * ((wd : Int) - 1) by generalize (X - F) * ((wd : Int) - 1) = Q at *; unfold wrap64; omega, Int.tdiv_eq_ediv_of_nonneg q0, hc]
    rw [hc] at c1
    rw [show wrap64 ((cn i : Nat) : Int) = ((cn i : Nat) : Int) by unfold wrap64; omega]
  · rw [if_neg (by omega)]
    rw [if_neg (c7 (by omega))] at hc
    rw [hc]
section
variable {l : List S73} (hg : Good l) (ho : InOrd l l.length) (hl : l.length < 8796093022208) (wd ht : Nat) (w1 : 2 ≤ wd) (w2 : wd ≤ 72) (zr : Option Nat) (least most : Int) (rn cn : Nat → Nat)
  (hrn : ∀ j, j < l.length → Ev (fun k => levyref17_row.f k (hB l (j : Int) : Int) least most (ht : Int)) (rn j : Int)) (hcn : ∀ j, j < l.length → colI l wd j = (cn j : Int))
include hg ho hl w1 w2 hrn hcn
theorem mark_from (c r : Nat) : ∀ (n i : Nat), i + n = l.length → (∀ j, j < i → ¬ (r = rn j ∧ c = cn j)) →
    Ev (fun k => levyref17_mark.l0 k (l.map dB) c r (zrI zr) wd ht least most (i : Int)) (chB (starG rn cn (blankG zr) l.length r c)) := by
  have hlen : (l.map dB).length = l.length := List.length_map _
  intro n
  induction n with
  | zero =>
    intro i hi hno
    obtain rfl : i = l.length := by omega
    refine Ev.step (f := fun _ => some (chB (starG rn cn (blankG zr) l.length r c))) (fun k => ?_) (Ev.now _)
    have hs : starG rn cn (blankG zr) l.length r c = blankG zr r c := by rw [starG_is, if_neg (by rintro ⟨j, a, b⟩; exact hno j a b)]
    rw [levyref17_mark.l0, hlen, if_neg (by omega), hs]
    unfold blankG
    cases zr with
    | none =>
      rw [if_neg (by show ¬ (r : Int) = -1; omega), if_neg (by simp)]
      rfl
    | some z =>
      by_cases hz : z = r
      · rw [if_pos (by show (r : Int) = z; omega), if_pos (by rw [hz])]
        rfl
      · rw [if_neg (by show ¬ (r : Int) = z; omega), if_neg (by simpa using hz)]
        rfl
  | succ n ih =>
    intro i hi hno
    have hil : i < l.length := by omega
    refine Ev.step (mark_col ho hl wd ht w1 w2 least most cn hcn · i hil c r (zrI zr)) ?_
    have hnext : ¬ (r = rn i ∧ c = cn i) → Ev (fun k => levyref17_mark.l0 k (l.map dB) c r (zrI zr) wd ht least most (wrap64 ((i : Int) + 1))) (chB (starG rn cn (blankG zr) l.length r c)) := fun h => by
      rw [show wrap64 ((i : Int) + 1) = ((i + 1 : Nat) : Int) by unfold wrap64; omega]
      refine ih (i + 1) (by omega) fun j hj => ?_
      by_cases hji : j = i
      · rw [hji]; exact h
      · exact hno j (by omega)
    have ey : (rd_T38 (l.map dB) (i : Int)).f1 = (hB l (i : Int) : Int) := by rw [rd_B]; exact (hB_lt hg i).2
    by_cases hc : c = cn i
    · refine Ev.step (f := fun k => (levyref17_row.f k (hB l (i : Int) : Int) least most (ht : Int)).bind fun t233 => if t233 = (r : Int) then some (⟨#[42]⟩ : ByteArray) else levyref17_mark.l0 k (l.map dB) c r (zrI zr) wd ht least most (wrap64 ((i : Int) + 1))) (fun k => ?_) ?_
      · rw [levyref17_mark.j1, if_pos (by omega), if_pos (by omega), if_pos (by rw [hlen]; omega), ey]
      · refine Ev.bind (f := fun k t233 => if t233 = (r : Int) then some (⟨#[42]⟩ : ByteArray) else levyref17_mark.l0 k (l.map dB) c r (zrI zr) wd ht least most (wrap64 ((i : Int) + 1))) (hrn i hil) ?_
        by_cases hr : r = rn i
        · refine Ev.congr (f := fun _ => some (chB (starG rn cn (blankG zr) l.length r c))) (fun k => ?_) (Ev.now _)
          rw [if_pos (by omega), starG_is, if_pos ⟨i, hil, hr, hc⟩]
          rfl
        · refine Ev.congr (fun k => ?_) (hnext fun h => hr h.1)
          rw [if_neg (by omega)]
    · refine Ev.step (fun k => ?_) (hnext fun h => hc h.2)
      rw [levyref17_mark.j1, if_neg (by omega)]
theorem mark_is (c r : Nat) : Ev (fun k => levyref17_mark.f k (l.map dB) c r (zrI zr) wd ht least most) (chB (starG rn cn (blankG zr) l.length r c)) :=
  mark_from hg ho hl wd ht w1 w2 zr least most rn cn hrn hcn c r l.length 0 (by omega) (fun j h => by omega)
end
end Go.Proofs.Ytfhgomcfpmbhnaa.F
end

section
namespace Go.Proofs.Ytfhgomcfpmbhnaa.Y
open Go Go.RowKit Go.Proofs.Ytfhgomcfpmbhnaa.PS Go.Proofs.Ytfhgomcfpmbhnaa.F Go.Proofs.YtfhgomcfpmbhnaaW.PrintWords Go.Proofs.YtfhgomcfpmbhnaaW.PrintMore Go.Proofs.YtfhgomcfpmbhnaaW.Fits
attribute [local go_sem] frun_add frun_sub frun_mul frun_quo frun_neg frun_of frun_same frun_store frun_bits frun_from frun_min frun_max
set_option linter.unusedVariables false
set_option maxRecDepth 100000
set_option maxHeartbeats 4000000 in
theorem draw_size (v : Value) (wd ht : Int) (w : World) (h : wd < 2 ∨ 72 < wd ∨ ht < 2 ∨ 40 < ht) : Calls Try.prog 25 #[v, .int .i64 wd, .int .i64 ht] w (Refuses w 174) := by
  by_cases h1 : wd < 2
  · have b1 : decide (wd < 2) = true := decide_eq_true h1
    clear h
    go_enter Try.func25, Try.ntmps25
    go_wp2
    go_ret2
    exact ⟨rfl, Below.refl _ _⟩
  · have b1 : decide (wd < 2) = false := decide_eq_false h1
    by_cases h2 : 72 < wd
    · have b2 : decide (72 < wd) = true := decide_eq_true h2
      clear h
      go_enter Try.func25, Try.ntmps25
      go_wp2
      go_ret2
      exact ⟨rfl, Below.refl _ _⟩
    · have b2 : decide (72 < wd) = false := decide_eq_false h2
      by_cases h3 : ht < 2
      · have b3 : decide (ht < 2) = true := decide_eq_true h3
        clear h
        go_enter Try.func25, Try.ntmps25
        go_wp2
        go_ret2
        exact ⟨rfl, Below.refl _ _⟩
      · have b3 : decide (ht < 2) = false := decide_eq_false h3
        have b4 : decide (40 < ht) = true := decide_eq_true (by omega)
        clear h
        go_enter Try.func25, Try.ntmps25
        go_wp2
        go_ret2
        exact ⟨rfl, Below.refl _ _⟩
set_option maxHeartbeats 4000000 in
theorem draw_unord (A : Option Addr) (c0 : Nat) (wd ht : Int) (l : List S58) (w : World) (hr : Kd.C k58 w A l.length l) (hc : l.length ≤ c0) (k : Nat) (hord : curve_ordered.f k l = some false) (w1 : 2 ≤ wd) (w2 : wd ≤ 72) (h1 : 2 ≤ ht) (h2 : ht ≤ 40) :
    Calls Try.prog 25 #[.slice A l.length c0, .int .i64 wd, .int .i64 ht] w (Refuses w 172) := by
  have HR := Aside0.mk hr
  have HC := Aside0.mk hc
  clear hr hc
  have b1 : decide (wd < 2) = false := decide_eq_false (by omega)
  have b2 : decide (72 < wd) = false := decide_eq_false (by omega)
  have b3 : decide (ht < 2) = false := decide_eq_false (by omega)
  have b4 : decide (40 < ht) = false := decide_eq_false (by omega)
  go_enter Try.func25, Try.ntmps25
  go_wp2_with fail
  go_at_call 48
  with_reducible refine (curve_ordered.calls k A c0 l false w HR.out HC.out hord).mono ?_
  rintro e wo ⟨rfl, hb⟩
  have HB0 := Aside0.mk hb
  clear hb
  go_wp2_with fail
  go_ret2
  exact ⟨rfl, HB0.out⟩
set_option maxHeartbeats 4000000 in
theorem draw_range (A : Option Addr) (c0 wd ht : Nat) (l : List S58) (w : World) (hr : Kd.C k58 w A l.length l) (hc : l.length ≤ c0) (k : Nat) (hord : curve_ordered.f k l = some true) (hlen : l.length ≤ 8796093022208) (hod : Ordd l) (hsp : fk_sub (highL l l.length) (lowL l l.length) = true) (hfi : curve_finite.f (fl_sub (highL l l.length) (lowL l l.length)) = some false)
    (hne : l.length ≠ 0)
    (w1 : 2 ≤ wd) (w2 : wd ≤ 72) (h1 : 2 ≤ ht) (h2 : ht ≤ 40) :
    Calls Try.prog 25 #[.slice A l.length c0, .int .i64 wd, .int .i64 ht] w (Refuses w 175) := by
  have HR := Aside0.mk hr
  have HC := Aside0.mk hc
  have HLEN := Aside0.mk hlen
  have HOD := Aside0.mk hod
  have HSP := Aside0.mk hsp
  have HFI := Aside0.mk hfi
  have HNE0 := Aside0.mk hne
  clear hr hc hlen hod hsp hfi hne
  have b1 : decide ((wd : Int) < 2) = false := decide_eq_false (by omega)
  have b2 : decide ((72 : Int) < wd) = false := decide_eq_false (by omega)
  have b3 : decide ((ht : Int) < 2) = false := decide_eq_false (by omega)
  have b4 : decide ((40 : Int) < ht) = false := decide_eq_false (by omega)
  go_enter Try.func25, Try.ntmps25
  go_wp2_with fail
  go_at_call 48
  with_reducible refine (curve_ordered.calls k A c0 l true w HR.out HC.out hord).mono ?_
  rintro e wo ⟨rfl, hb⟩
  have HB0 := Aside0.mk hb
  clear hb
  go_wp2_with fail
  have HG0 : Aside0 (Grid w (wo.alloc (.cells (gridL wd []).toArray 89)) wo.heap.size [] wd (fun _ _ => 32)) := ⟨Grid.none _ HB0.out⟩
  generalize hg : wo.heap.size = g at HG0 ⊢
  clear hg
  go_loopg [40] (ht + 1) (fun kq v40 w' => ∃ (i : Nat) (bs : List (Nat × Nat)), v40 = .int .i64 (i : Int) ∧ Aside0 (bs.length = i) ∧ Aside0 (kq + i = ht + 1) ∧ Aside0 (i ≤ ht) ∧ Aside0 (Grid w w' g bs wd (fun _ _ => 32)))
  case atStart => exact ⟨0, [], rfl, ⟨rfl⟩, ⟨by omega⟩, ⟨by omega⟩, HG0⟩
  case round =>
    obtain ⟨i, bs, rfl, HL, HK, HI, HG⟩ := hrel
    cases gk with
    | zero => exact absurd HK.out (by have := HI.out; omega)
    | succ k1 =>
      by_cases hlt : i < ht
      · have hb0 : decide ((i : Int) < (ht : Int)) = true := decide_eq_true (by omega)
        go_wp2_with fail
        go_at_call 49
        with_reducible refine (Try.strings_Repeat_main ⟨#[32]⟩ wd wr w1 (by omega) (by rw [show (⟨#[32]⟩ : ByteArray).size = 1 from rfl]; omega) (by decide)).mono ?_
        rintro e w2' ⟨rfl, hb⟩
        obtain ⟨cap, w3, hconv, hcap, hrow, hb3, hlt3⟩ := row_made w2' 32 wd
        have HGM := Aside0.mk ((HG.out.moved hb))
        have hfree := (HGM.out.moved hb3).free (by rw [HL.out]; omega)
        rw [HL.out] at hfree
        obtain ⟨f0, f1⟩ := hfree
        have HGP := Aside0.mk (HGM.out.push (by rw [HL.out]; omega) hcap hrow hb3)
        clear hb hcap hrow hb3 hlt3
        have i40 : (i : Int) < 40 := by omega
        have i0 : (0 : Int) ≤ (i : Int) := by omega
        go_wp2_with fail
        go_roundg k1
        case measure => omega
        case rel => exact ⟨i + 1, bs ++ [(w2'.heap.size, cap)], by simp, ⟨by rw [List.length_append, HL.out]; rfl⟩, ⟨by have := HK.out; omega⟩, ⟨by omega⟩, ⟨HL.out ▸ HGP.out⟩⟩
      · obtain rfl : i = ht := by have := HI.out; omega
        have hb0 : decide ((i : Int) < (i : Int)) = false := decide_eq_false (by omega)
        by_cases hn : l.length = 0
        · exact absurd hn HNE0.out
        · have hb1 : decide ((0 : Int) < (l.length : Int)) = true := decide_eq_true (by omega)
          have hp0 : (0 : Int) < (l.length : Int) := by omega
          obtain ⟨ad, e1, x0, x1⟩ := at_T58 HR.out 0 (by omega) hp0
          subst e1
          have hbel : Below w.heap.size w wr := HG.out.below
          replace x0 := pw_cell_below hbel x0
          replace x1 := pw_cell_below hbel x1
          rw [show (0 : Int).toNat * 2 = 0 from rfl, show ad.add 0 = ad from rfl] at x0 x1
          clear hbel
          go_wp2_with fail
          go_quiet (fail)
          go_wp2_with fail
          have HGW := Aside0.mk (HG.out.moved (pw_below_drewN (Below.refl wr.heap.size wr) nq))
          clear HG
          generalize wr.drewN nq = wq at HGW ⊢
          go_loopg [10, 11, 62] (l.length + 1) (fun kq v10 v11 v62 w' => ∃ (j : Nat) (a b : Nat), v62 = .int .i64 (j : Int) ∧ v10 = .float .f32 a ∧ v11 = .float .f32 b ∧ Aside0 (lowL l j = a) ∧ Aside0 (highL l j = b) ∧ Aside0 (kq + j = l.length + 1) ∧ Aside0 (j ≤ l.length) ∧ Aside0 (Below wq.heap.size wq w'))
          case atStart => exact ⟨0, _, _, rfl, rfl, rfl, ⟨rfl⟩, ⟨rfl⟩, ⟨by omega⟩, ⟨by omega⟩, ⟨Below.refl _ _⟩⟩
          case round =>
            obtain ⟨j, a, b, rfl, rfl, rfl, HLO, HHI, HK2, HJ, HB2⟩ := hrel
            cases gk with
            | zero => exact absurd HK2.out (by have := HJ.out; omega)
            | succ k2 =>
              have HGR := Aside0.mk (HGW.out.moved HB2.out)
              by_cases hj : j < l.length
              · have hb2 : decide ((j : Int) < (l.length : Int)) = true := decide_eq_true (by omega)
                obtain ⟨ad', e1, y0, y1⟩ := at_T58 HR.out (j : Int) (by omega) (by omega)
                cases e1
                rw [Int.toNat_natCast] at y0 y1
                replace y0 := pw_cell_below HGR.out.below y0
                replace y1 := pw_cell_below HGR.out.below y1
                have p1 : (j : Int) < (l.length : Int) := by omega
                have p2 : (0 : Int) ≤ (j : Int) := by omega
                have p3 : (j : Int) < 8796093022208 := by have := HLEN.out; omega
                have hj' := HOD.out j hj
                have hlo := lowL_succ l j hj
                have hhi := highL_succ l j hj
                rw [show (l.getD j z58).f1 = (rd_T58 l (j : Int)).f1 from rfl] at hj' hlo hhi
                rw [HLO.out] at hj' hlo
                rw [HHI.out] at hj' hhi
                generalize (rd_T58 l (j : Int)).f0 = X at y0
                generalize (rd_T58 l (j : Int)).f1 = Y at y1 hj' hlo hhi
                have HLO2 := Aside0.mk hlo
                have HHI2 := Aside0.mk hhi
                obtain ⟨o1, o2⟩ := hj'
                clear hlo hhi
                go_wp2_with fail
                go_quiet (fail)
                go_wp2_with fail
                go_roundg k2
                case measure => omega
                case rel => exact ⟨j + 1, lowF a Y, highF b Y, by simp, rfl, rfl, HLO2, HHI2, ⟨by have := HK2.out; omega⟩, ⟨by omega⟩, ⟨pw_below_drewN (HB2.out.alloc HB2.out.size _) _⟩⟩
              · obtain rfl : j = l.length := by have := HJ.out; omega
                have hb2 : decide ((l.length : Int) < (l.length : Int)) = false := decide_eq_false (by omega)
                have hsub := HSP.out
                have hfin := HFI.out
                rw [HLO.out, HHI.out] at hsub hfin
                go_wp2_with fail
                go_at_call 50
                with_reducible refine (curve_finite.calls _ false _ hfin).mono ?_
                rintro e wf ⟨rfl, ⟨⟨nf, rfl⟩⟩⟩
                have HBF := Aside0.mk ((pw_below_drewN (HGR.out.below.alloc HGR.out.below.size (.cells #[.float .f32 a, .float .f32 (fl_sub b a), .int .i64 i] 92)) nf))
                go_wp2_with fail
                go_ret2
                exact ⟨rfl, HBF.out⟩
end Go.Proofs.Ytfhgomcfpmbhnaa.Y
end

section
namespace Go.Proofs.Ytfhgomcfpmbhnaa.F
open Go Go.RowKit Go.Proofs.Ytfhgomcfpmbhnaa.Y Go.Proofs.Ytfhgomcfpmbhnaa.PS Ieee
open Go.Proofs.YtfhgomcfpmbhnaaW.PrintWords Go.Proofs.YtfhgomcfpmbhnaaW.PrintMore
set_option linter.unusedVariables false
set_option linter.unusedSimpArgs false
theorem bytes_app (a b : List UInt8) : (⟨a.toArray⟩ : ByteArray) ++ (⟨b.toArray⟩ : ByteArray) = ⟨(a ++ b).toArray⟩ := by
  apply ByteArray.ext
  simp
theorem rowS_succ (c : Nat) (G : Nat → Int) : rowS (c + 1) G = rowS c G ++ [UInt8.ofNat (G c).toNat] := by
  unfold rowS
  rw [List.range_succ, List.map_append]
  rfl
theorem rowS_len (c : Nat) (G : Nat → Int) : (⟨(rowS c G).toArray⟩ : ByteArray).size = c := by
  show (rowS c G).toArray.size = c
  simp [rowS]
def picsB (wd ht : Nat) (G : Nat → Nat → Int) (t : Nat) : List ByteArray := (List.range t).map fun j => ⟨(rowS wd (G (ht - 1 - j))).toArray⟩
theorem picsB_succ (wd ht : Nat) (G : Nat → Nat → Int) (t : Nat) : picsB wd ht G (t + 1) = picsB wd ht G t ++ [⟨(rowS wd (G (ht - 1 - t))).toArray⟩] := by
  unfold picsB
  rw [List.range_succ, List.map_append]
  rfl
theorem picsB_len (wd ht : Nat) (G : Nat → Nat → Int) (t : Nat) : (picsB wd ht G t).length = t := by simp [picsB]
theorem picsB_L (wd ht : Nat) (G : Nat → Nat → Int) (t : Nat) : (picsB wd ht G t).map Value.string = picsL wd ht G t := by
  unfold picsB picsL
  rw [List.map_map]
  rfl
theorem line_from {B : List S38} {wd ht : Nat} {least most x18 : Int} {G : Nat → Nat → Int} (w2 : wd ≤ 72) (hm : ∀ c r : Nat, Ev (fun k => levyref17_mark.f k B c r x18 wd ht least most) (chB (G r c))) (q : List ByteArray × Int) (x19 : List ByteArray) (r : Nat) (hx : x19.length < 8796093022208) :
    ∀ (n c : Nat), c + n = wd → Ev (fun k => levyref17_Draw.l1 k B wd ht least most x18 (x19 ++ [⟨(rowS wd (G r)).toArray⟩]) (wrap64 ((r : Int) - 1))) q → Ev (fun k => levyref17_Draw.l2 k B wd ht least most x18 x19 (r : Int) ⟨(rowS c (G r)).toArray⟩ (c : Int)) q := by
  intro n
  induction n with
  | zero =>
    intro c hc h
    obtain rfl : c = wd := by omega
    refine Ev.step (fun k => ?_) h
    rw [levyref17_Draw.l2, if_neg (by omega), if_pos hx]
  | succ n ih =>
    intro c hc h
    refine Ev.step (f := fun k => (levyref17_mark.f k B c r x18 wd ht least most).bind fun t249 => (if (⟨(rowS c (G r)).toArray⟩ : ByteArray).size + t249.size ≤ 9223372036854775807 then (levyref17_Draw.l2 k B wd ht least most x18 x19 r ((⟨(rowS c (G r)).toArray⟩ : ByteArray) ++ t249) (wrap64 ((c : Int) + 1))) else none)) (fun k => ?_) ?_
    · rw [levyref17_Draw.l2, if_pos (by omega)]
    · refine Ev.bind (f := fun k t249 => (if (⟨(rowS c (G r)).toArray⟩ : ByteArray).size + t249.size ≤ 9223372036854775807 then (levyref17_Draw.l2 k B wd ht least most x18 x19 r ((⟨(rowS c (G r)).toArray⟩ : ByteArray) ++ t249) (wrap64 ((c : Int) + 1))) else none)) (hm c r) ?_
      refine Ev.congr (fun k => ?_) (ih (c + 1) (by omega) h)
      have hs : (chB (G r c)).size = 1 := rfl
      rw [rowS_len, hs, if_pos (by omega), rowS_succ, ← bytes_app, show wrap64 ((c : Int) + 1) = ((c + 1 : Nat) : Int) by unfold wrap64; omega]
      rfl
theorem lines_from {B : List S38} {wd ht : Nat} {least most x18 : Int} {G : Nat → Nat → Int} (w2 : wd ≤ 72) (h2 : ht ≤ 40) (hm : ∀ c r : Nat, Ev (fun k => levyref17_mark.f k B c r x18 wd ht least most) (chB (G r c))) :
    ∀ (n t : Nat), t + n = ht → Ev (fun k => levyref17_Draw.l1 k B wd ht least most x18 (picsB wd ht G t) ((ht : Int) - 1 - (t : Int))) (picsB wd ht G ht, 0) := by
  intro n
  induction n with
  | zero =>
    intro t ht'
    obtain rfl : t = ht := by omega
    refine Ev.step (f := fun _ => some (picsB wd t G t, 0)) (fun k => ?_) (Ev.now _)
    rw [levyref17_Draw.l1, if_neg (by omega)]
  | succ n ih =>
    intro t ht'
    have e := ih (t + 1) (by omega)
    have hr : (ht : Int) - 1 - (t : Int) = ((ht - 1 - t : Nat) : Int) := by omega
    refine Ev.step (f := fun k => levyref17_Draw.l2 k B wd ht least most x18 (picsB wd ht G t) ((ht - 1 - t : Nat) : Int) ⟨(rowS 0 (G (ht - 1 - t))).toArray⟩ ((0 : Nat) : Int)) (fun k => ?_) ?_
    · rw [levyref17_Draw.l1, if_pos (by omega), hr]
      rfl
    · refine line_from w2 hm _ _ _ (by rw [picsB_len]; omega) wd 0 (by omega) ?_
      rw [← picsB_succ, show wrap64 (((ht - 1 - t : Nat) : Int) - 1) = (ht : Int) - 1 - ((t + 1 : Nat) : Int) by unfold wrap64; omega]
      exact e
theorem row_uniq {a D y n m : Nat} {h : Int} (h1 : RowOk a D h y n) (h2 : RowOk a D h y m) : n = m := by
  rcases h1 with ⟨a1, a2⟩ | ⟨a1, _, _, _, _, a2⟩ <;> rcases h2 with ⟨b1, b2⟩ | ⟨b1, _, _, _, _, b2⟩
  · omega
  · rw [a1] at b1; exact absurd b1 (by decide)
  · rw [a1] at b1; exact absurd b1 (by decide)
  · rw [a2] at b2
    have := Option.some.inj b2
    omega
theorem leF_val {x y : Nat} (hx : IsFin x) (hy : IsFin y) : leF x y = decide (valI x ≤ valI y) := by
  have e : FloatKind.f32.format.order x y = some (compare (valI x) (valI y)) := order_val hx hy
  unfold leF
  rw [e, cmp_lt, cmp_eq, Bool.eq_iff_iff]
  simp only [Bool.or_eq_true, decide_eq_true_eq]
  omega
theorem geF_val {x y : Nat} (hx : IsFin x) (hy : IsFin y) : geF x y = decide (valI y ≤ valI x) := by
  rw [geF_is x y hx.1 hy.1 (Nat.le_of_lt hx.2) (Nat.le_of_lt hy.2), Bool.eq_iff_iff]
  simp only [decide_eq_true_eq]
  have := valI_lt x y hx.1 hy.1
  omega
theorem sub_same {low high low' high' : Nat} (fl : IsFin low) (fh : IsFin high) (fl' : IsFin low') (fh' : IsFin high') (el : valI low' = valI low) (eh : valI high' = valI high) :
    ∃ r r', single.sub high low = some r ∧ single.sub high' low' = some r' ∧ isNum r ∧ isNum r' ∧ r' % 2147483648 = r % 2147483648 := by
  have s := sub_units high low fh.1 fl.1 fh.2 fl.2
  have s' := sub_units high' low' fh'.1 fl'.1 fh'.2 fl'.2
  rw [el, eh] at s'
  by_cases h : valI high - valI low = 0
  · rw [if_pos h] at s s'
    refine ⟨_, _, s, s', word_num _ 0 (by decide), word_num _ 0 (by decide), ?_⟩
    rw [(word_at _ 0 (by decide)).2.1, (word_at _ 0 (by decide)).2.1]
  · rw [if_neg h] at s s'
    exact ⟨_, _, s, s', nearest_num _ _ _, nearest_num _ _ _, rfl⟩
theorem chainZ {β : Type} (S : Nat → Option Int) (Fi : Int → Option Bool) (d : Int) (hs : Ev S d) (fb : Bool) (hf : Fi d = some fb) (L1 L2 : Option Bool) (b1 b2 : Bool) (h1 : L1 = some b1) (h2 : L2 = some b2) (K : Nat → Bool → Bool → Option β) (z : β) (q : β) (hq : if fb = true then Ev (fun k => K k b1 b2) q else q = z) :
    Ev (fun k => (S k).bind fun t244 => (Fi t244).bind fun t245 => (if t245 = true then (L1.bind fun t246 => L2.bind fun t247 => K k t246 t247) else some z)) q := by
  refine Ev.bind (f := fun k t244 => (Fi t244).bind fun t245 => (if t245 = true then (L1.bind fun t246 => L2.bind fun t247 => K k t246 t247) else some z)) hs ?_
  rw [hf]
  simp only [Option.bind_some]
  cases fb
  · rw [if_neg (by decide)] at hq
    rw [hq]
    exact Ev.congr (fun k => if_neg (by decide)) (Ev.now _)
  · rw [if_pos rfl] at hq
    rw [h1, h2]
    exact Ev.congr (fun k => if_pos rfl) hq
theorem ref_end (l : List S73) (wd ht : Int) (a b d : Nat) (b1 b2 : Bool) (ha : IsFin a) (hb : IsFin b) (hd : single.sub b a = some d) (h1 : levyref17_Less.f 0 (a : Int) = some b1) (h2 : levyref17_Less.f (b : Int) 0 = some b2) (q : List ByteArray × Int)
    (hq : if decide (d % 2147483648 < 2139095040) = true then (Ev (fun k => levyref17_Draw.j3 k (l.map dB) wd ht (a : Int) (b : Int) (-1) (decide (0 < l.length) && (!b1 && !b2))) q) else q = (([] : List ByteArray), 175)) :
    Ev (fun k => levyref17_Draw.l0 k (l.map dB) wd ht (a : Int) (b : Int) (l.length : Int)) q := by
  have hlen : (l.map dB).length = l.length := List.length_map _
  refine Ev.step (f := fun k => (levyref17_Sub.f k (b : Int) (a : Int)).bind fun t244 => (levyref17_Finite.f t244).bind fun t245 => (if t245 = true then ((levyref17_Less.f 0 (a : Int)).bind fun t246 => (levyref17_Less.f (b : Int) 0).bind fun t247 => (if (l.length : Int) > 0 then (if t246 = true then (levyref17_Draw.j3 k (l.map dB) wd ht (a : Int) (b : Int) (-1) false) else (levyref17_Draw.j3 k (l.map dB) wd ht (a : Int) (b : Int) (-1) (!t247))) else (levyref17_Draw.j3 k (l.map dB) wd ht (a : Int) (b : Int) (-1) false))) else some (([] : List ByteArray), 175))) (fun k => ?_) ?_
  · rw [levyref17_Draw.l0, hlen, if_neg (by omega)]
  · refine chainZ (fun k => levyref17_Sub.f k (b : Int) (a : Int)) levyref17_Finite.f (d : Int) (sub_ev hb.1 ha.1 hd) _ (fin_is d) _ _ b1 b2 h1 h2 (fun k t246 t247 => (if (l.length : Int) > 0 then (if t246 = true then (levyref17_Draw.j3 k (l.map dB) wd ht (a : Int) (b : Int) (-1) false) else (levyref17_Draw.j3 k (l.map dB) wd ht (a : Int) (b : Int) (-1) (!t247))) else (levyref17_Draw.j3 k (l.map dB) wd ht (a : Int) (b : Int) (-1) false))) _ q ?_
    by_cases hf : decide (d % 2147483648 < 2139095040) = true
    · rw [if_pos hf] at hq ⊢
      refine Ev.congr (fun k => ?_) hq
      by_cases h0 : 0 < l.length
      · rw [if_pos (by omega), decide_eq_true h0]
        cases b1 <;> cases b2 <;> rfl
      · rw [if_neg (by omega), decide_eq_false h0]
        rfl
    · rw [if_neg hf] at hq ⊢
      exact hq
theorem lines_all {l : List S73} {wd ht : Nat} {a b x18 : Int} {G : Nat → Nat → Int} (w2 : wd ≤ 72) (h2 : ht ≤ 40) (hm : ∀ c r : Nat, Ev (fun k => levyref17_mark.f k (l.map dB) c r x18 wd ht a b) (chB (G r c))) :
    Ev (fun k => levyref17_Draw.j4 k (l.map dB) wd ht a b x18) (picsB wd ht G ht, 0) := by
  refine Ev.step (f := fun k => levyref17_Draw.l1 k (l.map dB) wd ht a b x18 (picsB wd ht G 0) ((ht : Int) - 1 - ((0 : Nat) : Int))) (fun k => ?_) (lines_from w2 h2 hm ht 0 (by omega))
  rw [levyref17_Draw.j4, show wrap64 ((ht : Int) - 1) = (ht : Int) - 1 - ((0 : Nat) : Int) by unfold wrap64; omega]
  rfl
theorem law_pos {l : List S73} (hg : Good l) (ho : InOrd l l.length) (hl : l.length < 8796093022208) (h0 : 0 < l.length) (wd ht : Nat) (w1 : 2 ≤ wd) (w2 : wd ≤ 72) (h1 : 2 ≤ ht) (h2 : ht ≤ 40)
    (hD : fl_sub (highL (l.map dP) l.length) (lowL (l.map dP) l.length) % 2147483648 < 2139095040) :
    ∃ (rz : Nat) (rn cn : Nat → Nat),
      (leF (lowL (l.map dP) l.length) 0 = true → geF (highL (l.map dP) l.length) 0 = true → RowOk (lowL (l.map dP) l.length) (fl_sub (highL (l.map dP) l.length) (lowL (l.map dP) l.length)) ht 0 rz ∧ rz < ht) ∧
      (∀ j, j < l.length → RowOk (lowL (l.map dP) l.length) (fl_sub (highL (l.map dP) l.length) (lowL (l.map dP) l.length)) ht (hB l (j : Int)) (rn j) ∧ rn j < ht) ∧
      (∀ j, j < l.length → colI l wd j = (cn j : Int)) ∧
      Ev (fun k => levyref17_Draw.l0 k (l.map dB) wd ht 0 0 0) (picsB wd ht (pictG (l.map dP) rz rn cn) ht, 0) := by
  have hlen2 : (l.map dP).length = l.length := List.length_map _
  obtain ⟨fl, fh⟩ := low_fin (fin_P hg ho) (by omega) l.length (by omega)
  have hle := low_le hg ho h0 l.length (Nat.le_refl _)
  have hpict : ∀ rz rn cn r c, pictG (l.map dP) rz rn cn r c = starG rn cn (blankG (if leF (lowL (l.map dP) l.length) 0 = true ∧ geF (highL (l.map dP) l.length) 0 = true then some rz else none)) l.length r c := by
    intro rz rn cn r c
    unfold pictG
    rw [if_neg (by omega), hlen2]
  generalize elow : lowL (l.map dP) l.length = low at *
  generalize ehigh : highL (l.map dP) l.length = high at *
  have hrow : ∀ j, ∃ n : Nat, j < l.length → RowOk low (fl_sub high low) ht (hB l (j : Int)) n ∧ n < ht := by
    intro j
    by_cases hj : j < l.length
    · obtain ⟨n, n0, n1, _⟩ := row_is low high (hB l (j : Int)) low high ht fl fh (fin_hB hg ho j hj) fl fh rfl rfl (hle j hj).1 (hle j hj).2 hD h1 h2
      exact ⟨n, fun _ => ⟨n1, n0⟩⟩
    · exact ⟨0, fun h => absurd h hj⟩
  have hcol : ∀ j, ∃ n : Nat, j < l.length → colI l wd j = (n : Int) := by
    intro j
    by_cases hj : j < l.length
    · obtain ⟨c0, c1, _⟩ := col_in ho wd (by omega) (by omega) j hj
      exact ⟨(colI l wd j).toNat, fun _ => by omega⟩
    · exact ⟨0, fun h => absurd h hj⟩
  obtain ⟨rn, hrn⟩ := Classical.axiomOfChoice hrow
  obtain ⟨cn, hcn⟩ := Classical.axiomOfChoice hcol
  have v0 : valI 0 = 0 := by decide
  obtain ⟨rz, hrz⟩ : ∃ rz : Nat, leF low 0 = true → geF high 0 = true → RowOk low (fl_sub high low) ht 0 rz ∧ rz < ht := by
    by_cases hz : leF low 0 = true ∧ geF high 0 = true
    · have a1 := hz.1
      have a2 := hz.2
      rw [leF_val fl fin_zero] at a1
      rw [geF_val fh fin_zero] at a2
      obtain ⟨n, n0, n1, _⟩ := row_is low high 0 low high ht fl fh fin_zero fl fh rfl rfl (of_decide_eq_true a1) (of_decide_eq_true a2) hD h1 h2
      exact ⟨n, fun _ _ => ⟨n1, n0⟩⟩
    · exact ⟨0, fun a b => absurd ⟨a, b⟩ hz⟩
  refine ⟨rz, rn, cn, hrz, fun j hj => hrn j hj, hcn, refD_first hg ho hl h0 wd ht _ ?_⟩
  intro a b ha hb ea eb
  rw [elow] at ea
  rw [ehigh] at eb
  obtain ⟨d, d', hd, hd', nd, nd', hdd⟩ := sub_same fl fh ha hb ea eb
  rw [(fk_of.2.1 hd).2] at hD hrz hrn
  have hm : ∀ c r : Nat, Ev (fun k => levyref17_mark.f k (l.map dB) c r (zrI (if leF low 0 = true ∧ geF high 0 = true then some rz else none)) wd ht (a : Int) (b : Int)) (chB (pictG (l.map dP) rz rn cn r c)) := by
    intro c r
    rw [hpict]
    refine mark_is hg ho hl wd ht w1 w2 _ (a : Int) (b : Int) rn cn (fun j hj => ?_) hcn c r
    obtain ⟨n, n0, n1, n2⟩ := row_is low high (hB l (j : Int)) a b ht fl fh (fin_hB hg ho j hj) ha hb ea eb (hle j hj).1 (hle j hj).2 (by rw [(fk_of.2.1 hd).2]; exact hD) h1 h2
    rw [(fk_of.2.1 hd).2] at n1
    rw [row_uniq (hrn j hj).1 n1]
    exact n2
  refine ref_end l wd ht a b d' (decide (valI 0 < valI a)) (decide (valI b < valI 0)) ha hb hd' (less_val fin_zero ha) (less_val hb fin_zero) _ ?_
  rw [if_pos (decide_eq_true (by omega)), decide_eq_true h0, Bool.true_and, ea, eb, v0]
  have l1 := leF_val fl fin_zero
  have l2 := geF_val fh fin_zero
  rw [v0] at l1 l2
  by_cases hz : leF low 0 = true ∧ geF high 0 = true
  · rw [if_pos hz] at hm
    have a1 := hz.1
    have a2 := hz.2
    rw [l1] at a1
    rw [l2] at a2
    have a1 := of_decide_eq_true a1
    have a2 := of_decide_eq_true a2
    rw [decide_eq_false (by omega), decide_eq_false (by omega)]
    obtain ⟨n, n0, n1, n2⟩ := row_is low high 0 a b ht fl fh fin_zero ha hb ea eb (by omega) (by omega) (by rw [(fk_of.2.1 hd).2]; exact hD) h1 h2
    rw [(fk_of.2.1 hd).2] at n1
    rw [← row_uniq (hrz hz.1 hz.2).1 n1] at n2
    refine Ev.step (f := fun k => (levyref17_row.f k 0 (a : Int) (b : Int) (ht : Int)).bind fun t248 => levyref17_Draw.j4 k (l.map dB) wd ht (a : Int) (b : Int) t248) (fun k => ?_) ?_
    · rw [levyref17_Draw.j3]
      exact if_pos rfl
    · exact Ev.bind (f := fun k t248 => levyref17_Draw.j4 k (l.map dB) wd ht (a : Int) (b : Int) t248) n2 (lines_all w2 h2 hm)
  · rw [if_neg hz] at hm
    have hflag : (!decide ((0 : Int) < valI low) && !decide (valI high < 0)) = false := by
      rw [l1, l2] at hz
      simp only [decide_eq_true_eq] at hz
      by_cases c : (0 : Int) < valI low
      · rw [decide_eq_true c]; rfl
      · rw [decide_eq_true (show valI high < 0 by omega), Bool.not_true, Bool.and_false]
    rw [hflag]
    refine Ev.step (f := fun k => levyref17_Draw.j4 k (l.map dB) wd ht (a : Int) (b : Int) (-1)) (fun k => ?_) (lines_all w2 h2 hm)
    rw [levyref17_Draw.j3]
    exact if_neg (by decide)
end Go.Proofs.Ytfhgomcfpmbhnaa.F
end

section
namespace Go.Proofs.Ytfhgomcfpmbhnaa.F
open Go Go.RowKit Go.Proofs.Ytfhgomcfpmbhnaa.Y Go.Proofs.Ytfhgomcfpmbhnaa.PS Ieee
open Go.Proofs.YtfhgomcfpmbhnaaW.PrintWords Go.Proofs.YtfhgomcfpmbhnaaW.PrintMore
set_option linter.unusedVariables false
set_option linter.unusedSimpArgs false
def Draws (w : World) (rows : List ByteArray) (r : Int) (e : Ending) (w' : World) : Prop := ∃ v, e = .returned (.tuple #[v, .int .i64 r]) ∧ w'.ownsRow w.heap.size 9 1 v rows.length (rows.map Value.string) ∧ Below w.heap.size w w'
theorem draws_ref {w w' : World} {c : Int} {e : Ending} (h : Refuses w c e w') : Draws w [] c e w' := ⟨_, h.1, own_nil _ _ _ _, h.2⟩
theorem draws_good {w w' : World} {wd ht : Nat} {G : Nat → Nat → Int} {e : Ending} (h : Drew w wd ht G e w') : Draws w (picsB wd ht G ht) 0 e w' := by
  obtain ⟨v, h1, h2, h3⟩ := h
  refine ⟨v, h1, ?_, h3⟩
  rw [picsB_len, picsB_L]
  exact h2
def DrawBoth (l : List S73) (wd ht : Int) : Prop := ∃ rows r, rows.length ≤ 40 ∧ Ev (fun k => levyref17_Draw.f k (l.map dB) wd ht) (rows, r) ∧
  ∀ (A : Option Addr) (c0 n : Nat) (w : World), l.length = n → Kd.C k58 w A n (l.map dP) → n ≤ c0 → Calls Try.prog 25 #[.slice A n c0, .int .i64 wd, .int .i64 ht] w (Draws w rows r)
theorem draw_both {l : List S73} (hg : Good l) (hl : l.length < 8796093022208) (wd ht : Int) : DrawBoth l wd ht := by
  have hlen2 : (l.map dP).length = l.length := List.length_map _
  have hj0 : ∀ b : Bool, (∀ k, levyref17_Draw.f k (l.map dB) wd ht = levyref17_Draw.j0 k (l.map dB) wd ht b) → ∀ q, Ev (fun k => levyref17_Draw.j0 k (l.map dB) wd ht b) q → Ev (fun k => levyref17_Draw.f k (l.map dB) wd ht) q := fun b h q hq => Ev.congr h hq
  have hsize : (wd < 2 ∨ 72 < wd ∨ ht < 2 ∨ 40 < ht) → DrawBoth l wd ht := by
    intro hbad
    refine ⟨[], 174, by decide, hj0 true (fun k => ?_) _ ?_, fun A c0 n w hn hr hc => (draw_size _ wd ht w hbad).mono fun e w' h => draws_ref h⟩
    · unfold levyref17_Draw.f
      by_cases c1 : wd < 2
      · rw [if_pos c1]
      · rw [if_neg c1]
        by_cases c2 : wd > 72
        · rw [if_pos c2]
        · rw [if_neg c2]
          by_cases c3 : ht < 2
          · rw [if_pos c3]
          · rw [if_neg c3, decide_eq_true (show ht > 40 by omega)]
    · refine Ev.step (f := fun _ => some (([] : List ByteArray), (174 : Int))) (fun k => ?_) (Ev.now _)
      rw [levyref17_Draw.j0]
      exact if_pos rfl
  by_cases hbad : wd < 2 ∨ 72 < wd ∨ ht < 2 ∨ 40 < ht
  · exact hsize hbad
  · obtain ⟨wd, rfl⟩ : ∃ n : Nat, wd = n := ⟨wd.toNat, by omega⟩
    obtain ⟨ht, rfl⟩ : ∃ n : Nat, ht = n := ⟨ht.toNat, by omega⟩
    have w1 : 2 ≤ wd := by omega
    have w2 : wd ≤ 72 := by omega
    have h1 : 2 ≤ ht := by omega
    have h2 : ht ≤ 40 := by omega
    have hf := hj0 false (fun k => by
      unfold levyref17_Draw.f
      rw [if_neg (by omega), if_neg (by omega), if_neg (by omega), decide_eq_false (by omega)])
    clear hj0 hsize hbad
    obtain ⟨b, b1, b2, b3⟩ := ordered_is hg
    obtain ⟨kb, hkb⟩ := b1.rounds
    cases b with
    | false =>
      refine ⟨[], 172, by decide, hf _ ?_, fun A c0 n w hn hr hc => ?_⟩
      · refine Ev.step (f := fun k => (levyref17_Ordered.f k (l.map dB)).bind fun t234 => (if t234 = true then (levyref17_Draw.l0 k (l.map dB) wd ht 0 0 0) else (some (([] : List ByteArray), 172)))) (fun k => ?_) ?_
        · rw [levyref17_Draw.j0]
          exact if_neg (by decide)
        · refine Ev.bind (f := fun k t234 => (if t234 = true then (levyref17_Draw.l0 k (l.map dB) wd ht 0 0 0) else (some (([] : List ByteArray), 172)))) b2 ?_
          exact Ev.congr (fun k => if_neg (by decide)) (Ev.now _)
      · have hr' : Kd.C k58 w A (l.map dP).length (l.map dP) := by rw [hlen2, hn]; exact hr
        have := draw_unord A c0 wd ht (l.map dP) w hr' (by omega) kb hkb (by omega) (by omega) (by omega) (by omega)
        rw [hlen2, hn] at this
        exact this.mono fun e w' h => draws_ref h
    | true =>
      have ho := b3 rfl
      have hf2 : ∀ q, Ev (fun k => levyref17_Draw.l0 k (l.map dB) wd ht 0 0 0) q → Ev (fun k => levyref17_Draw.f k (l.map dB) wd ht) q := fun q hq => by
        refine hf _ (Ev.step (f := fun k => (levyref17_Ordered.f k (l.map dB)).bind fun t234 => (if t234 = true then (levyref17_Draw.l0 k (l.map dB) wd ht 0 0 0) else (some (([] : List ByteArray), 172)))) (fun k => ?_) ?_)
        · rw [levyref17_Draw.j0]
          exact if_neg (by decide)
        · refine Ev.bind (f := fun k t234 => (if t234 = true then (levyref17_Draw.l0 k (l.map dB) wd ht 0 0 0) else (some (([] : List ByteArray), 172)))) b2 ?_
          exact Ev.congr (fun k => if_pos rfl) hq
      clear hf b2
      have hod := ordd_of (fin_P hg ho)
      have hbounds : ∀ j, j < l.length → 0 ≤ ((l.map dP).getD j z58).f0 - ((l.map dP).getD 0 z58).f0 ∧ ((l.map dP).getD j z58).f0 ≤ ((l.map dP).getD ((l.map dP).length - 1) z58).f0 ∧ -9999999999999 ≤ ((l.map dP).getD j z58).f0 ∧ ((l.map dP).getD j z58).f0 ≤ 9999999999999 ∧
          (if ((l.map dP).getD 0 z58).f0 < ((l.map dP).getD ((l.map dP).length - 1) z58).f0 then (((l.map dP).getD j z58).f0 - ((l.map dP).getD 0 z58).f0) * ((wd : Int) - 1) / (((l.map dP).getD ((l.map dP).length - 1) z58).f0 - ((l.map dP).getD 0 z58).f0) else 0) = colI l wd j := by
        intro j hj
        obtain ⟨c0, c1, c2, c3, c4, c5, c6, c7⟩ := col_in ho wd (by omega) (by omega) j hj
        rw [at_PX, at_PX, hlen2, at_PX]
        exact ⟨c2, c3, c4, c5, rfl⟩
      by_cases h0 : 0 < l.length
      · obtain ⟨fl, fh⟩ := low_fin (fin_P hg ho) (by omega) l.length (by omega)
        obtain ⟨d, hd, nd⟩ := sub_fin _ _ fh.1 fl.1 fh.2 fl.2
        obtain ⟨kd, ed⟩ := fk_of.2.1 hd
        by_cases hD : d % 2147483648 < 2139095040
        · obtain ⟨rz, rn, cn, e1, e2, e3, e4⟩ := law_pos hg ho hl h0 wd ht w1 w2 h1 h2 (by rw [ed]; exact hD)
          refine ⟨_, 0, by rw [picsB_len]; exact h2, hf2 _ e4, fun A c0 n w hn hr hc => ?_⟩
          have hr' : Kd.C k58 w A (l.map dP).length (l.map dP) := by rw [hlen2, hn]; exact hr
          have hfin : curve_finite.f (fl_sub (highL (l.map dP) (l.map dP).length) (lowL (l.map dP) (l.map dP).length)) = some true := by
            rw [hlen2, ed]
            unfold curve_finite.f
            rw [fFin_is d nd.1, decide_eq_true hD]
          have := draw_good A c0 wd ht (l.map dP) w hr' (by omega) kb hkb (by omega) hod (by rw [hlen2]; exact kd) hfin rz (by rw [hlen2]; exact e1) rn cn
            (fun j hj => by rw [at_P, hlen2]; exact e2 j (by omega))
            (fun j hj => by
              obtain ⟨c0', c1', _⟩ := col_in ho wd (by omega) (by omega) j (by omega)
              have e := e3 j (by omega)
              obtain ⟨a1, a2, a3, a4, a5⟩ := hbounds j (by omega)
              exact ⟨by omega, a1, a2, a3, a4, a5.trans e⟩) w1 w2 h1 h2
          rw [hlen2, hn] at this
          exact this.mono fun e w' h => draws_good h
        · refine ⟨[], 175, by decide, hf2 _ (refD_first hg ho hl h0 wd ht _ ?_), fun A c0 n w hn hr hc => ?_⟩
          · intro a b ha hb ea eb
            obtain ⟨d0, d', hd0, hd', nd0, nd', hdd⟩ := sub_same fl fh ha hb ea eb
            rw [hd] at hd0
            cases hd0
            refine ref_end l wd ht a b d' _ _ ha hb hd' (less_val fin_zero ha) (less_val hb fin_zero) _ ?_
            rw [if_neg (by rw [decide_eq_true_eq]; omega)]
          · have hr' : Kd.C k58 w A (l.map dP).length (l.map dP) := by rw [hlen2, hn]; exact hr
            have hfin : curve_finite.f (fl_sub (highL (l.map dP) (l.map dP).length) (lowL (l.map dP) (l.map dP).length)) = some false := by
              rw [hlen2, ed]
              unfold curve_finite.f
              rw [fFin_is d nd.1, decide_eq_false hD]
            have := draw_range A c0 wd ht (l.map dP) w hr' (by omega) kb hkb (by omega) hod (by rw [hlen2]; exact kd) hfin (by omega) w1 w2 h1 h2
            rw [hlen2, hn] at this
            exact this.mono fun e w' h => draws_ref h
      · obtain rfl : l = [] := List.eq_nil_of_length_eq_zero (by omega)
        have hm : ∀ c r : Nat, Ev (fun k => levyref17_mark.f k (([] : List S73).map dB) c r (zrI none) wd ht ((0 : Nat) : Int) ((0 : Nat) : Int)) (chB (pictG (([] : List S73).map dP) 0 (fun _ => 0) (fun _ => 0) r c)) := by
          intro c r
          exact mark_is hg ho hl wd ht w1 w2 none _ _ (fun _ => 0) (fun _ => 0) (fun j hj => absurd hj (Nat.not_lt_zero _)) (fun j hj => absurd hj (Nat.not_lt_zero _)) c r
        have hs0 : single.sub 0 0 = some 0 := by decide +kernel
        have v0 : valI 0 = 0 := by decide
        refine ⟨picsB wd ht (pictG (([] : List S73).map dP) 0 (fun _ => 0) (fun _ => 0)) ht, 0, by rw [picsB_len]; exact h2, hf2 _ ?_, fun A c0 n w hn hr hc => ?_⟩
        · refine ref_end [] wd ht 0 0 0 _ _ fin_zero fin_zero hs0 (less_val fin_zero fin_zero) (less_val fin_zero fin_zero) _ ?_
          rw [if_pos (by decide)]
          refine Ev.step (f := fun k => levyref17_Draw.j4 k (([] : List S73).map dB) wd ht ((0 : Nat) : Int) ((0 : Nat) : Int) (-1)) (fun k => ?_) (lines_all w2 h2 hm)
          rw [levyref17_Draw.j3]
          exact if_neg (by decide)
        · have hr' : Kd.C k58 w A (([] : List S73).map dP).length (([] : List S73).map dP) := by rw [hlen2, hn]; exact hr
          have hfin : curve_finite.f (fl_sub (highL (([] : List S73).map dP) (([] : List S73).map dP).length) (lowL (([] : List S73).map dP) (([] : List S73).map dP).length)) = some true := by
            have e0 : fl_sub 0 0 = 0 := (fk_of.2.1 hs0).2
            show curve_finite.f (fl_sub 0 0) = _
            rw [e0]
            unfold curve_finite.f
            rw [fFin_is 0 (by decide), decide_eq_true (by decide)]
          have := draw_good A c0 wd ht (([] : List S73).map dP) w hr' (by omega) kb hkb (by rw [hlen2]; omega) hod (fk_of.2.1 hs0).1 hfin 0 (fun _ _ => ⟨.inl ⟨by
              have e0 : fl_sub 0 0 = 0 := (fk_of.2.1 hs0).2
              show (FloatKind.f32.format.order (fl_sub 0 0) 0 == some Ordering.eq) = true
              rw [e0]
              decide +kernel, rfl⟩, by omega⟩) (fun _ => 0) (fun _ => 0)
            (fun j hj => absurd hj (Nat.not_lt_zero _)) (fun j hj => absurd hj (Nat.not_lt_zero _)) w1 w2 h1 h2
          rw [hlen2, hn] at this
          exact this.mono fun e w' h => draws_good h
end Go.Proofs.Ytfhgomcfpmbhnaa.F
end

section
namespace Go.Proofs.Ytfhgomcfpmbhnaa.Y
open Go Go.RowKit Go.Proofs.Ytfhgomcfpmbhnaa.PS Go.Proofs.Ytfhgomcfpmbhnaa.F Go.Proofs.YtfhgomcfpmbhnaaW.PrintWords Go.Proofs.YtfhgomcfpmbhnaaW.PrintMore
set_option linter.unusedVariables false
set_option maxRecDepth 100000
theorem C_ownS {w : World} {base n : Nat} {v : Value} {xs : List ByteArray} (hn : xs.length = n) (h : w.ownsRow base 9 1 v n (xs.map Value.string)) : ∃ A c, v = .slice A n c ∧ n ≤ c ∧ Kd.C Kd.string w A n xs := by
  rcases h.2 with ⟨rfl, rfl⟩ | ⟨g, cap, cur, rfl, _, _, h1, h2, _⟩
  · obtain rfl : xs = [] := List.eq_nil_of_length_eq_zero hn
    exact ⟨none, 0, rfl, Nat.le_refl _, Kd.C_nil _ w⟩
  · refine ⟨some ⟨g, 0, none⟩, cap, rfl, h1, hn, by unfold maxLen at h2; omega, fun _ => ⟨_, rfl, fun j p hj => ⟨[.string p], rfl, rfl, fun i u hu => ?_⟩⟩⟩
    have e : (xs.map Value.string)[j]? = some (.string p) := by rw [List.getElem?_map, hj]; rfl
    have := h.cells (g := g) rfl j _ e
    match i, hu with
    | 0, hu =>
      obtain rfl : Value.string p = u := by simpa using hu
      rw [show j * Kd.string.sz + 0 = j by show j * 1 + 0 = j; omega]
      exact this
    | i + 1, hu => simp at hu
end Go.Proofs.Ytfhgomcfpmbhnaa.Y
end

section
namespace Go.Proofs.Ytfhgomcfpmbhnaa.Y
open Go Go.RowKit Go.Proofs.Ytfhgomcfpmbhnaa.PS Go.Proofs.Ytfhgomcfpmbhnaa.F Go.Proofs.YtfhgomcfpmbhnaaW.PrintWords Go.Proofs.YtfhgomcfpmbhnaaW.PrintMore Go.Proofs.YtfhgomcfpmbhnaaW.Fits
attribute [local go_sem] frun_add frun_sub frun_mul frun_quo frun_neg frun_of frun_same frun_store frun_bits frun_from
set_option linter.unusedVariables false
set_option maxRecDepth 100000
theorem ev_uniq {α : Type} {g : Nat → Option α} {a b : α} (h1 : Ev g a) (h2 : Ev g b) : a = b := by
  obtain ⟨K, h1⟩ := h1
  obtain ⟨K', h2⟩ := h2
  have a1 := h1 (max K K') (by omega)
  have a2 := h2 (max K K') (by omega)
  rw [a1] at a2
  exact Option.some.inj a2
def knownD : List S73 := [⟨0, 0⟩, ⟨200, 1120403456⟩, ⟨400, 1128792064⟩, ⟨600, 1133903872⟩]
def knownR : List ByteArray := [⟨#[32, 32, 32, 32, 32, 32, 42]⟩, ⟨#[32, 32, 32, 32, 42, 32, 32]⟩, ⟨#[32, 32, 42, 32, 32, 32, 32]⟩, ⟨#[42, 45, 45, 45, 45, 45, 45]⟩]
theorem known_line : lineL 0 200 (fun x => wrap64 (Int.tdiv x 2)) 4 = knownD.map dP := by kernel_rfl
theorem known_slope : curve_Slope.f 100 (knownD.map dP) = some ([⟨0, 1056964608⟩, ⟨200, 1056964608⟩, ⟨400, 1056964608⟩], 0) := by kernel_rfl
theorem known_at : curve_At.f 100 (knownD.map dP) 300 = some (1125515264, 0) := by kernel_rfl
theorem known_draw : levyref17_Draw.f 200 (knownD.map dB) 7 4 = some (knownR, 0) := by kernel_rfl
theorem draw_mono (l : List S38) (a b : Int) : ∀ k, LeO (levyref17_Draw.f k l a b) (levyref17_Draw.f (k + 1) l a b) := levyref17_Draw.mono l a b
theorem known_good : F.Good knownD := by
  refine ⟨by decide, ?_⟩
  intro d hd
  rcases List.mem_cons.1 hd with rfl | hd
  · decide
  rcases List.mem_cons.1 hd with rfl | hd
  · decide
  rcases List.mem_cons.1 hd with rfl | hd
  · decide
  rcases List.mem_cons.1 hd with rfl | hd
  · decide
  simp at hd
theorem known_both : ∀ (A : Option Addr) (c0 n : Nat) (w : World), knownD.length = n → Kd.C k58 w A n (knownD.map dP) → n ≤ c0 → Calls Try.prog 25 #[.slice A n c0, .int .i64 7, .int .i64 4] w (Draws w knownR 0) := by
  obtain ⟨rows, r, h1, h2, h3⟩ := draw_both known_good (by decide) 7 4
  have h4 := Ev.of (draw_mono (knownD.map dB) 7 4) known_draw
  have h5 := ev_uniq h2 h4
  cases h5
  exact h3
theorem frun_eqin (w : World) (d : Nat) (x y : Nat) : (Op.equalIn (d + 1) 56 (.float .f32 x) (.float .f32 y)).run Try.prog w = .ok (FloatKind.f32.format.order x y == some .eq) w := by
  simp [Op.equalIn, run_underlying Try.underlying56, Op.floatEq]
attribute [local go_sem] frun_eqin
theorem slope_k (A : Option Addr) (c : Nat) (w : World) (hr : Kd.C k58 w A 4 (knownD.map dP)) (hc : 4 ≤ c) : Calls Try.prog 29 #[.slice A 4 c] w (GivesTwo k58 3 [⟨0, 1056964608⟩, ⟨200, 1056964608⟩, ⟨400, 1056964608⟩] 0 w) := by
  refine (curve_Slope.calls 100 A c (knownD.map dP) _ _ w hr hc known_slope).mono ?_
  rintro e w' ⟨v, rfl, hR, hb⟩
  obtain ⟨A', c', rfl, h1, h2⟩ := Kd.R_reads hR
  exact ⟨A', c', rfl, h1, h2, hb⟩
theorem at_k (A : Option Addr) (c : Nat) (w : World) (hr : Kd.C k58 w A 4 (knownD.map dP)) (hc : 4 ≤ c) : Calls Try.prog 31 #[.slice A 4 c, .int .i64 300] w (fun e w' => e = .returned (.tuple #[.float .f32 1125515264, .int .i64 0]) ∧ Below w.heap.size w w') :=
  curve_At.calls 100 A c (knownD.map dP) 300 _ _ w hr hc known_at
theorem draw_k (A : Option Addr) (c : Nat) (w : World) (hr : Kd.C k58 w A 4 (knownD.map dP)) (hc : 4 ≤ c) : Calls Try.prog 25 #[.slice A 4 c, .int .i64 7, .int .i64 4] w (GivesTwo Kd.string 4 knownR 0 w) := by
  refine (known_both A c 4 w rfl hr hc).mono ?_
  rintro e w' ⟨v, rfl, hown, hb⟩
  obtain ⟨A', c', rfl, hc', hC'⟩ := C_ownS rfl hown
  exact ⟨A', c', rfl, hc', hC', hb⟩
theorem line_k (w : World) : Calls Try.prog 13 #[.func (.func 47) #[] #[], .int .i64 0, .int .i64 200, .int .i64 4] w (GivesTwo k58 4 (knownD.map dP) 0 w) := by
  refine (sample_line 4 (fun x => wrap64 (Int.tdiv x 2)) 0 200 w (fun w1 x _ => levylaw17_line.calls x 1 (wrap64 (Int.tdiv x 2)) w1 rfl) (by decide) (by decide) (by decide) (by decide) (by decide) (by decide) (by decide)).mono ?_
  rintro e w' ⟨v, rfl, h⟩
  rw [known_line] at h
  obtain ⟨A', c', rfl, hc', hC'⟩ := C_own58 (n := 4) rfl h.out
  exact ⟨A', c', rfl, hc', hC', h.below⟩
set_option maxHeartbeats 4000000 in
theorem known_calls (w : World) : Calls Try.prog 22 #[] w (TrueBelow w) := by
  go_enter Try.func22, Try.ntmps22
  go_wp2_with fail
  go_at_call 13
  with_reducible refine (line_k w).mono ?_
  rintro e w1 ⟨A1, c1, rfl, hc1, hX, hb⟩
  have HE1 := Aside0.mk hb
  have HC1 := Aside0.mk hc1
  have HX1 := Aside0.mk hX
  clear hc1 hX hb
  go_wp2_with fail
  go_at_call 29
  with_reducible refine (slope_k A1 c1 w1 HX1.out HC1.out).mono ?_
  rintro e w2 ⟨A2, c2, rfl, hc2, hY, hb⟩
  have HX2 := Aside0.mk (Kd.C_below HX1.out hb)
  have HE2 := Aside0.mk (below_then HE1.out HE1.out.size hb)
  have HC2 := Aside0.mk hc2
  have HY2 := Aside0.mk hY
  clear hc2 hY hb
  go_wp2_with fail
  go_at_call 31
  with_reducible refine (at_k A1 c1 w2 HX2.out HC1.out).mono ?_
  rintro e w3 ⟨rfl, hb⟩
  have HX3 := Aside0.mk (Kd.C_below HX2.out hb)
  have HY3 := Aside0.mk (Kd.C_below HY2.out hb)
  have HE3 := Aside0.mk (below_then HE2.out HE2.out.size hb)
  clear hb
  go_wp2_with fail
  go_at_call 25
  with_reducible refine (draw_k A1 c1 w3 HX3.out HC1.out).mono ?_
  rintro e w4 ⟨A4, c4, rfl, hc4, hZ, hb⟩
  have HX4 := Aside0.mk (Kd.C_below HX3.out hb)
  have HY4 := Aside0.mk (Kd.C_below HY3.out hb)
  have HZ4 := Aside0.mk hZ
  have HE4 := Aside0.mk (below_then HE3.out HE3.out.size hb)
  clear hc4 hZ hb
  have f1 : (FloatKind.f32.format.order 1125515264 1125515264 != some Ordering.eq) = false := by decide +kernel
  have f2 : (FloatKind.f32.format.order 1133903872 1133903872 == some Ordering.eq) = true := by decide +kernel
  have f3 : (FloatKind.f32.format.order 1056964608 1056964608 == some Ordering.eq) = true := by decide +kernel
  obtain ⟨ad, ex, x0, x1⟩ := at_T58 HX4.out 3 (by decide) (by decide)
  cases ex
  obtain ⟨ad2, ey, y0, y1⟩ := at_T58 HY4.out 2 (by decide) (by decide)
  cases ey
  obtain ⟨ad4, ez, z0⟩ := Kd.at_string HZ4.out 0 (by decide) (by decide)
  cases ez
  obtain ⟨ad5, ez, z3⟩ := Kd.at_string HZ4.out 3 (by decide) (by decide)
  cases ez
  have x0' : w4.cell? { block := ad.block, off := ad.off + 6 } = some (.int .i64 600) := x0
  have x1' : w4.cell? { block := ad.block, off := ad.off + 6 + 1 } = some (.float .f32 1133903872) := x1
  have y0' : w4.cell? { block := ad2.block, off := ad2.off + 4 } = some (.int .i64 400) := y0
  have y1' : w4.cell? { block := ad2.block, off := ad2.off + 4 + 1 } = some (.float .f32 1056964608) := y1
  have z0' : w4.cell? ad4 = some (.string ⟨#[32, 32, 32, 32, 32, 32, 42]⟩) := z0
  have z3' : w4.cell? { block := ad4.block, off := ad4.off + 3 } = some (.string ⟨#[42, 45, 45, 45, 45, 45, 45]⟩) := z3
  clear x0 x1 y0 y1 z0 z3
  go_wp2_with fail
  go_ret
  exact ⟨rfl, HE4.out⟩
end Go.Proofs.Ytfhgomcfpmbhnaa.Y
end

section
namespace Go.Proofs.Ytfhgomcfpmbhnaa.Y
open Go Go.RowKit Go.Proofs.Ytfhgomcfpmbhnaa.PS Go.Proofs.Ytfhgomcfpmbhnaa.F Go.Proofs.YtfhgomcfpmbhnaaW.PrintWords Go.Proofs.YtfhgomcfpmbhnaaW.PrintMore Go.Proofs.YtfhgomcfpmbhnaaW.Fits
attribute [local go_sem] frun_add frun_sub frun_mul frun_quo frun_neg frun_of frun_same frun_store frun_bits frun_from frun_eqin
set_option linter.unusedVariables false
set_option maxRecDepth 100000
theorem same_eq {x : Nat} (hx : IsFin x) : (FloatKind.f32.format.order x x == some Ordering.eq) = true := by
  have e : FloatKind.f32.format.order x x = some (compare (valI x) (valI x)) := F.order_val hx hx
  rw [e, F.cmp_eq]
  exact decide_eq_true rfl
theorem small_is (a m : Int) (hm : 0 < m) (hm1 : m ≤ 200000) (ha0 : -9223372036854775808 ≤ a) (ha1 : a ≤ 9223372036854775807) : ∃ r, levylaw17_small.f a m = some r ∧ -m ≤ r ∧ r ≤ m := by
  have hw : wrap64 (wrap64 (2 * m) + 1) = 2 * m + 1 := by unfold wrap64; omega
  have key : ∀ x : Int, 0 ≤ x → ∃ r, some (wrap64 (Int.tmod x (2 * m + 1) - m)) = some r ∧ -m ≤ r ∧ r ≤ m := by
    intro x hx
    have t0 := Int.tmod_nonneg (2 * m + 1) hx
    have t1 := Int.tmod_lt_of_pos x (show 0 < 2 * m + 1 by omega)
    refine ⟨_, rfl, ?_⟩
    generalize Int.tmod x (2 * m + 1) = t at *
    unfold wrap64
    omega
  unfold levylaw17_small.f
  rw [hw]
  by_cases h : a < 0
  · rw [if_pos h, if_neg (by omega)]
    refine key _ ?_
    unfold wrap64
    omega
  · rw [if_neg h, if_neg (by omega)]
    exact key a (by omega)
theorem known_c (w : World) : Calls Try.prog 22 #[] w (fun e w' => e = .returned (.bool true) ∧ Below w.heap.size w w') := known_calls w
theorem small_c (a m r : Int) (w : World) (h : levylaw17_small.f a m = some r) : Calls Try.prog 24 #[.int .i64 a, .int .i64 m] w (fun e w' => e = .returned (.int .i64 r) ∧ Below w.heap.size w w') :=
  (levylaw17_small.calls a m r w h).mono fun e w' h => ⟨h.1, h.2.below⟩
theorem i64_ok2 {x : Int} (h : (Lit.int .i64 x).wf = true) : -9223372036854775808 ≤ x ∧ x ≤ 9223372036854775807 := by
  have b : IntKind.i64.min ≤ x ∧ x ≤ IntKind.i64.max := by simpa [Lit.wf] using h
  exact b
end Go.Proofs.Ytfhgomcfpmbhnaa.Y
end

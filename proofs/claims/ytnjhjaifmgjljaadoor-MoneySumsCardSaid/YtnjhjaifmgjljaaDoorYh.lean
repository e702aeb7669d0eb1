/- money.Sum's contracts, as the plain function tells. -/
import Derived.Test.YtnjhjaifmgjljaaDoorPMx0
import Derived.Test.YtnjhjaifmgjljaaDoorPMx2
import Derived.Test.YtnjhjaifmgjljaaDoorPMx10
import Derived.Test.YtnjhjaifmgjljaaDoorPMx11
import Derived.Test.YtnjhjaifmgjljaaDoorYe
import Derived.Test.YtnjhjaifmgjljaaDoorYg
namespace Go.Proofs.YtnjhjaifmgjljaaDoor.Y
open Go.RowKit Go.Shelf Go.Proofs.YtnjhjaifmgjljaaDoor.PM Go.Proofs.YtnjhjaifmgjljaaDoor.Q Go.Proofs.YtnjhjaifmgjljaaDoorW.PrintWords
set_option linter.unusedVariables false
theorem sum_tk (gb : Nat) (A : Option Addr) (cap : Nat) (xs : List S23) (hx : xs.length ≤ 20000) (kind : Int) (hkind : kind = 1 ∨ kind = 2) (w : World) (hgb : gb < w.heap.size) (hgb0 : 0 < gb)
    (hne : 0 < xs.length → ∀ ad, A = some ad → ad.block ≠ gb) (hh : Held gb A cap xs 0 w) (hg0 : Kd.C k87 w (some ⟨0, 0, none⟩) gtab0.length gtab0) :
    Calls Tryd.prog 22 #[.int .i64 kind, .func (.func 21) #[.pointer (some ⟨gb, 0, none⟩)] #[]] w fun e w' =>
      e = .returned (.agg #[.int .i64 (tk kind xs 0 0).1.1, .int .i64 (tk kind xs 0 0).1.2]) ∧ But w.heap.size gb w w' ∧ Held gb A cap xs (tk kind xs 0 0).2 w' := by
  refine (sum_calls gb A cap xs (by omega) kind hkind w hgb hgb0 hne hh hg0).mono ?_
  have hs := tk_spec kind hkind xs [] 0 rfl (by simp) (by simp) (by simpa using hx)
  rintro e w' (⟨h, lo, hr, rfl, hb, hH⟩ | ⟨pre, x, h, lo, a, hp, hr, hst, rfl, hb, hH⟩)
  · have := hs.1 h lo (by simpa using hr)
    simp only [List.length_nil, List.nil_append] at this
    rw [this]; exact ⟨rfl, hb, hH⟩
  · have := hs.2 pre x h lo a (by simpa using hp) (by simp) hr hst
    simp only [List.length_nil] at this
    rw [this]; exact ⟨rfl, hb, hH⟩
attribute [local go_sem] Oper.semAt_some
set_option maxRecDepth 100000 in
set_option maxHeartbeats 4000000 in
theorem sum_other (f : Value) (kind : Int) (h1 : kind ≠ 1) (h2 : kind ≠ 2) (w : World) :
    Calls Tryd.prog 22 #[.int .i64 kind, f] w fun e w' => e = .returned (.agg #[.int .i64 6, .int .i64 5]) ∧ Below w.heap.size w w' := by
  have hb1 : (kind != 1) = true := bne_iff_ne.mpr h1
  have hb2 : (kind != 2) = true := bne_iff_ne.mpr h2
  have C1 := Aside0.mk h1
  have C2 := Aside0.mk h2
  clear h1 h2
  refine (callsIn_wide (n := 8)).1 ?_
  refine callsIn_of_wp Tryd.func22 rfl trivial ?_ rfl
  simp only [Tryd.ntmps22, List.size_toArray, List.length_cons, List.length_nil, Nat.reduceAdd, Nat.reduceSub, Array.replicate_succ, Array.replicate_zero, List.push_toArray, List.append_toArray, List.nil_append, List.cons_append]
  have hB0 : Below w.heap.size w ((w.alloc (Obj.cells #[Value.int IntKind.i64 kind] 3)).alloc (Obj.cells #[Value.int IntKind.i64 0, Value.int IntKind.i64 0] 23)) := ((Below.refl _ w).alloc (Nat.le_refl _) _).alloc (by simp) _
  have hq4 : ((w.alloc (Obj.cells #[Value.int IntKind.i64 kind] 3)).alloc (Obj.cells #[Value.int IntKind.i64 0, Value.int IntKind.i64 0] 23)).heap[w.heap.size + 1]? = some (.cells #[.int .i64 0, .int .i64 0] 23 (0, 0)) := by
    have := World.alloc_heap_new (w.alloc (Obj.cells #[Value.int IntKind.i64 kind] 3)) (Obj.cells #[Value.int IntKind.i64 0, Value.int IntKind.i64 0] 23)
    rwa [World.size_alloc] at this
  gi_wp2_with (first
    | (refine ⟨trivial, ?_⟩; gi_at_call 59; refine (callsIn_wide.2 (money_fault.calls 5 6 5 _ rfl)).mono ?_; rintro e W3 ⟨rfl, hb3⟩; have hq := (hb3.block _ (by simp)).trans hq4; obtain ⟨k40, k41, k4f, k4g⟩ := cells_at2 hq))
  have hq2 := set_two (u' := .int .i64 6) (v' := .int .i64 5) hq
  obtain ⟨q0, q1, q0f, q1f⟩ := cells_at2 hq2
  refine bodyPost_ret (v := .agg #[.int .i64 6, .int .i64 5]) (by simp [results, Tryd.f22, go_sem, q0, q1]) rfl ?_
  exact ⟨rfl, ((hB0.trans (hb3.mono (by simp; omega))).setCell (by simp) _).setCell (by simp) _⟩
set_option maxRecDepth 100000 in
set_option maxHeartbeats 4000000 in
theorem sum_nil (kind : Int) (hkind : kind = 1 ∨ kind = 2) (w : World) (hg0 : Kd.C k87 w (some ⟨0, 0, none⟩) gtab0.length gtab0) :
    Calls Tryd.prog 22 #[.int .i64 kind, .nilFunc] w fun e w' => e = .returned (.agg #[.int .i64 (boundS kind 0).1, .int .i64 (boundS kind 0).2]) ∧ Below w.heap.size w w' := by
  have hks : (kind != 1) = false ∨ ((kind != 1) = true ∧ (kind != 2) = false) := by rcases hkind with h | h <;> subst h <;> decide
  have hk0 : 0 ≤ kind := by rcases hkind with e | e <;> omega
  have hk6 : kind ≤ 6 := by rcases hkind with e | e <;> omega
  have hnil : ∀ W : World, Sem.run Tryd.prog (binOp BinOp.eql 91 Value.nilFunc Value.nilFunc) W = Result.ok (.bool true) W := fun W => rfl
  obtain ⟨b1, b2, hb12⟩ : ∃ b1 b2, boundS kind 0 = (b1, b2) := ⟨_, _, rfl⟩
  rw [hb12]
  refine (callsIn_wide (n := 8)).1 ?_
  refine callsIn_of_wp Tryd.func22 rfl trivial ?_ rfl
  simp only [Tryd.ntmps22, List.size_toArray, List.length_cons, List.length_nil, Nat.reduceAdd, Nat.reduceSub, Array.replicate_succ, Array.replicate_zero, List.push_toArray, List.append_toArray, List.nil_append, List.cons_append]
  have hB0 : Below w.heap.size w ((w.alloc (Obj.cells #[Value.int IntKind.i64 kind] 3)).alloc (Obj.cells #[Value.int IntKind.i64 0, Value.int IntKind.i64 0] 23)) := ((Below.refl _ w).alloc (Nat.le_refl _) _).alloc (by simp) _
  have hq4 : ((w.alloc (Obj.cells #[Value.int IntKind.i64 kind] 3)).alloc (Obj.cells #[Value.int IntKind.i64 0, Value.int IntKind.i64 0] 23)).heap[w.heap.size + 1]? = some (.cells #[.int .i64 0, .int .i64 0] 23 (0, 0)) := by
    have := World.alloc_heap_new (w.alloc (Obj.cells #[Value.int IntKind.i64 kind] 3)) (Obj.cells #[Value.int IntKind.i64 0, Value.int IntKind.i64 0] 23)
    rwa [World.size_alloc] at this
  have hT := Kd.C_below hg0 hB0
  obtain ⟨W0, hW0⟩ : ∃ W0, ((w.alloc (Obj.cells #[Value.int IntKind.i64 kind] 3)).alloc (Obj.cells #[Value.int IntKind.i64 0, Value.int IntKind.i64 0] 23)) = W0 := ⟨_, rfl⟩
  have hsz : w.heap.size + 2 = W0.heap.size := by rw [← hW0]; simp
  have hb2 : W0.heap[w.heap.size]? = some (.cells #[.int .i64 kind] 3 (0, 0)) := by
    rw [← hW0]; exact (Below.heap_alloc _ _ _ (by simp)).trans (World.alloc_heap_new w _)
  rw [hW0] at hB0 hq4 hT
  obtain ⟨k2, k2f⟩ := cells_at hb2
  rcases hks with hk1 | ⟨hk1, hk2⟩
  all_goals
    gi_wp2_with (first
      | (refine ⟨trivial, ?_⟩; gi_at_call 60; refine (callsIn_wide.2 (money_checked.calls kind 0 b1 b2 W0 ((checked_is kind 0 hk0 hk6).trans (by rw [hb12])) hT)).mono ?_; rintro e W3 ⟨rfl, hb3⟩; have hq := (hb3.block _ (by omega)).trans hq4; obtain ⟨k40, k41, k4f, k4g⟩ := cells_at2 hq))
    have hq2 := set_two (u' := .int .i64 b1) (v' := .int .i64 b2) hq
    obtain ⟨q0, q1, q0f, q1f⟩ := cells_at2 hq2
    refine bodyPost_ret (v := .agg #[.int .i64 b1, .int .i64 b2]) (by simp [results, Tryd.f22, go_sem, q0, q1]) rfl ?_
    exact ⟨rfl, ((hB0.trans (hb3.mono (by omega))).setCell (by simp) _).setCell (by simp) _⟩
end Go.Proofs.YtnjhjaifmgjljaaDoor.Y

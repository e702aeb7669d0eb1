-- Part 12 of the texts of the claim CY (wrote by programs: words of the kit's print.sh, printed functions; and my own texts; joined by wip/tools/pack.py).
import Derived.Test.YtfhgomcfpmbhnaaCY11
import Derived.Deep.Slices
import Derived.OpenShut
import Derived.ChangeShapes
import Derived.SizedLaws

section
namespace Go.Proofs.Ytfhgomcfpmbhnaa.Open
open Go.RowKit Go.Deep Go.ChangeShapes Go.Proofs.YtfhgomcfpmbhnaaW.PrintWords
def Opens {α : Type} (P : Program) (T : TypeId) (d : Kd α) (ok : α → Prop) : Prop :=
  ∀ (H : Type) (enc : TypeId × Value → H) (W : World) (spare : Nat → Bool) (held : Bool) (fuel : Nat) (cs : List Value) (x : DataW H × List MemPlace), DataW.trod enc P W 0 spare held fuel T cs = some x → ∃ a, d.K W a cs ∧ ok a
theorem opens_int {P : Program} {T : TypeId} {k : IntKind} (h : P.underlying T = some (.int k)) : Opens P T (Kd.int k) (fun n => (Lit.int k n).wf = true) := by
  intro H enc W spare held fuel cs x hx
  obtain ⟨n, rfl, _, hn⟩ := DataW.trod_int h hx
  exact ⟨n, rfl, hn⟩
theorem opens_iso {α β : Type} {P : Program} {T : TypeId} {d : Kd α} {ok : α → Prop} (h : Opens P T d ok) (f : β → α) (g : α → β) (hfg : ∀ a, f (g a) = a) : Opens P T (Kd.iso d f) (fun b => ok (f b)) := by
  intro H enc W spare held fuel cs x hx
  obtain ⟨a, hK, ho⟩ := h H enc W spare held fuel cs x hx
  refine ⟨g a, ?_, by show ok (f (g a)); rw [hfg]; exact ho⟩
  show d.K W (f (g a)) cs
  rw [hfg]; exact hK
theorem choose_list {α : Type} {Q : Nat → α → Prop} : ∀ n : Nat, (∀ i, i < n → ∃ x, Q i x) → ∃ xs : List α, xs.length = n ∧ ∀ i x, xs[i]? = some x → Q i x
  | 0, _ => ⟨[], rfl, fun i x h => by simp at h⟩
  | n + 1, h => by
    obtain ⟨xs, hl, hq⟩ := choose_list n (fun i hi => h i (by omega))
    obtain ⟨y, hy⟩ := h n (by omega)
    refine ⟨xs ++ [y], by simp [hl], fun i x hx => ?_⟩
    by_cases hi : i < n
    · rw [List.getElem?_append_left (by omega)] at hx
      exact hq i x hx
    · have hin : i = n := by
        have := (List.getElem?_eq_some_iff.1 hx).1
        simp [hl] at this; omega
      subst hin
      rw [List.getElem?_append_right (by omega), hl] at hx
      simp at hx
      exact hx ▸ hy
theorem opens_slice {α : Type} {P : Program} {T e : TypeId} {d : Kd α} {ok : α → Prop} (h : P.underlying T = some (.slice e)) (hd : Opens P e d ok) (hs : P.cellsOf e = d.sz) :
    Opens P T (Kd.slice e d) (fun l => l.length ≤ maxLen ∧ ∀ x ∈ l, ok x) := by
  intro H enc W spare held fuel cs x hx
  rcases open_slice h hx with ⟨rfl, _⟩ | ⟨a, len, cap, m, n, D, Pl, rfl, hb, hl, hm, hmm, rfl, hel⟩
  · exact ⟨[], ⟨none, 0, rfl, Nat.le_refl _, rfl, Nat.zero_le _, fun h => absurd h (by simp)⟩, by simp [maxLen], by simp⟩
  · have hlm : len ≤ m := by rw [hmm]; split <;> omega
    obtain ⟨xs, hxl, hxq⟩ := choose_list (α := α) (Q := fun i x => ∃ cs', d.K W x cs' ∧ ok x ∧ W.cells? 0 (a.add (i * P.cellsOf e)) (P.cellsOf e) = some cs') len (fun i hi => by
      obtain ⟨cs', h1, h2⟩ := hel i (by omega)
      obtain ⟨x, hK, ho⟩ := hd H enc W spare held n cs' _ h2
      exact ⟨x, cs', hK, ho, h1⟩)
    have hML : len ≤ 9223372036854775807 := by unfold maxLen at hm; omega
    have hC : d.C W (some a) xs.length xs := by
      unfold Kd.C ReadsRow
      refine ⟨rfl, by omega, fun _ => ⟨a, rfl, fun j p hj => ?_⟩⟩
      obtain ⟨cs', hK, _, hc⟩ := hxq j p hj
      obtain ⟨_, hlen, hcell⟩ := World.cells?_some hc
      refine ⟨cs', d.K_len hK, hK, fun i u hu => ?_⟩
      have hi : i < P.cellsOf e := by
        have := (List.getElem?_eq_some_iff.1 hu).1; omega
      have := hcell i hi
      rw [hu, Deep.add_add, hs] at this
      exact this
    refine ⟨xs, ⟨some a, cap, by rw [hxl], by omega, hC⟩, by omega, fun x hx => ?_⟩
    obtain ⟨j, hj⟩ := List.getElem?_of_mem hx
    obtain ⟨_, _, ho, _⟩ := hxq j x hj
    exact ho
def OpensL {α : Type} (P : Program) (o : Nat) (fs : List Field) (d : Kd α) (ok : α → Prop) : Prop :=
  ∀ (H : Type) (enc : TypeId × Value → H) (W : World) (spare : Nat → Bool) (held : Bool) (n : Nat) (cs : List Value), cs.length = o + d.sz →
    (∀ (i : Nat) (f : Field), fs[i]? = some f → ∃ x, DataW.trod enc P W 0 spare held n f.type ((cs.drop f.offset).take (P.cellsOf f.type)) = some x) → ∃ a, d.K W a (cs.drop o) ∧ ok a
theorem opensL_last {α : Type} {P : Program} {f : Field} {d : Kd α} {ok : α → Prop} {o : Nat} (ho : f.offset = o) (hd : Opens P f.type d ok) (hs : P.cellsOf f.type = d.sz) : OpensL P o [f] d ok := by
  intro H enc W spare held n cs hl hf
  obtain ⟨x, hx⟩ := hf 0 f rfl
  obtain ⟨a, hK, hok⟩ := hd H enc W spare held n _ x hx
  refine ⟨a, ?_, hok⟩
  rw [ho, hs, List.take_of_length_le (by rw [List.length_drop]; omega)] at hK
  exact hK
theorem opensL_cons {α β : Type} {P : Program} {f : Field} {fs : List Field} {d1 : Kd α} {d2 : Kd β} {ok1 : α → Prop} {ok2 : β → Prop} {o : Nat} (ho : f.offset = o) (hd : Opens P f.type d1 ok1) (hs : P.cellsOf f.type = d1.sz)
    (hr : OpensL P (o + d1.sz) fs d2 ok2) : OpensL P o (f :: fs) (Kd.pair d1 d2) (fun x => ok1 x.1 ∧ ok2 x.2) := by
  intro H enc W spare held n cs hl hf
  have hl' : cs.length = o + (d1.sz + d2.sz) := hl
  obtain ⟨x, hx⟩ := hf 0 f rfl
  obtain ⟨a, hK, hok⟩ := hd H enc W spare held n _ x hx
  obtain ⟨b, hK2, hok2⟩ := hr H enc W spare held n cs (by omega) (fun i g hg => hf (i + 1) g (by simpa using hg))
  refine ⟨(a, b), ⟨_, _, ?_, hK, hK2⟩, hok, hok2⟩
  rw [ho, hs, ← List.drop_drop, List.take_append_drop]
theorem opens_struct {α : Type} {P : Program} {T : TypeId} {fs : Array Field} {d : Kd α} {ok : α → Prop} (h : P.underlying T = some (.struct fs)) (hL : OpensL P 0 fs.toList d ok) (hs : P.cellsOf T = d.sz) : Opens P T d ok := by
  intro H enc W spare held fuel cs x hx
  obtain ⟨xs, n, _, _, hl, hlen, hf⟩ := DataW.trod_struct h hx
  obtain ⟨a, hK, ho⟩ := hL H enc W spare held n cs (by omega) (fun i f hi => by
    have hi' : fs[i]? = some f := by simpa using hi
    have := hf i f hi'
    have hlt : i < xs.length := by
      have := (Array.getElem?_eq_some_iff.1 hi').1; omega
    rw [List.getElem?_eq_getElem hlt] at this
    exact ⟨_, this⟩)
  exact ⟨a, by simpa using hK, ho⟩
theorem slice_arg {α : Type} {P : Program} {T e : TypeId} {d : Kd α} {ok : List α → Prop} (ho : Opens P T (Kd.slice e d) ok) {H : Type} {enc : TypeId × Value → H} {W : World} {spare : Nat → Bool} {held : Bool} {A : Option Addr} {n c : Nat} {x : DataW H} {p : List MemPlace}
    (h : DataW.Trod enc P W 0 spare held T (.slice A n c) x p) : ∃ l : List α, n = l.length ∧ l.length ≤ c ∧ d.C W A l.length l ∧ ok l := by
  obtain ⟨fuel, hf⟩ := h
  obtain ⟨l, ⟨A', c', hcs, hl, hC⟩, hok⟩ := ho H enc W spare held fuel _ _ hf
  have hcs' : [Value.slice A n c] = [.slice A' l.length c'] := by simpa [Value.cells] using hcs
  simp only [List.cons.injEq, Value.slice.injEq, and_true] at hcs'
  obtain ⟨rfl, rfl, rfl⟩ := hcs'
  exact ⟨l, rfl, hl, hC, hok⟩
theorem slice_sized {P : Program} {T e : TypeId} {B : Nat} (hu : P.underlying T = some (.slice e)) (hB : P.bytesOf e = B) {H : Type} {enc : TypeId × Value → H} {W : World} {spare : Nat → Bool} {held : Bool} {A : Option Addr} {n c : Nat} {x : DataW H} {p : List MemPlace} {ts : List TypeId} {ds : List (DataW H)}
    (h : DataW.Trod enc P W 0 spare held T (.slice A n c) x p) (hsz : (DataW.weightsEach P ts ds).all (· ≤ reachBytes) = true) (j : Nat) (ht : ts[j]? = some T) (hd : ds[j]? = some x) : n * B ≤ 140737488351232 := by
  obtain ⟨fuel, hf⟩ := h
  rcases open_slice hu hf with ⟨hcs, _⟩ | ⟨a, len, cap, m, k, D, Pl, hcs, _, hl, _, hmm, hx, _⟩
  · have hcs' : [Value.slice A n c] = [.slice none 0 0] := by simpa [Value.cells] using hcs
    simp only [List.cons.injEq, Value.slice.injEq, and_true] at hcs'
    rw [hcs'.2.1]; simp
  · have hcs' : [Value.slice A n c] = [.slice (some a) len cap] := by simpa [Value.cells] using hcs
    simp only [List.cons.injEq, Value.slice.injEq, and_true] at hcs'
    obtain ⟨rfl, rfl, rfl⟩ := hcs'
    obtain ⟨hx, _⟩ := Prod.mk.inj hx
    subst hx
    have z := sized_slice hsz ht hd hu
    rw [hB, List.length_map, List.length_range, List.length_map, List.length_range] at z
    exact Nat.le_trans (Nat.mul_le_mul_right _ (by omega)) z
end Go.Proofs.Ytfhgomcfpmbhnaa.Open
end

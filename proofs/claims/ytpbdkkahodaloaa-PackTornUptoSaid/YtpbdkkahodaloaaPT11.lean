-- Part 11 of the texts of the claim PT (wrote by programs: words of the kit's print.sh, printed functions; and my own texts; joined by wip/tools/pack.py).
import Derived.Test.YtpbdkkahodaloaaPT10
import Derived.Deep.Slices
import Derived.OpenShut
import Derived.ChangeShapes
import Derived.SizedLaws

section
namespace Go.Proofs.Ytpbdkkahodaloaa.Open
open Go.RowKit Go.Deep Go.ChangeShapes Go.Proofs.YtpbdkkahodaloaaW.PrintWords
def Opens {α : Type} (P : Program) (T : TypeId) (d : Kd α) (ok : α → Prop) : Prop :=
  ∀ (H : Type) (enc : TypeId × Value → H) (W : World) (spare : Nat → Bool) (held : Bool) (fuel : Nat) (cs : List Value) (x : DataW H × List MemPlace), DataW.trod enc P W 0 spare held fuel T cs = some x → ∃ a, d.K W a cs ∧ ok a
theorem opens_int {P : Program} {T : TypeId} {k : IntKind} (h : P.underlying T = some (.int k)) : Opens P T (Kd.int k) (fun n => (Lit.int k n).wf = true) := by
  intro H enc W spare held fuel cs x hx
  obtain ⟨n, rfl, _, hn⟩ := DataW.trod_int h hx
  exact ⟨n, rfl, hn⟩
theorem trod_bool' {H : Type} {enc : TypeId × Value → H} {P : Program} {W : World} {spare : Nat → Bool} {held : Bool} {fuel : Nat} {T : TypeId} {cs : List Value} {x : DataW H × List MemPlace} (h : P.underlying T = some .bool) (hx : DataW.trod enc P W 0 spare held fuel T cs = some x) : ∃ b, cs = [.bool b] := by
  cases fuel with
  | zero => simp [DataW.trod] at hx
  | succ n =>
    unfold DataW.trod at hx
    rw [h] at hx
    split at hx <;> simp_all
theorem choose_list {α : Type} {Q : Nat → α → Prop} : ∀ n : Nat, (∀ i, i < n → ∃ x, Q i x) → ∃ xs : List α, xs.length = n ∧ ∀ i x, xs[i]? = some x → Q i x
  | 0, _ => ⟨[], rfl, fun i x h => by simp at h⟩
  | n + 1, h => by
    obtain ⟨xs, hl, hq⟩ := choose_list n (fun i hi => h i (by omega))
    obtain ⟨y, hy⟩ := h n (by omega)
    refine ⟨xs ++ [y], by simp [hl], fun i x hx => ?_⟩
    by_cases hi : i < n
    · rw [List.getElem?_append_left (by omega)] at hx
      exact hq i x hx
    · have hin : i = n := by
        have := (List.getElem?_eq_some_iff.1 hx).1
        simp [hl] at this; omega
      subst hin
      rw [List.getElem?_append_right (by omega), hl] at hx
      simp at hx
      exact hx ▸ hy
theorem opens_slice {α : Type} {P : Program} {T e : TypeId} {d : Kd α} {ok : α → Prop} (h : P.underlying T = some (.slice e)) (hd : Opens P e d ok) (hs : P.cellsOf e = d.sz) :
    Opens P T (Kd.slice e d) (fun l => l.length ≤ maxLen ∧ ∀ x ∈ l, ok x) := by
  intro H enc W spare held fuel cs x hx
  rcases open_slice h hx with ⟨rfl, _⟩ | ⟨a, len, cap, m, n, D, Pl, rfl, hb, hl, hm, hmm, rfl, hel⟩
  · exact ⟨[], ⟨none, 0, rfl, Nat.le_refl _, rfl, Nat.zero_le _, fun h => absurd h (by simp)⟩, by simp [maxLen], by simp⟩
  · have hlm : len ≤ m := by rw [hmm]; split <;> omega
    obtain ⟨xs, hxl, hxq⟩ := choose_list (α := α) (Q := fun i x => ∃ cs', d.K W x cs' ∧ ok x ∧ W.cells? 0 (a.add (i * P.cellsOf e)) (P.cellsOf e) = some cs') len (fun i hi => by
      obtain ⟨cs', h1, h2⟩ := hel i (by omega)
      obtain ⟨x, hK, ho⟩ := hd H enc W spare held n cs' _ h2
      exact ⟨x, cs', hK, ho, h1⟩)
    have hML : len ≤ 9223372036854775807 := by unfold maxLen at hm; omega
    have hC : d.C W (some a) xs.length xs := by
      unfold Kd.C ReadsRow
      refine ⟨rfl, by omega, fun _ => ⟨a, rfl, fun j p hj => ?_⟩⟩
      obtain ⟨cs', hK, _, hc⟩ := hxq j p hj
      obtain ⟨_, hlen, hcell⟩ := World.cells?_some hc
      refine ⟨cs', d.K_len hK, hK, fun i u hu => ?_⟩
      have hi : i < P.cellsOf e := by
        have := (List.getElem?_eq_some_iff.1 hu).1; omega
      have := hcell i hi
      rw [hu, Deep.add_add, hs] at this
      exact this
    refine ⟨xs, ⟨some a, cap, by rw [hxl], by omega, hC⟩, by omega, fun x hx => ?_⟩
    obtain ⟨j, hj⟩ := List.getElem?_of_mem hx
    obtain ⟨_, _, ho, _⟩ := hxq j x hj
    exact ho
theorem slice_arg {α : Type} {P : Program} {T e : TypeId} {d : Kd α} {ok : List α → Prop} (ho : Opens P T (Kd.slice e d) ok) {H : Type} {enc : TypeId × Value → H} {W : World} {spare : Nat → Bool} {held : Bool} {A : Option Addr} {n c : Nat} {x : DataW H} {p : List MemPlace}
    (h : DataW.Trod enc P W 0 spare held T (.slice A n c) x p) : ∃ l : List α, n = l.length ∧ l.length ≤ c ∧ d.C W A l.length l ∧ ok l := by
  obtain ⟨fuel, hf⟩ := h
  obtain ⟨l, ⟨A', c', hcs, hl, hC⟩, hok⟩ := ho H enc W spare held fuel _ _ hf
  have hcs' : [Value.slice A n c] = [.slice A' l.length c'] := by simpa [Value.cells] using hcs
  simp only [List.cons.injEq, Value.slice.injEq, and_true] at hcs'
  obtain ⟨rfl, rfl, rfl⟩ := hcs'
  exact ⟨l, rfl, hl, hC, hok⟩
theorem agg_of {cs : Array Value} {l : List Value} (h : cs.toList = l) : Value.agg cs = .agg l.toArray := by rw [← h]
theorem int_range {k : IntKind} {n : Int} (h : (Lit.int k n).wf = true) : k.min ≤ n ∧ n ≤ k.max := by
  simpa [Lit.wf] using h
end Go.Proofs.Ytpbdkkahodaloaa.Open
end

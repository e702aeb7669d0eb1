-- Part 13 of the texts of the claim PF (wrote by programs: words of the kit's print.sh, printed functions; and my own texts; joined by wip/tools/pack.py).
import Derived.Test.YtpbdkkahodaloaaPF12
import Derived.Deep.Slices
import Derived.OpenShut
import Derived.ChangeShapes
import Derived.SizedLaws

section
namespace Go.Proofs.Ytpbdkkahodaloaa.Open
open Go.RowKit Go.Deep Go.ChangeShapes Go.Proofs.YtpbdkkahodaloaaW.PrintWords
theorem trod_bool' {H : Type} {enc : TypeId × Value → H} {P : Program} {W : World} {spare : Nat → Bool} {held : Bool} {fuel : Nat} {T : TypeId} {cs : List Value} {x : DataW H × List MemPlace} (h : P.underlying T = some .bool) (hx : DataW.trod enc P W 0 spare held fuel T cs = some x) : ∃ b, cs = [.bool b] := by
  cases fuel with
  | zero => simp [DataW.trod] at hx
  | succ n =>
    unfold DataW.trod at hx
    rw [h] at hx
    split at hx <;> simp_all
theorem choose_list {α : Type} {Q : Nat → α → Prop} : ∀ n : Nat, (∀ i, i < n → ∃ x, Q i x) → ∃ xs : List α, xs.length = n ∧ ∀ i x, xs[i]? = some x → Q i x
  | 0, _ => ⟨[], rfl, fun i x h => by simp at h⟩
  | n + 1, h => by
    obtain ⟨xs, hl, hq⟩ := choose_list n (fun i hi => h i (by omega))
    obtain ⟨y, hy⟩ := h n (by omega)
    refine ⟨xs ++ [y], by simp [hl], fun i x hx => ?_⟩
    by_cases hi : i < n
    · rw [List.getElem?_append_left (by omega)] at hx
      exact hq i x hx
    · have hin : i = n := by
        have := (List.getElem?_eq_some_iff.1 hx).1
        simp [hl] at this; omega
      subst hin
      rw [List.getElem?_append_right (by omega), hl] at hx
      simp at hx
      exact hx ▸ hy
theorem agg_of {cs : Array Value} {l : List Value} (h : cs.toList = l) : Value.agg cs = .agg l.toArray := by rw [← h]
theorem int_range {k : IntKind} {n : Int} (h : (Lit.int k n).wf = true) : k.min ≤ n ∧ n ≤ k.max := by
  simpa [Lit.wf] using h
end Go.Proofs.Ytpbdkkahodaloaa.Open
end

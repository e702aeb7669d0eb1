/- Plain: money.Sum and the reference's Taken answer alike. -/
import Derived.Test.YtnjhjaifmgjljaaDoorPMx0
import Derived.Test.YtnjhjaifmgjljaaDoorYd
namespace Go.Proofs.YtnjhjaifmgjljaaDoor.Y
open Go.RowKit Go.Proofs.YtnjhjaifmgjljaaDoor.PM Go.Proofs.YtnjhjaifmgjljaaDoor.Q Go.Proofs.YtnjhjaifmgjljaaDoorW.PrintWords
set_option linter.unusedVariables false
/-- What is told of a list, s having been summed and k having been taken. -/
def tk (kind : Int) : List S23 → Int → Nat → (Int × Int) × Nat
  | [], s, k => (boundS kind s, k)
  | v :: l, s, k => if vld v.f0 v.f1 = false then ((6, 5), k + 1) else if v.f0 = 6 then ((v.f0, v.f1), k + 1) else if v.f0 = 0 then tk kind l s (k + 1) else if v.f0 ≠ kind then ((6, 5), k + 1) else tk kind l (s + v.f1) (k + 1)
theorem vld_num {a b : Int} (h : vld a b = true) (hk : a = 1 ∨ a = 2) : -10000000000000 ≤ b ∧ b ≤ 10000000000000 := by
  rcases hk with rfl | rfl <;> simp [vld] at h <;> omega
theorem step_small (kind s : Int) (hkind : kind = 1 ∨ kind = 2) (v : S23) (hs : -900000000000000000 ≤ s) (hs1 : s ≤ 900000000000000000) :
    sumStep kind 0 s v = if vld v.f0 v.f1 = false then .inr (6, 5) else if v.f0 = 6 then .inr (v.f0, v.f1) else if v.f0 = 0 then .inl (0, s) else if v.f0 ≠ kind then .inr (6, 5) else .inl (0, s + v.f1) := by
  unfold sumStep
  by_cases c1 : vld v.f0 v.f1 = false
  · rw [if_pos c1, if_pos c1]
  · rw [if_neg c1, if_neg c1]
    by_cases c2 : v.f0 = 6
    · rw [if_pos c2, if_pos c2]
    · rw [if_neg c2, if_neg c2]
      by_cases c3 : v.f0 = 0
      · rw [if_pos c3, if_pos c3]
      · rw [if_neg c3, if_neg c3]
        by_cases c4 : v.f0 = kind
        · have hv := vld_num (by simpa using c1 : vld v.f0 v.f1 = true) (by rw [c4]; exact hkind)
          have hw : wrap64 (s + v.f1) = s + v.f1 := by unfold wrap64; omega
          rw [if_neg (show ¬ v.f0 ≠ kind from fun h => h c4), if_neg (show ¬ v.f0 ≠ kind from fun h => h c4), hw, if_neg (by omega), if_neg (by omega)]
        · rw [if_pos c4, if_pos c4]
theorem tk_spec (kind : Int) (hkind : kind = 1 ∨ kind = 2) : ∀ (rest pre : List S23) (s : Int), runs kind pre = some (0, s) → -(pre.length : Int) * 10000000000000 ≤ s → s ≤ (pre.length : Int) * 10000000000000 → pre.length + rest.length ≤ 20000 →
    (∀ h lo, runs kind (pre ++ rest) = some (h, lo) → tk kind rest s pre.length = (fin kind h lo, (pre ++ rest).length)) ∧
    (∀ q x h lo a, q ++ [x] <+: pre ++ rest → pre.length ≤ q.length → runs kind q = some (h, lo) → sumStep kind h lo x = .inr a → tk kind rest s pre.length = (a, q.length + 1)) := by
  intro rest
  induction rest with
  | nil =>
    intro pre s hr hs0 hs1 hl
    constructor
    · intro h lo e
      rw [List.append_nil, hr] at e
      cases e
      have hw : wrap64 (wrap64 (0 * 1000000000000000000) + s) = s := by unfold wrap64; simp at hl; omega
      simp only [tk, fin, List.append_nil]
      rw [if_neg (by simp), hw]
    · intro q x h lo a hq hpq _ _
      have := hq.length_le
      simp at this
      omega
  | cons v rest IH =>
    intro pre s hr hs0 hs1 hl
    have hl2 : pre.length + (rest.length + 1) ≤ 20000 := hl
    have hst := step_small kind s hkind v (by omega) (by omega)
    have hsn : runs kind (pre ++ [v]) = match sumStep kind 0 s v with | .inl st' => some st' | .inr _ => none := by rw [runs_snoc, hr]; rfl
    -- a list that stops at v: nothing behind it runs
    have none_on : ∀ (l : List S23), runs kind (pre ++ [v]) = none → runs kind (pre ++ [v] ++ l) = none := by
      intro l hn
      unfold runs at hn ⊢
      rw [List.foldl_append, hn]
      clear hn
      induction l with
      | nil => rfl
      | cons y l ih => simpa using ih
    have eapp : pre ++ v :: rest = pre ++ [v] ++ rest := by simp
    have stop : ∀ a, sumStep kind 0 s v = .inr a → (∀ h lo, runs kind (pre ++ v :: rest) = some (h, lo) → False) ∧ (∀ q x h lo a', q ++ [x] <+: pre ++ v :: rest → pre.length ≤ q.length → runs kind q = some (h, lo) → sumStep kind h lo x = .inr a' → a' = a ∧ q.length = pre.length) := by
      intro a ha
      rw [ha] at hsn
      refine ⟨fun h lo e => (by rw [eapp, none_on rest hsn] at e; cases e), ?_⟩
      intro q x h lo a' hq hpq hrq hsx
      by_cases hle : q.length = pre.length
      · have h1 : q = pre := by
          have h2 := (List.prefix_append q [x]).trans hq
          have h3 := List.prefix_of_prefix_length_le h2 (List.prefix_append pre (v :: rest)) (by omega)
          exact h3.eq_of_length hle
        subst h1
        have h4 : x = v := by
          obtain ⟨z, hz⟩ := hq
          have h5 : q ++ ([x] ++ z) = q ++ (v :: rest) := by rw [← List.append_assoc]; exact hz
          have := List.append_cancel_left h5
          simp at this; exact this.1
        subst h4
        rw [hr] at hrq; cases hrq
        rw [ha] at hsx; cases hsx
        exact ⟨rfl, rfl⟩
      · exfalso
        have h2 := (List.prefix_append q [x]).trans hq
        have h3 : pre ++ [v] <+: q := List.prefix_of_prefix_length_le (by rw [eapp]; exact List.prefix_append _ _) h2 (by simp; omega)
        obtain ⟨z, hz⟩ := h3
        rw [← hz, none_on z hsn] at hrq
        cases hrq
    have go : ∀ s', sumStep kind 0 s v = .inl (0, s') → -((pre ++ [v]).length : Int) * 10000000000000 ≤ s' → s' ≤ ((pre ++ [v]).length : Int) * 10000000000000 →
        (∀ h lo, runs kind (pre ++ v :: rest) = some (h, lo) → tk kind rest s' (pre.length + 1) = (fin kind h lo, (pre ++ v :: rest).length)) ∧
        (∀ q x h lo a, q ++ [x] <+: pre ++ v :: rest → pre.length ≤ q.length → runs kind q = some (h, lo) → sumStep kind h lo x = .inr a → tk kind rest s' (pre.length + 1) = (a, q.length + 1)) := by
      intro s' hs' b0 b1
      rw [hs'] at hsn
      have ih := IH (pre ++ [v]) s' hsn b0 b1 (by simp; omega)
      rw [eapp]
      rw [show (pre ++ [v]).length = pre.length + 1 by simp] at ih
      refine ⟨ih.1, ?_⟩
      intro q x h lo a hq hpq hrq hsx
      by_cases hle : q.length = pre.length
      · exfalso
        have h1 : q = pre := by
          have h2 := (List.prefix_append q [x]).trans hq
          rw [← eapp] at h2
          have h3 := List.prefix_of_prefix_length_le h2 (List.prefix_append pre (v :: rest)) (by omega)
          exact h3.eq_of_length hle
        subst h1
        have h4 : x = v := by
          obtain ⟨z, hz⟩ := hq
          rw [← eapp] at hz
          have h5 : q ++ ([x] ++ z) = q ++ (v :: rest) := by rw [← List.append_assoc]; exact hz
          have := List.append_cancel_left h5
          simp at this; exact this.1
        subst h4
        rw [hr] at hrq; cases hrq
        rw [hs'] at hsx; cases hsx
      · exact ih.2 q x h lo a hq (by omega) hrq hsx
    simp only [tk]
    by_cases c1 : vld v.f0 v.f1 = false
    · rw [if_pos c1] at hst ⊢
      obtain ⟨h1, h2⟩ := stop _ hst
      exact ⟨fun h lo e => (h1 h lo e).elim, fun q x h lo a e1 e2 e3 e4 => by obtain ⟨rfl, e⟩ := h2 q x h lo a e1 e2 e3 e4; rw [e]⟩
    · rw [if_neg c1] at hst ⊢
      by_cases c2 : v.f0 = 6
      · rw [if_pos c2] at hst ⊢
        obtain ⟨h1, h2⟩ := stop _ hst
        exact ⟨fun h lo e => (h1 h lo e).elim, fun q x h lo a e1 e2 e3 e4 => by obtain ⟨rfl, e⟩ := h2 q x h lo a e1 e2 e3 e4; rw [e]⟩
      · rw [if_neg c2] at hst ⊢
        by_cases c3 : v.f0 = 0
        · rw [if_pos c3] at hst ⊢
          exact go s hst (by simp; omega) (by simp; omega)
        · rw [if_neg c3] at hst ⊢
          by_cases c4 : v.f0 = kind
          · have hv := vld_num (by simpa using c1 : vld v.f0 v.f1 = true) (by rw [c4]; exact hkind)
            rw [if_neg (fun h => h c4)] at hst ⊢
            exact go _ hst (by simp; omega) (by simp; omega)
          · rw [if_pos c4] at hst ⊢
            obtain ⟨h1, h2⟩ := stop _ hst
            exact ⟨fun h lo e => (h1 h lo e).elim, fun q x h lo a e1 e2 e3 e4 => by obtain ⟨rfl, e⟩ := h2 q x h lo a e1 e2 e3 e4; rw [e]⟩
end Go.Proofs.YtnjhjaifmgjljaaDoor.Y

/- Plain: rounding, on both sides; a value's amount; cents. -/
import Derived.Test.YtnjhjaifmgjljaaDoorPMx0
import Derived.Test.YtnjhjaifmgjljaaDoorPMx36
import Derived.Test.YtnjhjaifmgjljaaDoorPMx37
import Derived.Test.YtnjhjaifmgjljaaDoorPMx38
import Derived.Test.YtnjhjaifmgjljaaDoorPMx42
import Derived.Test.YtnjhjaifmgjljaaDoorPMx44
import Derived.Test.YtnjhjaifmgjljaaDoorQf
import Derived.Test.YtnjhjaifmgjljaaDoorQe
set_option linter.unusedSimpArgs false
namespace Go.Proofs.YtnjhjaifmgjljaaDoor.Q
open Go.RowKit Go.Proofs.YtnjhjaifmgjljaaDoor.PM Go.Proofs.YtnjhjaifmgjljaaDoorW.PrintWords Go.Proofs.YtnjhjaifmgjljaaDoorW.PrintLast Go.Proofs.YtnjhjaifmgjljaaDoorW.PrintMore
theorem u64 {x : Int} (h0 : 0 ≤ x) (h1 : x ≤ 18446744073709551615) : IntKind.u64.wrap x = x := by
  show x % 18446744073709551616 = x
  omega
/-- One further from zero? -/
def away (mode : Int) (minus : Bool) (q r n : Int) : Bool :=
  if mode = 1 then (minus && decide (r > 0)) else if mode = 2 then (!minus && decide (r > 0)) else if mode = 4 then (decide (r > n - r) || (decide (r = n - r) && !minus))
  else if mode = 5 then (decide (r > n - r) || (decide (r = n - r) && decide (q % 2 = 1))) else false
def rnd (mode : Int) (minus : Bool) (q r n : Int) : Int :=
  let m := if away mode minus q r n then q + 1 else q
  if minus then -m else m
theorem Ev.one {α : Type} {g : Nat → Option α} {r : α} (h : ∀ k, g (k + 1) = some r) : Ev g r := Ev.step (f := fun _ => some r) h (Ev.now r)

theorem rounded_j0 (q : Int) (minus up : Bool) (h0 : 0 ≤ q) (h1 : q ≤ 18446744073709551615) :
    Ev (fun k => money_rounded.j0 k q minus up) (if q > 4611686018427387904 then (0, false) else ((if minus then -(if up then q + 1 else q) else (if up then q + 1 else q)), true)) := by
  refine Ev.one fun k => ?_
  simp only [money_rounded.j0]
  by_cases hq : q > 4611686018427387904
  · rw [if_pos hq, if_pos hq]
  · rw [if_neg hq, if_neg hq]
    cases up <;> cases minus <;> simp <;> (try rw [u64 (x := q + 1) (by omega) (by omega)]) <;> (try rw [w64 (x := q + 1) (by omega) (by omega)]) <;> (try rw [w64 (x := q) (by omega) (by omega)]) <;> (try rw [w64 (by omega) (by omega)])
theorem rounded_is (mode : Int) (minus : Bool) (q r n : Int) (h0 : 0 ≤ q) (h1 : q ≤ 18446744073709551615) (hr0 : 0 ≤ r) (hr1 : r < n) (hn : n ≤ 9223372036854775807) :
    Ev (fun k => money_rounded.f k q r n minus mode) (if q > 4611686018427387904 then (0, false) else (rnd mode minus q r n, true)) := by
  have hj := fun up => rounded_j0 q minus up h0 h1
  have key : ∀ up, away mode minus q r n = up → (∀ k, money_rounded.f k q r n minus mode = money_rounded.j0 k q minus up) → Ev (fun k => money_rounded.f k q r n minus mode) (if q > 4611686018427387904 then (0, false) else (rnd mode minus q r n, true)) := by
    intro up hu hk
    refine Ev.congr hk ?_
    unfold rnd
    rw [hu]
    exact hj up
  have hsub : IntKind.u64.wrap (n - r) = n - r := u64 (by omega) (by omega)
  have htm : Int.tmod q 2 = q % 2 := Int.tmod_eq_emod_of_nonneg h0
  by_cases hr : r > 0
  · by_cases m1 : mode = 1
    · subst m1
      refine key minus (by simp [away, hr]) (fun k => ?_)
      unfold money_rounded.f; rw [if_pos hr, if_pos rfl]
    · by_cases m2 : mode = 2
      · subst m2
        refine key (!minus) (by simp [away, hr]) (fun k => ?_)
        unfold money_rounded.f; rw [if_pos hr, if_neg (by decide), if_pos rfl]
      · by_cases m4 : mode = 4
        · subst m4
          by_cases c1 : r > n - r
          · refine key true (by simp [away, c1]) (fun k => ?_)
            unfold money_rounded.f; rw [if_pos hr, if_neg (by decide), if_neg (by decide), if_pos rfl, hsub, if_pos c1]
          · by_cases c2 : r = n - r
            · refine key (!minus) (by simp [away, c1, ← c2]) (fun k => ?_)
              unfold money_rounded.f; rw [if_pos hr, if_neg (by decide), if_neg (by decide), if_pos rfl, hsub, if_neg c1, if_pos c2]
            · refine key false (by simp [away, c1, c2]) (fun k => ?_)
              unfold money_rounded.f; rw [if_pos hr, if_neg (by decide), if_neg (by decide), if_pos rfl, hsub, if_neg c1, if_neg c2]
        · by_cases m5 : mode = 5
          · subst m5
            by_cases c1 : r > n - r
            · refine key true (by simp [away, c1]) (fun k => ?_)
              unfold money_rounded.f; rw [if_pos hr, if_neg (by decide), if_neg (by decide), if_neg (by decide), if_pos rfl, hsub, if_pos c1]
            · by_cases c2 : r = n - r
              · refine key (q % 2 == 1) (by simp [away, c1, ← c2]; rw [Bool.eq_iff_iff]; simp) (fun k => ?_)
                unfold money_rounded.f; rw [if_pos hr, if_neg (by decide), if_neg (by decide), if_neg (by decide), if_pos rfl, hsub, if_neg c1, if_pos c2, htm]
              · refine key false (by simp [away, c1, c2]) (fun k => ?_)
                unfold money_rounded.f; rw [if_pos hr, if_neg (by decide), if_neg (by decide), if_neg (by decide), if_pos rfl, hsub, if_neg c1, if_neg c2]
          · refine key false (by simp [away, m1, m2, m4, m5]) (fun k => ?_)
            unfold money_rounded.f; rw [if_pos hr, if_neg m1, if_neg m2, if_neg m4, if_neg m5]
  · have hr' : r = 0 := by omega
    refine key false ?_ (fun k => by unfold money_rounded.f; rw [if_neg hr])
    subst hr'
    unfold away
    rw [show decide ((0 : Int) > n - 0) = false from decide_eq_false (by omega), show decide ((0 : Int) = n - 0) = false from decide_eq_false (by omega), show decide ((0 : Int) > 0) = false from rfl]
    simp

theorem ref_rounded_j0 (q : Int) (minus up : Bool) (h0 : 0 ≤ q) (h1 : q ≤ 100000000000000) :
    Ev (fun k => levyref1_rounded.j0 k minus q up) (if minus then -(if up then q + 1 else q) else (if up then q + 1 else q)) := by
  refine Ev.one fun k => ?_
  simp only [levyref1_rounded.j0]
  cases up <;> cases minus <;> simp <;> (try rw [w64 (x := q + 1) (by omega) (by omega)]) <;> (try rw [w64 (by omega) (by omega)])
theorem ref_rounded_is (mode : Int) (minus : Bool) (l : List Int) (n : Int) (hn0 : 0 < n) (hn : n < 100000000000000) (hs : small 100000 l) (hl : l.length ≤ 1000) :
    Ev (fun k => levyref1_rounded.f k l minus n mode) (rnd mode minus (min (val l / n) most) (val l % n) n) := by
  have hd := divided_is l n hn0 hn hs hl
  have hv := val_nonneg hs
  have hr0 := Int.emod_nonneg (val l) (show n ≠ 0 by omega)
  have hr1 := Int.emod_lt_of_pos (val l) hn0
  have hq0 : 0 ≤ val l / n := Int.ediv_nonneg hv (by omega)
  have hm0 : 0 ≤ min (val l / n) most := by unfold most; omega
  have hm1 : min (val l / n) most ≤ 100000000000000 := Int.min_le_right _ _
  generalize min (val l / n) most = q at *
  generalize val l % n = r at *
  have hj := fun up => ref_rounded_j0 q minus up hm0 hm1
  have hsub : wrap64 (n - r) = n - r := w64 (by omega) (by omega)
  have htm : Int.tmod q 2 = q % 2 := Int.tmod_eq_emod_of_nonneg hm0
  unfold levyref1_rounded.f
  refine Ev.bind hd ?_
  simp only [hsub, htm]
  have key : ∀ up, away mode minus q r n = up → Ev (fun k => levyref1_rounded.j0 k minus q up) (rnd mode minus q r n) := by
    intro up hu
    unfold rnd
    rw [hu]
    exact hj up
  by_cases m1 : mode = 1
  · subst m1
    simp only [if_true]
    cases minus
    · exact key false (by simp [away])
    · exact key (decide (r > 0)) (by simp [away])
  · by_cases m2 : mode = 2
    · subst m2
      simp only [show ¬ (2 : Int) = 1 by decide, if_false, if_true]
      cases minus
      · exact key (decide (r > 0)) (by simp [away])
      · exact key false (by simp [away])
    · by_cases m4 : mode = 4
      · subst m4
        simp only [show ¬ (4 : Int) = 1 by decide, show ¬ (4 : Int) = 2 by decide, if_false, if_true]
        by_cases c1 : r > n - r
        · simp only [if_pos c1]; exact key true (by simp [away, c1])
        · by_cases c2 : r = n - r
          · simp only [if_neg c1, if_pos c2]; exact key (!minus) (by simp [away, c1, ← c2])
          · simp only [if_neg c1, if_neg c2]; exact key false (by simp [away, c1, c2])
      · by_cases m5 : mode = 5
        · subst m5
          simp only [show ¬ (5 : Int) = 1 by decide, show ¬ (5 : Int) = 2 by decide, show ¬ (5 : Int) = 4 by decide, if_false, if_true]
          by_cases c1 : r > n - r
          · simp only [if_pos c1]; exact key true (by simp [away, c1])
          · by_cases c2 : r = n - r
            · simp only [if_neg c1, if_pos c2]; exact key (q % 2 == 1) (by simp [away, c1, ← c2]; rw [Bool.eq_iff_iff]; simp)
            · simp only [if_neg c1, if_neg c2]; exact key false (by simp [away, c1, c2])
        · simp only [if_neg m1, if_neg m2, if_neg m4, if_neg m5]
          exact key false (by simp [away, m1, m2, m4, m5])

def aabs (n : Int) : Int := if n < 0 then -n else n
theorem amount_is (n : Int) (h0 : -10000000000000 < n) (h1 : n < 10000000000000) : money_amount.f n = some (aabs n, decide (n < 0)) := by
  unfold money_amount.f aabs
  by_cases h : n < 0
  · rw [if_pos h, if_pos h, w64 (by omega) (by omega), u64 (by omega) (by omega)]; simp [h]
  · rw [if_neg h, if_neg h, u64 (by omega) (by omega)]; simp [h]
theorem size_is (n : Int) (h0 : -10000000000000 < n) (h1 : n < 10000000000000) : levyref1_size.f n = some (aabs n) := by
  unfold levyref1_size.f aabs
  rw [w64 (by omega) (by omega)]
  congr 1
  unfold mx; (repeat' split) <;> omega
theorem cents_is (n : Int) : money_cents.f n = some (boundS 1 n) := by
  unfold money_cents.f
  rw [checked_is 1 n (by decide) (by decide)]; rfl
theorem aabs_range (n : Int) (h0 : -10000000000000 < n) (h1 : n < 10000000000000) : 0 ≤ aabs n ∧ aabs n < 10000000000000 := by unfold aabs; split <;> omega
/-- A quotient far beyond the bound is Over, however it is rounded. -/
theorem over_far (mode : Int) (minus : Bool) (q r n : Int) (h : 100000000000000 ≤ q) : boundS 1 (rnd mode minus q r n) = (6, 1) := by
  unfold boundS
  rw [if_neg]
  have h1 : vld 1 (rnd mode minus q r n) = false := by
    unfold vld rnd
    simp
    cases minus <;> cases away mode _ q r n <;> simp <;> omega
  simp [h1]
end Go.Proofs.YtnjhjaifmgjljaaDoor.Q

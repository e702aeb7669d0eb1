/- The plain law of MoneyRounds. -/
import Derived.Test.YtnjhjaifmgjljaaDoorPMx0
import Derived.Test.YtnjhjaifmgjljaaDoorPMx7
import Derived.Test.YtnjhjaifmgjljaaDoorPMx12
import Derived.Test.YtnjhjaifmgjljaaDoorPMx13
import Derived.Test.YtnjhjaifmgjljaaDoorPMx37
import Derived.Test.YtnjhjaifmgjljaaDoorPMx38
import Derived.Test.YtnjhjaifmgjljaaDoorPMx39
import Derived.Test.YtnjhjaifmgjljaaDoorPMx42
import Derived.Test.YtnjhjaifmgjljaaDoorPMx43
import Derived.Test.YtnjhjaifmgjljaaDoorPMx45
import Derived.Test.YtnjhjaifmgjljaaDoorPMx46
import Derived.Test.YtnjhjaifmgjljaaDoorQj
set_option linter.unusedSimpArgs false
namespace Go.Proofs.YtnjhjaifmgjljaaDoor.Pure
open Go.RowKit Go.Proofs.YtnjhjaifmgjljaaDoor.PM Go.Proofs.YtnjhjaifmgjljaaDoor.Q Go.Proofs.YtnjhjaifmgjljaaDoorW.PrintWords Go.Proofs.YtnjhjaifmgjljaaDoorW.PrintLast Go.Proofs.YtnjhjaifmgjljaaDoorW.PrintMore
/-- What Round answers. -/
def roundS (a b u m : Int) : Int × Int :=
  match flt [⟨a, b⟩] with
  | some v => v
  | none => if a = 1 ∧ 1 ≤ u ∧ u ≤ 9999999999999 ∧ 1 ≤ m ∧ m ≤ 5 then boundS 1 (wrap64 (rnd m (decide (b < 0)) (aabs b / u) (aabs b % u) u * u)) else (6, 5)
theorem round_bad (u m a b : Int) : Ev (fun k => money_Round.j0 k u m true a b) (6, 5) := Ev.one fun k => by simp [money_Round.j0, money_fault.f]
theorem round_good (u m b a : Int) (hb : -10000000000000 < b ∧ b < 10000000000000) (hu : 1 ≤ u) (hu1 : u ≤ 9999999999999) :
    Ev (fun k => money_Round.j0 k u m false a b) (boundS 1 (wrap64 (rnd m (decide (b < 0)) (aabs b / u) (aabs b % u) u * u))) := by
  have ha := aabs_range b hb.1 hb.2
  have hq0 : 0 ≤ aabs b / u := Int.ediv_nonneg ha.1 (by omega)
  have hq1 : aabs b / u ≤ aabs b := Int.ediv_le_self _ ha.1
  have hr0 := Int.emod_nonneg (aabs b) (show u ≠ 0 by omega)
  have hr1 := Int.emod_lt_of_pos (aabs b) (show 0 < u by omega)
  have h := rounded_is m (decide (b < 0)) (aabs b / u) (aabs b % u) u hq0 (by omega) hr0 hr1 (by omega)
  rw [if_neg (by omega)] at h
  refine Ev.step (f := fun k => (money_rounded.f k (aabs b / u) (aabs b % u) u (decide (b < 0)) m).bind fun bt => (money_cents.f (wrap64 (bt.1 * u))).bind fun c => some (c.1, c.2)) (fun k => ?_)
    (Ev.bind h (Ev.congr (fun k => ?_) (Ev.now (boundS 1 (wrap64 (rnd m (decide (b < 0)) (aabs b / u) (aabs b % u) u * u))))))
  · simp only [money_Round.j0]
    rw [if_neg (by simp), amount_is b hb.1 hb.2]
    simp only [Option.bind_some]
    rw [u64 (x := u) (by omega) (by omega), if_neg (by omega), Int.tdiv_eq_ediv_of_nonneg ha.1, Int.tmod_eq_emod_of_nonneg ha.1, u64 (x := aabs b / u) hq0 (by omega)]
  · rw [cents_is]; rfl
theorem round_is (a b u m : Int) : Ev (fun k => money_Round.f k a b u m) (roundS a b u m) := by
  unfold money_Round.f roundS
  refine Ev.bind (Ev.seen [⟨a, b⟩] (by simp)) ?_
  cases hf : flt [⟨a, b⟩] with
  | some v => simp only [seenR]; exact Ev.congr (fun k => by simp) (Ev.now v)
  | none =>
    have hv := (flt_none hf ⟨a, b⟩ (by simp)).2.2
    simp only [seenR, if_true]
    by_cases ha : a = 1
    · subst ha
      simp only [if_true]
      by_cases h1 : u < 1
      · simp only [if_pos h1]; rw [if_neg (by omega)]; exact round_bad _ _ _ _
      · by_cases h2 : u > 9999999999999
        · simp only [if_neg h1, if_pos h2]; rw [if_neg (by omega)]; exact round_bad _ _ _ _
        · simp only [if_neg h1, if_neg h2, modes_is, Option.bind_some]
          by_cases hm : 1 ≤ m ∧ m ≤ 5
          · rw [if_pos ⟨by simp, by omega, by omega, hm.1, hm.2⟩]
            simp only [decide_eq_true hm, Bool.not_true]
            exact round_good u m b 1 (vld_cents hv) (by omega) (by omega)
          · rw [if_neg (by omega)]
            simp only [decide_eq_false hm, Bool.not_false]
            exact round_bad _ _ _ _
    · simp only [if_neg ha]
      rw [if_neg (fun h => ha h.1)]
      exact round_bad _ _ _ _
theorem ref_round_bad (u m a b : Int) : Ev (fun k => levyref1_Round.j0 k u m true a b) (6, 5) := Ev.one fun k => by simp [levyref1_Round.j0, levyref1_bad.f]
theorem ref_round_good (u m b a : Int) (hb : -10000000000000 < b ∧ b < 10000000000000) (hu : 1 ≤ u) (hu1 : u ≤ 9999999999999) :
    Ev (fun k => levyref1_Round.j0 k u m false a b) (boundS 1 (wrap64 (rnd m (decide (b < 0)) (aabs b / u) (aabs b % u) u * u))) := by
  have ha := aabs_range b hb.1 hb.2
  obtain ⟨r, hr, hv, hs, hl⟩ := digits_is (aabs b) ha.1 (by omega)
  have h := ref_rounded_is m (decide (b < 0)) r u (by omega) (by omega) (small_mono hs (by decide)) (by omega)
  have hq1 : aabs b / u ≤ aabs b := Int.ediv_le_self _ ha.1
  have hmin : min (aabs b / u) most = aabs b / u := Int.min_eq_left (by unfold most; omega)
  rw [hv, hmin] at h
  refine Ev.step (f := fun k => (levyref1_digits.f k (aabs b)).bind fun t => (levyref1_rounded.f k t (decide (b < 0)) u m).bind fun q => (levyref1_bounded.f 1 (wrap64 (q * u))).bind fun c => some (c.1, c.2)) (fun k => ?_)
    (Ev.bind hr (Ev.bind h (Ev.congr (fun k => ?_) (Ev.now (boundS 1 (wrap64 (rnd m (decide (b < 0)) (aabs b / u) (aabs b % u) u * u)))))))
  · simp only [levyref1_Round.j0]
    rw [if_neg (by simp), size_is b hb.1 hb.2]; rfl
  · rw [bounded_is]; rfl
theorem ref_round_is (a b u m : Int) : Ev (fun k => levyref1_Round.f k a b u m) (roundS a b u m) := by
  unfold levyref1_Round.f roundS
  refine Ev.bind (Ev.looked [⟨a, b⟩] (by simp)) ?_
  cases hf : flt [⟨a, b⟩] with
  | some v => simp only [lookR]; exact Ev.congr (fun k => by simp) (Ev.now v)
  | none =>
    have hv := (flt_none hf ⟨a, b⟩ (by simp)).2.2
    simp only [lookR, within, isMode_is, Option.bind_some]
    try simp only [show ¬ (false = true) by decide, if_false]
    by_cases ha : a = 1
    · subst ha
      simp only [if_true]
      by_cases h1 : 1 ≤ u ∧ u ≤ 9999999999999
      · simp only [decide_eq_true h1, if_true]
        by_cases hm : 1 ≤ m ∧ m ≤ 5
        · rw [if_pos ⟨by simp, by omega, by omega, hm.1, hm.2⟩]
          simp only [decide_eq_true hm, Bool.not_true]
          exact ref_round_good u m b 1 (vld_cents hv) (by omega) (by omega)
        · rw [if_neg (by omega)]
          simp only [decide_eq_false hm, Bool.not_false]
          exact ref_round_bad _ _ _ _
      · simp only [decide_eq_false h1]
        rw [if_neg (by omega)]
        try simp only [show ¬ (false = true) by decide, if_false]
        exact ref_round_bad _ _ _ _
    · simp only [if_neg ha]
      rw [if_neg (fun h => ha h.1)]
      exact ref_round_bad _ _ _ _
theorem MoneyRounds (x0 : S23) (u m : Int) : ∃ k, levylaw1_MoneyRounds.f k x0.f0 x0.f1 u m = some true := by
  refine Ev.rounds ?_
  unfold levylaw1_MoneyRounds.f
  exact Ev.bind (round_is _ _ _ _) (Ev.bind (ref_round_is _ _ _ _) (Ev.congr (fun k => by rw [same_pair]) (Ev.now true)))
end Go.Proofs.YtnjhjaifmgjljaaDoor.Pure

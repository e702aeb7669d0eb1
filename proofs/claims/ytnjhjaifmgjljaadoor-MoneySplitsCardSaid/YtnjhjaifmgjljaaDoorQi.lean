/- The plain laws of MoneyTimes and MoneySplits. -/
import Derived.Test.YtnjhjaifmgjljaaDoorPMx0
import Derived.Test.YtnjhjaifmgjljaaDoorPMx7
import Derived.Test.YtnjhjaifmgjljaaDoorPMx12
import Derived.Test.YtnjhjaifmgjljaaDoorPMx13
import Derived.Test.YtnjhjaifmgjljaaDoorPMx42
import Derived.Test.YtnjhjaifmgjljaaDoorPMx43
import Derived.Test.YtnjhjaifmgjljaaDoorPMx47
import Derived.Test.YtnjhjaifmgjljaaDoorPMx49
import Derived.Test.YtnjhjaifmgjljaaDoorPMx50
import Derived.Test.YtnjhjaifmgjljaaDoorPMx51
import Derived.Test.YtnjhjaifmgjljaaDoorPMx52
import Derived.Test.YtnjhjaifmgjljaaDoorPMx53
import Derived.Test.YtnjhjaifmgjljaaDoorPMx54
import Derived.Test.YtnjhjaifmgjljaaDoorPMx55
import Derived.Test.YtnjhjaifmgjljaaDoorQi2
set_option linter.unusedSimpArgs false
namespace Go.Proofs.YtnjhjaifmgjljaaDoor.Pure
open Go.RowKit Go.Proofs.YtnjhjaifmgjljaaDoor.PM Go.Proofs.YtnjhjaifmgjljaaDoor.Q Go.Proofs.YtnjhjaifmgjljaaDoorW.PrintWords Go.Proofs.YtnjhjaifmgjljaaDoorW.PrintLast Go.Proofs.YtnjhjaifmgjljaaDoorW.PrintMore
def ofS (a b c d : Int) : Int × Int × Bool := match flt [⟨a, b⟩, ⟨c, d⟩] with | some v => (v.1, v.2, false) | none => if a = 1 ∧ c = 2 then (0, 0, true) else (6, 5, false)
theorem of_is (a b c d : Int) : Ev (fun k => money_of.f k a b 1 c d 2) (ofS a b c d) := by
  unfold money_of.f ofS
  refine Ev.bind (Ev.seen [⟨a, b⟩, ⟨c, d⟩] (by simp)) ?_
  cases hf : flt [⟨a, b⟩, ⟨c, d⟩] with
  | some v => simp only [seenR]; exact Ev.congr (fun k => by simp) (Ev.now _)
  | none =>
    simp only [seenR, if_true, money_fault.f, Option.bind_some]
    by_cases ha : a = 1
    · by_cases hc : c = 2
      · simp only [if_pos ha, if_pos hc, ha, hc]; exact Ev.now _
      · simp only [if_pos ha, if_neg hc]; rw [if_neg (fun h => hc h.2)]; exact Ev.now _
    · simp only [if_neg ha]; rw [if_neg (fun h => ha h.1)]; exact Ev.now _
/-- What Times answers. -/
def timesS (a b c d : Int) : Int × Int :=
  match flt [⟨a, b⟩, ⟨c, d⟩] with
  | some v => v
  | none => if a = 1 ∧ c = 2 then boundS 1 (rnd 1 (decide (b < 0) != decide (d < 0)) (min (aabs b * aabs d) most) 0 1) else (6, 5)
theorem times_is (a b c d : Int) : Ev (fun k => money_Times.f k a b c d) (timesS a b c d) := by
  unfold money_Times.f timesS
  refine Ev.bind (of_is a b c d) ?_
  unfold ofS
  cases hf : flt [⟨a, b⟩, ⟨c, d⟩] with
  | some v => exact Ev.congr (fun k => by simp) (Ev.now v)
  | none =>
    simp only []
    by_cases hac : a = 1 ∧ c = 2
    · obtain ⟨rfl, rfl⟩ := hac
      have hb : -10000000000000 < b ∧ b < 10000000000000 := vld_cents (flt_none hf ⟨1, b⟩ (by simp)).2.2
      have hd : -1000000000 ≤ d ∧ d ≤ 1000000000 := vld_count (flt_none hf ⟨2, d⟩ (by simp)).2.2
      have hm := mul_range b d hb hd
      have h1 := aabs_range b hb.1 hb.2
      have h2 := aabs_range d (by omega) (by omega)
      rw [if_pos ⟨rfl, rfl⟩, if_pos ⟨rfl, rfl⟩]
      simp only [if_true, amount_is b hb.1 hb.2, amount_is d (by omega) (by omega), Option.bind_some, mul64_is (aabs b) (aabs d) (by omega) (by omega)]
      generalize aabs b * aabs d = X at *
      have hst : ∀ (up : Bool), up = decide (X > 9999999999999) → Ev (fun k => money_Times.j0 k (decide (b < 0)) (decide (d < 0)) (X % 18446744073709551616) up) (boundS 1 (rnd 1 (decide (b < 0) != decide (d < 0)) (min X most) 0 1)) := by
        intro up hup
        refine Ev.one fun k => ?_
        simp only [money_Times.j0]
        by_cases hX : X > 9999999999999
        · rw [hup, if_pos (decide_eq_true hX)]
          have hq : 9999999999999 < min X most := by unfold most; omega
          have hb2 : boundS 1 (rnd 1 (decide (b < 0) != decide (d < 0)) (min X most) 0 1) = (6, 1) := by
            have h0 : ∀ s, away 1 s (min X most) 0 1 = false := fun s => by simp [away]
            unfold boundS rnd
            rw [h0]
            cases (decide (b < 0) != decide (d < 0)) <;> simp [vld] <;> omega
          rw [hb2]; rfl
        · rw [hup, if_neg (by simpa using hX)]
          have e1 : X % 18446744073709551616 = X := by omega
          have e2 : min X most = X := Int.min_eq_left (by unfold most; omega)
          have h0 : ∀ s, away 1 s X 0 1 = false := fun s => by simp [away]
          rw [e1, e2]
          unfold rnd
          rw [h0]
          cases hs : (decide (b < 0) != decide (d < 0))
          · rw [if_neg (by simp), w64 (by omega) (by omega), cents_is]; rfl
          · rw [if_pos rfl, w64 (x := X) (by omega) (by omega), w64 (by omega) (by omega), cents_is]; rfl
      by_cases hhi : X / 18446744073709551616 > 0
      · simp only [if_pos hhi]; exact hst true (by rw [decide_eq_true]; omega)
      · simp only [if_neg hhi]
        refine hst _ ?_
        rw [show X % 18446744073709551616 = X by omega]
    · rw [if_neg hac, if_neg hac]; exact Ev.congr (fun k => by simp) (Ev.now _)
theorem ref_times_is (a b c d : Int) : Ev (fun k => levyref1_Times.f k a b c d) (timesS a b c d) := by
  unfold levyref1_Times.f timesS
  refine Ev.bind (Ev.looked [⟨a, b⟩, ⟨c, d⟩] (by simp)) ?_
  have bad : ∀ x y z u, Ev (fun k => levyref1_Times.j0 k true x y z u) (6, 5) := fun x y z u => Ev.one fun k => by simp [levyref1_Times.j0, levyref1_bad.f]
  cases hf : flt [⟨a, b⟩, ⟨c, d⟩] with
  | some v => simp only [lookR]; exact Ev.congr (fun k => by simp) (Ev.now v)
  | none =>
    simp only [lookR]
    try simp only [show ¬ (false = true) by decide, if_false]
    by_cases ha : a = 1
    · by_cases hc : c = 2
      · subst ha hc
        have hb : -10000000000000 < b ∧ b < 10000000000000 := vld_cents (flt_none hf ⟨1, b⟩ (by simp)).2.2
        have hd : -1000000000 ≤ d ∧ d ≤ 1000000000 := vld_count (flt_none hf ⟨2, d⟩ (by simp)).2.2
        have h1 := aabs_range b hb.1 hb.2
        have h2 := aabs_range d (by omega) (by omega)
        have hm := mul_range b d hb hd
        rw [if_pos ⟨rfl, rfl⟩]
        simp only [if_true, bne_self_eq_false]
        obtain ⟨r, hr, hv, hs, hl⟩ := digits_is (aabs b) h1.1 (by omega)
        obtain ⟨r2, hr2, hv2, hs2, hl2⟩ := digits_is (aabs d) h2.1 (by omega)
        obtain ⟨p, hp, hvp, hsp, hlp⟩ := product_is r r2 hs hs2 hl hl2
        have h := ref_rounded_is 1 (decide (b < 0) != decide (d < 0)) p 1 (by decide) (by decide) (small_mono hsp (by decide)) (by omega)
        rw [hvp, hv, hv2, Int.ediv_one, Int.emod_one] at h
        refine Ev.step (f := fun k => (levyref1_digits.f k (aabs b)).bind fun t => (levyref1_digits.f k (aabs d)).bind fun t2 => (levyref1_product.f k t t2).bind fun x => (levyref1_rounded.f k x (decide (b < 0) != decide (d < 0)) 1 1).bind fun q => (levyref1_bounded.f 1 q).bind fun c => some (c.1, c.2)) (fun k => ?_)
          (Ev.bind hr (Ev.bind hr2 (Ev.bind hp (Ev.bind h (Ev.congr (fun k => ?_) (Ev.now (boundS 1 (rnd 1 (decide (b < 0) != decide (d < 0)) (min (aabs b * aabs d) most) 0 1))))))))
        · simp only [levyref1_Times.j0]
          rw [if_neg (by simp), size_is b hb.1 hb.2, size_is d (by omega) (by omega)]; rfl
        · rw [bounded_is]; rfl
      · simp only [if_pos ha]
        rw [if_neg (fun h => hc h.2), show (c != 2) = true by simpa using hc]
        exact bad _ _ _ _
    · simp only [if_neg ha]
      rw [if_neg (fun h => ha h.1)]
      exact bad _ _ _ _
theorem MoneyTimes (x0 x1 : S23) : ∃ k, levylaw1_MoneyTimes.f k x0.f0 x0.f1 x1.f0 x1.f1 = some true := by
  refine Ev.rounds ?_
  unfold levylaw1_MoneyTimes.f
  exact Ev.bind (times_is _ _ _ _) (Ev.bind (ref_times_is _ _ _ _) (Ev.congr (fun k => by rw [same_pair]) (Ev.now true)))
/-- What Split answers. -/
def splitS (a b c d m : Int) : Int × Int :=
  match flt [⟨a, b⟩, ⟨c, d⟩] with
  | some v => v
  | none => if a = 1 ∧ c = 2 then (if 1 ≤ m ∧ m ≤ 5 then (if d = 0 then (6, 2) else boundS 1 (rnd m (decide (b < 0) != decide (d < 0)) (aabs b / aabs d) (aabs b % aabs d) (aabs d))) else (6, 5)) else (6, 5)
theorem aabs_pos {d : Int} (h : d ≠ 0) : 0 < aabs d := by unfold aabs; split <;> omega
theorem split_is (a b c d m : Int) : Ev (fun k => money_Split.f k a b c d m) (splitS a b c d m) := by
  unfold money_Split.f splitS
  refine Ev.bind (of_is a b c d) ?_
  unfold ofS
  cases hf : flt [⟨a, b⟩, ⟨c, d⟩] with
  | some v => exact Ev.congr (fun k => by simp) (Ev.now v)
  | none =>
    simp only []
    by_cases hac : a = 1 ∧ c = 2
    · obtain ⟨rfl, rfl⟩ := hac
      have hb : -10000000000000 < b ∧ b < 10000000000000 := vld_cents (flt_none hf ⟨1, b⟩ (by simp)).2.2
      have hd : -1000000000 ≤ d ∧ d ≤ 1000000000 := vld_count (flt_none hf ⟨2, d⟩ (by simp)).2.2
      have h1 := aabs_range b hb.1 hb.2
      have h2 := aabs_range d (by omega) (by omega)
      rw [if_pos ⟨rfl, rfl⟩, if_pos ⟨rfl, rfl⟩]
      simp only [if_true, modes_is, Option.bind_some, money_fault.f]
      by_cases hm : 1 ≤ m ∧ m ≤ 5
      · simp only [decide_eq_true hm, if_true, if_pos hm]
        by_cases hd0 : d = 0
        · simp only [if_pos hd0]; exact Ev.now _
        · have hp := aabs_pos hd0
          have hq0 : 0 ≤ aabs b / aabs d := Int.ediv_nonneg h1.1 h2.1
          have hq1 : aabs b / aabs d ≤ aabs b := Int.ediv_le_self _ h1.1
          have hr0 := Int.emod_nonneg (aabs b) (show aabs d ≠ 0 by omega)
          have hr1 := Int.emod_lt_of_pos (aabs b) hp
          have h := rounded_is m (decide (b < 0) != decide (d < 0)) (aabs b / aabs d) (aabs b % aabs d) (aabs d) hq0 (by omega) hr0 hr1 (by omega)
          rw [if_neg (by omega)] at h
          simp only [if_neg hd0, amount_is b hb.1 hb.2, amount_is d (by omega) (by omega), Option.bind_some, show ¬ aabs d = 0 by omega, if_false]
          rw [Int.tdiv_eq_ediv_of_nonneg h1.1, Int.tmod_eq_emod_of_nonneg h1.1, u64 (x := aabs b / aabs d) hq0 (by omega)]
          exact Ev.bind h (Ev.congr (fun k => by rw [cents_is]; rfl) (Ev.now _))
      · simp only [decide_eq_false hm, if_neg hm]
        exact Ev.congr (fun k => by simp) (Ev.now _)
    · rw [if_neg hac, if_neg hac]; exact Ev.congr (fun k => by simp) (Ev.now _)
theorem ref_split_is (a b c d m : Int) : Ev (fun k => levyref1_Split.f k a b c d m) (splitS a b c d m) := by
  unfold levyref1_Split.f splitS
  refine Ev.bind (Ev.looked [⟨a, b⟩, ⟨c, d⟩] (by simp)) ?_
  have bad : ∀ x y z u v, Ev (fun k => levyref1_Split.j0 k x true y z u v) (6, 5) := fun x y z u v => Ev.one fun k => by simp [levyref1_Split.j0, levyref1_bad.f]
  cases hf : flt [⟨a, b⟩, ⟨c, d⟩] with
  | some v => simp only [lookR]; exact Ev.congr (fun k => by simp) (Ev.now v)
  | none =>
    simp only [lookR]
    try simp only [show ¬ (false = true) by decide, if_false]
    by_cases ha : a = 1
    · by_cases hc : c = 2
      · subst ha hc
        have hb : -10000000000000 < b ∧ b < 10000000000000 := vld_cents (flt_none hf ⟨1, b⟩ (by simp)).2.2
        have hd : -1000000000 ≤ d ∧ d ≤ 1000000000 := vld_count (flt_none hf ⟨2, d⟩ (by simp)).2.2
        have h1 := aabs_range b hb.1 hb.2
        have h2 := aabs_range d (by omega) (by omega)
        rw [if_pos ⟨rfl, rfl⟩]
        simp only [if_true, isMode_is, Option.bind_some]
        by_cases hm : 1 ≤ m ∧ m ≤ 5
        · simp only [decide_eq_true hm, Bool.not_true, if_pos hm]
          by_cases hd0 : d = 0
          · rw [if_pos hd0]
            exact Ev.one fun k => by simp [levyref1_Split.j0, levyref1_bad.f, hd0]
          · rw [if_neg hd0]
            have hp := aabs_pos hd0
            have hq1 : aabs b / aabs d ≤ aabs b := Int.ediv_le_self _ h1.1
            obtain ⟨r, hr, hv, hs, hl⟩ := digits_is (aabs b) h1.1 (by omega)
            have h := ref_rounded_is m (decide (b < 0) != decide (d < 0)) r (aabs d) hp (by omega) (small_mono hs (by decide)) (by omega)
            have hmin : min (aabs b / aabs d) most = aabs b / aabs d := Int.min_eq_left (by unfold most; omega)
            rw [hv, hmin] at h
            refine Ev.step (f := fun k => (levyref1_digits.f k (aabs b)).bind fun t => (levyref1_rounded.f k t (decide (b < 0) != decide (d < 0)) (aabs d) m).bind fun q => (levyref1_bounded.f 1 q).bind fun c => some (c.1, c.2)) (fun k => ?_)
              (Ev.bind hr (Ev.bind h (Ev.congr (fun k => ?_) (Ev.now (boundS 1 (rnd m (decide (b < 0) != decide (d < 0)) (aabs b / aabs d) (aabs b % aabs d) (aabs d)))))))
            · simp only [levyref1_Split.j0]
              rw [if_neg (by simp), if_neg hd0, size_is b hb.1 hb.2, size_is d (by omega) (by omega)]; rfl
            · rw [bounded_is]; rfl
        · simp only [decide_eq_false hm, Bool.not_false, if_neg hm]
          exact bad _ _ _ _ _
      · simp only [if_pos ha, if_neg hc]
        rw [if_neg (fun h => hc h.2)]
        exact bad _ _ _ _ _
    · simp only [if_neg ha]
      rw [if_neg (fun h => ha h.1)]
      exact bad _ _ _ _ _
theorem MoneySplits (x0 x1 : S23) (m : Int) : ∃ k, levylaw1_MoneySplits.f k x0.f0 x0.f1 x1.f0 x1.f1 m = some true := by
  refine Ev.rounds ?_
  unfold levylaw1_MoneySplits.f
  exact Ev.bind (split_is _ _ _ _ _) (Ev.bind (ref_split_is _ _ _ _ _) (Ev.congr (fun k => by rw [same_pair]) (Ev.now true)))
end Go.Proofs.YtnjhjaifmgjljaaDoor.Pure

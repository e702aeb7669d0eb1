-- Part 7 of the texts of the claim SA (wrote by programs: words of the kit's print.sh, printed functions; and my own texts; joined by wip/tools/pack.py).
import Derived.Test.YtnjhjaifmgjljaaDoorSA6

section
set_option linter.unusedSimpArgs false
namespace Go.Proofs.YtnjhjaifmgjljaaDoor.Pure
open Go.RowKit Go.Proofs.YtnjhjaifmgjljaaDoor.PM Go.Proofs.YtnjhjaifmgjljaaDoor.Q Go.Proofs.YtnjhjaifmgjljaaDoorW.PrintWords Go.Proofs.YtnjhjaifmgjljaaDoorW.PrintLast Go.Proofs.YtnjhjaifmgjljaaDoorW.PrintMore
def ofS (a b c d : Int) : Int × Int × Bool := match flt [⟨a, b⟩, ⟨c, d⟩] with | some v => (v.1, v.2, false) | none => if a = 1 ∧ c = 2 then (0, 0, true) else (6, 5, false)
theorem of_is (a b c d : Int) : Ev (fun k => money_of.f k a b 1 c d 2) (ofS a b c d) := by
  unfold money_of.f ofS
  refine Ev.bind (Ev.seen [⟨a, b⟩, ⟨c, d⟩] (by simp)) ?_
  cases hf : flt [⟨a, b⟩, ⟨c, d⟩] with
  | some v => simp only [seenR]; exact Ev.congr (fun k => by simp) (Ev.now _)
  | none =>
    simp only [seenR, if_true, money_fault.f, Option.bind_some]
    by_cases ha : a = 1
    · by_cases hc : c = 2
      · simp only [if_pos ha, if_pos hc, ha, hc]; exact Ev.now _
      · simp only [if_pos ha, if_neg hc]; rw [if_neg (fun h => hc h.2)]; exact Ev.now _
    · simp only [if_neg ha]; rw [if_neg (fun h => ha h.1)]; exact Ev.now _
def timesS (a b c d : Int) : Int × Int :=
  match flt [⟨a, b⟩, ⟨c, d⟩] with
  | some v => v
  | none => if a = 1 ∧ c = 2 then boundS 1 (rnd 1 (decide (b < 0) != decide (d < 0)) (min (aabs b * aabs d) most) 0 1) else (6, 5)
theorem times_is (a b c d : Int) : Ev (fun k => money_Times.f k a b c d) (timesS a b c d) := by
  unfold money_Times.f timesS
  refine Ev.bind (of_is a b c d) ?_
  unfold ofS
  cases hf : flt [⟨a, b⟩, ⟨c, d⟩] with
  | some v => exact Ev.congr (fun k => by simp) (Ev.now v)
  | none =>
    simp only []
    by_cases hac : a = 1 ∧ c = 2
    · obtain ⟨rfl, rfl⟩ := hac
      have hb : -10000000000000 < b ∧ b < 10000000000000 := vld_cents (flt_none hf ⟨1, b⟩ (by simp)).2.2
      have hd : -1000000000 ≤ d ∧ d ≤ 1000000000 := vld_count (flt_none hf ⟨2, d⟩ (by simp)).2.2
      have hm := mul_range b d hb hd
      have h1 := aabs_range b hb.1 hb.2
      have h2 := aabs_range d (by omega) (by omega)
      rw [if_pos ⟨rfl, rfl⟩, if_pos ⟨rfl, rfl⟩]
      simp only [if_true, amount_is b hb.1 hb.2, amount_is d (by omega) (by omega), Option.bind_some, mul64_is (aabs b) (aabs d) (by omega) (by omega)]
      generalize aabs b * aabs d = X at *
      have hst : ∀ (up : Bool), up = decide (X > 9999999999999) → Ev (fun k => money_Times.j0 k (decide (b < 0)) (decide (d < 0)) (X % 18446744073709551616) up) (boundS 1 (rnd 1 (decide (b < 0) != decide (d < 0)) (min X most) 0 1)) := by
        intro up hup
        refine Ev.one fun k => ?_
        simp only [money_Times.j0]
        by_cases hX : X > 9999999999999
        · rw [hup, if_pos (decide_eq_true hX)]
          have hq : 9999999999999 < min X most := by unfold most; omega
          have hb2 : boundS 1 (rnd 1 (decide (b < 0) != decide (d < 0)) (min X most) 0 1) = (6, 1) := by
            have h0 : ∀ s, away 1 s (min X most) 0 1 = false := fun s => by simp [away]
            unfold boundS rnd
            rw [h0]
            cases (decide (b < 0) != decide (d < 0)) <;> simp [vld] <;> omega
          rw [hb2]; rfl
        · rw [hup, if_neg (by simpa using hX)]
          have e1 : X % 18446744073709551616 = X := by omega
          have e2 : min X most = X := Int.min_eq_left (by unfold most; omega)
          have h0 : ∀ s, away 1 s X 0 1 = false := fun s => by simp [away]
          rw [e1, e2]
          unfold rnd
          rw [h0]
          cases hs : (decide (b < 0) != decide (d < 0))
          · rw [if_neg (by simp), w64 (by omega) (by omega), cents_is]; rfl
          · rw [if_pos rfl, w64 (x := X) (by omega) (by omega), w64 (by omega) (by omega), cents_is]; rfl
      by_cases hhi : X / 18446744073709551616 > 0
      · simp only [if_pos hhi]; exact hst true (by rw [decide_eq_true]; omega)
      · simp only [if_neg hhi]
        refine hst _ ?_
        rw [show X % 18446744073709551616 = X by omega]
    · rw [if_neg hac, if_neg hac]; exact Ev.congr (fun k => by simp) (Ev.now _)
def splitS (a b c d m : Int) : Int × Int :=
  match flt [⟨a, b⟩, ⟨c, d⟩] with
  | some v => v
  | none => if a = 1 ∧ c = 2 then (if 1 ≤ m ∧ m ≤ 5 then (if d = 0 then (6, 2) else boundS 1 (rnd m (decide (b < 0) != decide (d < 0)) (aabs b / aabs d) (aabs b % aabs d) (aabs d))) else (6, 5)) else (6, 5)
theorem aabs_pos {d : Int} (h : d ≠ 0) : 0 < aabs d := by unfold aabs; split <;> omega
theorem split_is (a b c d m : Int) : Ev (fun k => money_Split.f k a b c d m) (splitS a b c d m) := by
  unfold money_Split.f splitS
  refine Ev.bind (of_is a b c d) ?_
  unfold ofS
  cases hf : flt [⟨a, b⟩, ⟨c, d⟩] with
  | some v => exact Ev.congr (fun k => by simp) (Ev.now v)
  | none =>
    simp only []
    by_cases hac : a = 1 ∧ c = 2
    · obtain ⟨rfl, rfl⟩ := hac
      have hb : -10000000000000 < b ∧ b < 10000000000000 := vld_cents (flt_none hf ⟨1, b⟩ (by simp)).2.2
      have hd : -1000000000 ≤ d ∧ d ≤ 1000000000 := vld_count (flt_none hf ⟨2, d⟩ (by simp)).2.2
      have h1 := aabs_range b hb.1 hb.2
      have h2 := aabs_range d (by omega) (by omega)
      rw [if_pos ⟨rfl, rfl⟩, if_pos ⟨rfl, rfl⟩]
      simp only [if_true, modes_is, Option.bind_some, money_fault.f]
      by_cases hm : 1 ≤ m ∧ m ≤ 5
      · simp only [decide_eq_true hm, if_true, if_pos hm]
        by_cases hd0 : d = 0
        · simp only [if_pos hd0]; exact Ev.now _
        · have hp := aabs_pos hd0
          have hq0 : 0 ≤ aabs b / aabs d := Int.ediv_nonneg h1.1 h2.1
          have hq1 : aabs b / aabs d ≤ aabs b := Int.ediv_le_self _ h1.1
          have hr0 := Int.emod_nonneg (aabs b) (show aabs d ≠ 0 by omega)
          have hr1 := Int.emod_lt_of_pos (aabs b) hp
          have h := rounded_is m (decide (b < 0) != decide (d < 0)) (aabs b / aabs d) (aabs b % aabs d) (aabs d) hq0 (by omega) hr0 hr1 (by omega)
          rw [if_neg (by omega)] at h
          simp only [if_neg hd0, amount_is b hb.1 hb.2, amount_is d (by omega) (by omega), Option.bind_some, show ¬ aabs d = 0 by omega, if_false]
          rw [Int.tdiv_eq_ediv_of_nonneg h1.1, Int.tmod_eq_emod_of_nonneg h1.1, u64 (x := aabs b / aabs d) hq0 (by omega)]
          exact Ev.bind h (Ev.congr (fun k => by rw [cents_is]; rfl) (Ev.now _))
      · simp only [decide_eq_false hm, if_neg hm]
        exact Ev.congr (fun k => by simp) (Ev.now _)
    · rw [if_neg hac, if_neg hac]; exact Ev.congr (fun k => by simp) (Ev.now _)
end Go.Proofs.YtnjhjaifmgjljaaDoor.Pure
end

section
set_option linter.unusedSimpArgs false
set_option linter.unusedVariables false
namespace Go.Proofs.YtnjhjaifmgjljaaDoor.Pure
open Go.RowKit Go.Proofs.YtnjhjaifmgjljaaDoor.PM Go.Proofs.YtnjhjaifmgjljaaDoor.Q Go.Proofs.YtnjhjaifmgjljaaDoorW.PrintWords Go.Proofs.YtnjhjaifmgjljaaDoorW.PrintLast Go.Proofs.YtnjhjaifmgjljaaDoorW.PrintMore
def m0 (x : Int) : Int := if x < 0 then 0 else x
def half (t : Int) : Int := (t + 500000) / 1000000
theorem rounded_half (t : Int) (h0 : 0 ≤ t) (h1 : t ≤ 18446744073709551615) : Ev (fun k => money_rounded.f k (t / 1000000) (t % 1000000) 1000000 false 4) (half t, true) := by
  have h := rounded_is 4 false (t / 1000000) (t % 1000000) 1000000 (by omega) (by omega) (by omega) (by omega) (by omega)
  rw [if_neg (by omega)] at h
  have e : rnd 4 false (t / 1000000) (t % 1000000) 1000000 = half t := by
    unfold rnd away half
    by_cases hc : t % 1000000 > 1000000 - t % 1000000
    · simp [hc]; omega
    · by_cases hd : t % 1000000 = 1000000 - t % 1000000
      · simp [hd.symm]; omega
      · simp [hc, hd]; omega
  rw [e] at h; exact h
end Go.Proofs.YtnjhjaifmgjljaaDoor.Pure
end

/- Plain: the chapter's examples; the plain law of MoneyNear. -/
import Derived.Test.YtnjhjaifmgjljaaDoorPMx64
import Derived.Test.YtnjhjaifmgjljaaDoorPMx65
import Derived.Test.YtnjhjaifmgjljaaDoorQk
import Derived.KernelRfl
set_option linter.unusedSimpArgs false
set_option linter.unusedVariables false
namespace Go.Proofs.YtnjhjaifmgjljaaDoor.Pure
open Go.RowKit Go.Proofs.YtnjhjaifmgjljaaDoor.PM Go.Proofs.YtnjhjaifmgjljaaDoor.Q Go.Proofs.YtnjhjaifmgjljaaDoorW.PrintWords Go.Proofs.YtnjhjaifmgjljaaDoorW.PrintLast Go.Proofs.YtnjhjaifmgjljaaDoorW.PrintMore
theorem known_is : Ev (fun k => levylaw1_known.f k) true := Ev.of (fun k => levylaw1_known.mono k) (k := 100) (by kernel_rfl)

/-- The exact product less the answer's share: what rounding leaves. -/
theorem near_left (m : Int) (minus : Bool) (q r den : Int) :
    (if minus then -(q * den + r) else q * den + r) - rnd m minus q r den * den = if minus then -(r - if away m minus q r den then den else 0) else r - if away m minus q r den then den else 0 := by
  unfold rnd
  generalize away m minus q r den = u
  cases minus <;> cases u <;> simp [Int.add_mul, Int.neg_mul] <;> omega
theorem away_times (m : Int) (minus : Bool) (q r den k : Int) (hk : 0 < k) : away m minus q (r * k) (den * k) = away m minus q r den := by
  have h1 : (r * k > 0) ↔ r > 0 := ⟨fun h => by
    rcases Int.lt_or_le 0 r with h2 | h2
    · exact h2
    · have := Int.mul_le_mul_of_nonneg_right h2 (Int.le_of_lt hk); omega, fun h => Int.mul_pos h hk⟩
  have e : den * k - r * k = (den - r) * k := by rw [Int.sub_mul]
  have h2 : (r * k > den * k - r * k) ↔ r > den - r := by
    rw [e]
    exact ⟨fun h => Int.lt_of_mul_lt_mul_right h (Int.le_of_lt hk), fun h => Int.mul_lt_mul_of_pos_right h hk⟩
  have h3 : (r * k = den * k - r * k) ↔ r = den - r := by
    rw [e]
    exact ⟨fun h => Int.eq_of_mul_eq_mul_right (by omega) h, fun h => by rw [← h]⟩
  unfold away
  simp only [h1, h2, h3]
theorem rnd_times (m : Int) (minus : Bool) (q r den k : Int) (hk : 0 < k) : rnd m minus q (r * k) (den * k) = rnd m minus q r den := by
  unfold rnd; rw [away_times m minus q r den k hk]
theorem aabs_mul (n num : Int) : (if (decide (n < 0) != decide (num < 0)) = true then -(aabs n * aabs num) else aabs n * aabs num) = n * num := by
  unfold aabs
  by_cases h1 : n < 0 <;> by_cases h2 : num < 0 <;> simp [h1, h2, Int.neg_mul, Int.mul_neg]
theorem aabs_times (num k : Int) (hk : 0 < k) : aabs (num * k) = aabs num * k := by
  unfold aabs
  by_cases h : num < 0
  · have := Int.mul_neg_of_neg_of_pos h hk
    rw [if_pos this, if_pos h, Int.neg_mul]
  · have := Int.mul_nonneg (Int.not_lt.mp h) (Int.le_of_lt hk)
    rw [if_neg (by omega), if_neg h]
theorem neg_times (num k : Int) (hk : 0 < k) : decide (num * k < 0) = decide (num < 0) := by
  by_cases h : num < 0
  · have := Int.mul_neg_of_neg_of_pos h hk
    simp [h, this]
  · have := Int.mul_nonneg (Int.not_lt.mp h) (Int.le_of_lt hk)
    rw [decide_eq_false h, decide_eq_false (by omega)]
theorem flt_cents (n : Int) (h0 : -9999999999999 ≤ n) (h1 : n ≤ 9999999999999) : flt [⟨1, n⟩] = none := by
  simp [flt, vld, h0, h1]
/-- What Scale answers of small amounts and ratios. -/
theorem scale_small (n num den m : Int) (hn : -1000000 ≤ n ∧ n ≤ 1000000) (hu : -1000000000 ≤ num ∧ num ≤ 1000000000) (hd : 1 ≤ den ∧ den ≤ 1000000000) (hm : 1 ≤ m ∧ m ≤ 5) (hP : aabs n * aabs num / den ≤ 1000000000000) :
    scaleS 1 n num den m = (1, rnd m (decide (n < 0) != decide (num < 0)) (aabs n * aabs num / den) (aabs n * aabs num % den) den) := by
  have hP0 : 0 ≤ aabs n * aabs num / den := Int.ediv_nonneg (Int.mul_nonneg (by unfold aabs; split <;> omega) (by unfold aabs; split <;> omega)) (by omega)
  unfold scaleS
  rw [flt_cents n (by omega) (by omega)]
  simp only []
  rw [if_pos ⟨trivial, hu.1, hu.2, hd.1, hd.2, hm.1, hm.2⟩, show min (aabs n * aabs num / den) most = aabs n * aabs num / den by unfold most; omega]
  have hv : ∀ v : Int, -1000000000001 ≤ v → v ≤ 1000000000001 → boundS 1 v = (1, v) := by
    intro v a b; have : vld 1 v = true := by simp [vld]; omega
    simp [boundS, this]
  rw [hv]
  · unfold rnd; simp only []; split <;> split <;> omega
  · unfold rnd; simp only []; split <;> split <;> omega
/-- One round of MoneyNear's loop. -/
theorem near_round (n num den kk m up : Int) (hn : -1000000 ≤ n ∧ n ≤ 1000000) (hu : -1000000 ≤ num ∧ num ≤ 1000000) (hd : 1 ≤ den ∧ den ≤ 1000000) (hk : 1 ≤ kk ∧ kk ≤ 900) (hm : 1 ≤ m ∧ m ≤ 5) (hup : up = n * num)
    (next : Ev (fun k => levylaw1_MoneyNear.l0 k n num den kk up (m + 1)) true) : Ev (fun k => levylaw1_MoneyNear.l0 k n num den kk up m) true := by
  have hP0 : 0 ≤ aabs n * aabs num := Int.mul_nonneg (by unfold aabs; split <;> omega) (by unfold aabs; split <;> omega)
  have hP1 : aabs n * aabs num ≤ 1000000 * 1000000 := Int.mul_le_mul (by unfold aabs; split <;> omega) (by unfold aabs; split <;> omega) (by unfold aabs; split <;> omega) (by omega)
  have hq0 : 0 ≤ aabs n * aabs num / den := Int.ediv_nonneg hP0 (by omega)
  have hq1 : aabs n * aabs num / den ≤ 1000000000000 := Int.le_trans (Int.ediv_le_self _ hP0) (by omega)
  have e1 := scale_small n num den m hn (by omega) (by omega) hm hq1
  have hpk : aabs n * aabs (num * kk) = aabs n * aabs num * kk := by rw [aabs_times num kk (by omega), Int.mul_assoc]
  have hnk : -1000000000 ≤ num * kk ∧ num * kk ≤ 1000000000 := by
    constructor
    · have := Int.mul_le_mul_of_nonneg_right hu.1 (by omega : 0 ≤ kk); omega
    · have := Int.mul_le_mul_of_nonneg_right hu.2 (by omega : 0 ≤ kk); omega
  have hdk : 1 ≤ den * kk ∧ den * kk ≤ 1000000000 := by
    constructor
    · have := Int.mul_pos (by omega : 0 < den) (by omega : 0 < kk); omega
    · have := Int.mul_le_mul_of_nonneg_right hd.2 (by omega : 0 ≤ kk); omega
  have hqk : aabs n * aabs (num * kk) / (den * kk) = aabs n * aabs num / den := by rw [hpk, Int.mul_ediv_mul_of_pos_left _ _ (by omega)]
  have hrk : aabs n * aabs (num * kk) % (den * kk) = aabs n * aabs num % den * kk := by rw [hpk, Int.mul_comm (aabs n * aabs num) kk, Int.mul_comm den kk, Int.mul_emod_mul_of_pos _ _ (by omega), Int.mul_comm]
  have e2 := scale_small n (num * kk) (den * kk) m hn hnk hdk hm (by rw [hqk]; exact hq1)
  rw [hqk, hrk, neg_times num kk (by omega), rnd_times _ _ _ _ _ kk (by omega)] at e2
  have hdm := Int.mul_ediv_add_emod (aabs n * aabs num) den
  have hr0 := Int.emod_nonneg (aabs n * aabs num) (by omega : den ≠ 0)
  have hr1 := Int.emod_lt_of_pos (aabs n * aabs num) (by omega : 0 < den)
  have hl := near_left m (decide (n < 0) != decide (num < 0)) (aabs n * aabs num / den) (aabs n * aabs num % den) den
  have hup2 := aabs_mul n num
  have s1 := scale_is 1 n num den m
  have s2 := scale_is 1 n (num * kk) (den * kk) m
  rw [e1] at s1
  rw [e2] at s2
  have hpar : m = 5 → aabs n * aabs num % den = den - aabs n * aabs num % den → rnd m (decide (n < 0) != decide (num < 0)) (aabs n * aabs num / den) (aabs n * aabs num % den) den % 2 = 0 := by
    intro h5 ht
    unfold rnd away
    simp only [h5]
    rw [← ht]
    by_cases hq : aabs n * aabs num / den % 2 = 1
    · simp [hq]; split <;> omega
    · simp [hq]; split <;> omega
  rw [show den * (aabs n * aabs num / den) = aabs n * aabs num / den * den from Int.mul_comm _ _] at hdm
  rw [show (aabs n * aabs num / den * den + aabs n * aabs num % den) = aabs n * aabs num from hdm, hup2, ← hup] at hl
  generalize aabs n * aabs num / den = q at *
  generalize aabs n * aabs num % den = r at *
  generalize aabs n * aabs num = P at *
  generalize hmi : (decide (n < 0) != decide (num < 0)) = minus at *
  generalize hv : rnd m minus q r den = v at *
  have hT : 0 ≤ q * den := Int.mul_nonneg hq0 (by omega)
  generalize hvd : v * den = vd at *
  have hw1 : wrap64 vd = vd := by unfold wrap64; cases minus <;> cases (away m false q r den) <;> cases (away m true q r den) <;> simp at hl hup2 <;> omega
  have hw2 : wrap64 (up - vd) = up - vd := by unfold wrap64; cases minus <;> cases (away m false q r den) <;> cases (away m true q r den) <;> simp at hl hup2 <;> omega
  have hw3 : wrap64 (2 * (up - vd)) = 2 * (up - vd) := by unfold wrap64; cases minus <;> cases (away m false q r den) <;> cases (away m true q r den) <;> simp at hl hup2 <;> omega
  have hw4 : wrap64 (-den) = -den := by unfold wrap64; omega
  have hw5 : wrap64 (m + 1) = m + 1 := by unfold wrap64; omega
  have hw6 : wrap64 (num * kk) = num * kk := by unfold wrap64; omega
  have hw7 : wrap64 (den * kk) = den * kk := by unfold wrap64; omega
  refine Ev.step (f := fun k => (money_Scale.f k 1 n num den m).bind fun b => if b.1 = 1 then ((money_Scale.f k 1 n (num * kk) (den * kk) m).bind fun b2 => levylaw1_MoneyNear.j1 k n num den kk up m (!(b.1 == b2.1) || (!(b.2 == b2.2))) b.1 b.2) else levylaw1_MoneyNear.j1 k n num den kk up m true b.1 b.2) (fun k => ?_) (Ev.bind s1 (Ev.congr (fun k => if_pos rfl) (Ev.bind s2 ?_)))
  · simp only [levylaw1_MoneyNear.l0, levylaw1_c.f, Option.bind_some]
    rw [if_pos hm.2, hw6, hw7]
  · refine Ev.step (f := fun k => levylaw1_MoneyNear.l0 k n num den kk up (m + 1)) (fun k => ?_) next
    simp only [levylaw1_MoneyNear.j1, beq_self_eq_true, Bool.not_true, Bool.or_false, if_false, hvd, hw1, hw2, hw3, hw4, hw5]
    generalize up - vd = L at *
    rw [if_neg (by decide)]
    have h5 : m = 1 ∨ m = 2 ∨ m = 3 ∨ m = 4 ∨ m = 5 := by omega
    rcases h5 with h5 | h5 | h5 | h5 | h5 <;> subst h5
    · rw [if_pos rfl]
      cases minus <;> simp [away] at hl <;> first | (rw [if_pos (by omega), if_pos (by omega)]) | (split at hl <;> rw [if_pos (by omega), if_pos (by omega)])
    · rw [if_neg (by decide), if_pos rfl]
      cases minus <;> simp [away] at hl <;> first | (rw [if_pos (by omega), if_pos (by omega)]) | (split at hl <;> rw [if_pos (by omega), if_pos (by omega)])
    · rw [if_neg (by decide), if_neg (by decide), if_pos rfl]
      have hs : L = 0 ∨ (decide (L > 0) == decide (up > 0)) = true := by
        cases minus <;> simp [away] at hl hup2 <;> (by_cases h0 : L = 0; · exact Or.inl h0) <;> right <;> (by_cases h1 : L > 0) <;> (by_cases h2 : up > 0) <;> simp [h1, h2] <;> omega
      cases minus <;> simp [away] at hl <;> rw [if_pos (by omega), if_pos (by omega)] <;> (by_cases h0 : L = 0) <;> (first | rw [if_pos h0] | (rw [if_neg h0, if_pos (hs.resolve_left h0)]))
    · rw [if_neg (by decide), if_neg (by decide), if_neg (by decide), if_pos rfl]
      cases minus <;> simp [away] at hl <;> split at hl <;> rw [if_pos (by omega), if_pos (by omega)]
    · rw [if_neg (by decide), if_neg (by decide), if_neg (by decide), if_neg (by decide), if_pos rfl]
      have hb : 2 * L ≤ den ∧ -den ≤ 2 * L ∧ (2 * L = den → r = den - r) ∧ (2 * L = -den → r = den - r) := by
        cases minus <;> simp [away] at hl <;> split at hl <;> refine ⟨by omega, by omega, fun h => by omega, fun h => by omega⟩
      rw [if_pos hb.1, if_pos hb.2.1]
      by_cases h1 : 2 * L = den
      · have h3 := hpar rfl (hb.2.2.1 h1)
        rw [if_pos h1, if_pos (Int.tmod_eq_zero_of_dvd (Int.dvd_of_emod_eq_zero h3))]
      · rw [if_neg h1]
        by_cases h2 : 2 * L = -den
        · have h3 := hpar rfl (hb.2.2.2 h2)
          rw [if_pos h2, if_pos (Int.tmod_eq_zero_of_dvd (Int.dvd_of_emod_eq_zero h3))]
        · rw [if_neg h2]
theorem MoneyNear (n num den kk : Int) : ∃ k, levylaw1_MoneyNear.f k n num den kk = some true := by
  refine Ev.rounds ?_
  unfold levylaw1_MoneyNear.f
  refine Ev.bind known_is (Ev.congr (fun k => if_pos rfl) ?_)
  have tm : ∀ x m : Int, 0 < m → -m < Int.tmod x m ∧ Int.tmod x m < m := fun x m h => ⟨Int.lt_tmod_of_pos x h, Int.tmod_lt_of_pos x h⟩
  have h1 := tm n 1000001 (by omega)
  have h2 := tm num 1000001 (by omega)
  have pos : ∀ x m : Int, 0 < m → m ≤ 1000000 → 1 ≤ wrap64 (1 + Int.tmod (wrap64 (Int.tmod x m + m)) m) ∧ wrap64 (1 + Int.tmod (wrap64 (Int.tmod x m + m)) m) ≤ m := by
    intro x m h0 hm
    have a := tm x m h0
    have e : wrap64 (Int.tmod x m + m) = Int.tmod x m + m := by unfold wrap64; omega
    rw [e]
    have b := Int.tmod_nonneg m (by omega : 0 ≤ Int.tmod x m + m)
    have c := (tm (Int.tmod x m + m) m h0).2
    unfold wrap64; omega
  have h3 := pos den 1000000 (by omega) (by omega)
  have h4 := pos kk 900 (by omega) (by omega)
  generalize Int.tmod n 1000001 = n' at *
  generalize Int.tmod num 1000001 = u' at *
  generalize wrap64 (1 + Int.tmod (wrap64 (Int.tmod den 1000000 + 1000000)) 1000000) = d' at *
  generalize wrap64 (1 + Int.tmod (wrap64 (Int.tmod kk 900 + 900)) 900) = k' at *
  have hp : wrap64 (n' * u') = n' * u' := by
    have a1 : n' * u' ≤ 1000000 * 1000000 := by
      rw [← aabs_mul n' u']
      have : aabs n' * aabs u' ≤ 1000000 * 1000000 := Int.mul_le_mul (by unfold aabs; split <;> omega) (by unfold aabs; split <;> omega) (by unfold aabs; split <;> omega) (by omega)
      have := Int.mul_nonneg (by unfold aabs; split <;> omega : 0 ≤ aabs n') (by unfold aabs; split <;> omega : 0 ≤ aabs u')
      split <;> omega
    have a2 : -(1000000 * 1000000) ≤ n' * u' := by
      rw [← aabs_mul n' u']
      have : aabs n' * aabs u' ≤ 1000000 * 1000000 := Int.mul_le_mul (by unfold aabs; split <;> omega) (by unfold aabs; split <;> omega) (by unfold aabs; split <;> omega) (by omega)
      have := Int.mul_nonneg (by unfold aabs; split <;> omega : 0 ≤ aabs n') (by unfold aabs; split <;> omega : 0 ≤ aabs u')
      split <;> omega
    exact w64 (by omega) (by omega)
  rw [hp]
  have r := fun m hm => near_round n' u' d' k' m (n' * u') (by omega) (by omega) h3 h4 hm rfl
  exact r 1 (by omega) (r 2 (by omega) (r 3 (by omega) (r 4 (by omega) (r 5 (by omega) (Ev.one fun k => by simp [levylaw1_MoneyNear.l0])))))
end Go.Proofs.YtnjhjaifmgjljaaDoor.Pure

-- Part 11 of the texts of the claim CL (wrote by programs: words of the kit's print.sh, printed functions; and my own texts; joined by wip/tools/pack.py).
import Derived.Test.YtfhgomcfpmbhnaaCL10

section
namespace Go.Proofs.Ytfhgomcfpmbhnaa.F
open Go Go.RowKit Go.Proofs.Ytfhgomcfpmbhnaa.Y Go.Proofs.Ytfhgomcfpmbhnaa.PS Ieee
open Go.Proofs.YtfhgomcfpmbhnaaW.PrintWords Go.Proofs.YtfhgomcfpmbhnaaW.PrintMore
set_option linter.unusedVariables false
set_option linter.unusedSimpArgs false
def vL (k b : Int) (i : Nat) : Int := k * (4 * (i : Int)) + b
def lineP (k b : Int) (n : Nat) : List S58 := (List.range n).map fun i : Nat => ⟨4 * (i : Int), fl_of (vL k b i)⟩
def slopeP (k : Int) (m : Nat) : List S58 := (List.range m).map fun i : Nat => ⟨4 * (i : Int), fl_of k⟩
def rateP (k b : Int) (m : Nat) : List S58 := (List.range m).map fun i : Nat => ⟨4 * ((i + 1 : Nat) : Int), fl_quo (fl_of (vL k b (i + 1))) (fl_of (4 * ((i + 1 : Nat) : Int)))⟩
theorem lineP_len (k b : Int) (n : Nat) : (lineP k b n).length = n := by simp [lineP]
theorem slopeP_len (k : Int) (n : Nat) : (slopeP k n).length = n := by simp [slopeP]
theorem rateP_len (k b : Int) (n : Nat) : (rateP k b n).length = n := by simp [rateP]
theorem lineP_at (k b : Int) (n i : Nat) (hi : i < n) : (lineP k b n).getD i z58 = ⟨4 * (i : Int), fl_of (vL k b i)⟩ := by
  unfold lineP
  rw [List.getD_eq_getElem?_getD, List.getElem?_map, List.getElem?_range hi]
  rfl
theorem slopeP_at (k : Int) (n i : Nat) (hi : i < n) : (slopeP k n).getD i z58 = ⟨4 * (i : Int), fl_of k⟩ := by
  unfold slopeP
  rw [List.getD_eq_getElem?_getD, List.getElem?_map, List.getElem?_range hi]
  rfl
theorem rateP_at (k b : Int) (n i : Nat) (hi : i < n) : (rateP k b n).getD i z58 = ⟨4 * ((i + 1 : Nat) : Int), fl_quo (fl_of (vL k b (i + 1))) (fl_of (4 * ((i + 1 : Nat) : Int)))⟩ := by
  unfold rateP
  rw [List.getD_eq_getElem?_getD, List.getElem?_map, List.getElem?_range hi]
  rfl
theorem lineP_succ (k b : Int) (n : Nat) : lineP k b (n + 1) = lineP k b n ++ [⟨4 * (n : Int), fl_of (vL k b n)⟩] := by
  unfold lineP; rw [List.range_succ, List.map_append]; rfl
theorem slopeP_succ (k : Int) (n : Nat) : slopeP k (n + 1) = slopeP k n ++ [⟨4 * (n : Int), fl_of k⟩] := by
  unfold slopeP; rw [List.range_succ, List.map_append]; rfl
theorem rateP_succ (k b : Int) (n : Nat) : rateP k b (n + 1) = rateP k b n ++ [⟨4 * ((n + 1 : Nat) : Int), fl_quo (fl_of (vL k b (n + 1))) (fl_of (4 * ((n + 1 : Nat) : Int)))⟩] := by
  unfold rateP; rw [List.range_succ, List.map_append]; rfl
section
variable {k b : Int} (k0 : -1000 ≤ k) (k1 : k ≤ 1000) (b0 : -100000 ≤ b) (b1 : b ≤ 100000)
include k0 k1 b0 b1
theorem mul_rng (x : Int) (h0 : 0 ≤ x) (h1 : x ≤ 300) : -300000 ≤ k * x ∧ k * x ≤ 300000 := by
  have a := Int.mul_le_mul_of_nonneg_right k0 h0
  have c := Int.mul_le_mul_of_nonneg_right k1 h0
  have _h := b0
  have _g := b1
  omega
theorem vL_rng (i : Nat) (hi : i ≤ 64) : -400000 ≤ vL k b i ∧ vL k b i ≤ 400000 := by
  have := mul_rng k0 k1 b0 b1 (4 * (i : Int)) (by omega) (by omega)
  unfold vL
  omega
theorem vL_succ (i : Nat) : vL k b (i + 1) - vL k b i = 4 * k := by
  have _h := b0
  have _g := b1
  have _f := k0
  have _e := k1
  unfold vL
  rw [show (4 * ((i + 1 : Nat) : Int)) = 4 * (i : Int) + 4 by omega, Int.mul_add]
  omega
theorem line_is (fv : Int → Int) (hf : ∀ x, fv x = wrap64 (wrap64 (k * x) + b)) : ∀ n, n ≤ 64 → lineL 0 4 fv n = lineP k b n := by
  intro n
  induction n with
  | zero => intro _; rfl
  | succ n ih =>
    intro hn
    have hp : placeAt 0 4 n = 4 * (n : Int) := by unfold placeAt wrap64; omega
    have hm := mul_rng k0 k1 b0 b1 (4 * (n : Int)) (by omega) (by omega)
    have hv : fv (4 * (n : Int)) = vL k b n := by
      rw [hf]
      unfold vL
      generalize k * (4 * (n : Int)) = z at *
      unfold wrap64
      omega
    rw [lineL, ih (by omega), lineP_succ, hp, hv]
theorem line_good (n : Nat) (hn : n ≤ 64) : Good (toD (lineP k b n)) ∧ InOrd (toD (lineP k b n)) (toD (lineP k b n)).length := by
  have hat : ∀ i, i < n → (rd_T73 (toD (lineP k b n)) (i : Int)).f0 = 4 * (i : Int) ∧ hB (toD (lineP k b n)) (i : Int) = fl_of (vL k b i) := fun i hi => by
    obtain ⟨a, c⟩ := toD_at (lineP k b n) i
    rw [a, c, lineP_at k b n i hi]
    exact ⟨rfl, rfl⟩
  refine ⟨⟨by rw [toD_len, lineP_len]; omega, fun d hd => ?_⟩, fun i h0 h1 => ?_⟩
  · unfold toD at hd
    obtain ⟨q, hq, rfl⟩ := List.mem_map.1 hd
    obtain ⟨i, hi, rfl⟩ := getD_mem _ q hq
    rw [lineP_len] at hi
    rw [lineP_at k b n i hi]
    have hv := vL_rng k0 k1 b0 b1 i (by omega)
    have f := whole_fin1 (vL k b i) (by omega)
    refine ⟨⟨Int.natCast_nonneg _, ?_⟩, ?_, ?_⟩
    · show ((fl_of (vL k b i) : Nat) : Int) < 4294967296
      have := f.1
      omega
    · show -9223372036854775808 ≤ 4 * (i : Int)
      omega
    · show 4 * (i : Int) ≤ 9223372036854775807
      omega
  · rw [toD_len, lineP_len] at h1
    obtain ⟨j, rfl⟩ : ∃ j : Nat, i = j := ⟨i.toNat, by omega⟩
    obtain ⟨a, c⟩ := hat j (by omega)
    have hv := vL_rng k0 k1 b0 b1 j (by omega)
    have f := whole_fin1 (vL k b j) (by omega)
    rw [a, c]
    refine ⟨f.2, by omega, by omega, fun hp => ?_⟩
    rw [show ((j : Int) - 1) = ((j - 1 : Nat) : Int) by omega, (hat (j - 1) (by omega)).1]
    omega
theorem line_ordered (n : Nat) (hn : n ≤ 64) : Ev (fun q => curve_ordered.f q (lineP k b n)) true := by
  obtain ⟨g, o⟩ := line_good k0 k1 b0 b1 n hn
  have := ordered_true g o
  rwa [toD_P] at this
theorem quo_of (S m : Int) (n : Nat) (hS : S.natAbs < 16777216) (hn : n ≠ 0) (hn1 : n < 16777216) (e : m * n = S) : fk_quo (fl_of S) (fl_of n) = true ∧ fl_quo (fl_of S) (fl_of n) = fl_of m := by
  have _h := b0
  have _g := b1
  have _f := k0
  have _e := k1
  obtain ⟨q, q1, _, q3⟩ := quo_val S n hS hn hn1
  obtain ⟨a, c⟩ := fk_of.2.2.2 q1
  exact ⟨a, by rw [c]; exact (q3 m).2.2 e⟩
theorem slope_is' (n : Nat) (hn : n ≤ 64) : Ev (fun q => curve_Slope.f q (lineP k b n)) (slopeP k (n - 1), 0) := by
  have hl := lineP_len k b n
  have key : ∀ (m i : Nat), 1 ≤ i → i + m = n → Ev (fun q => curve_Slope.l0 q (lineP k b n) (slopeP k (i - 1)) (i : Int)) (slopeP k (n - 1), 0) := by
    intro m
    induction m with
    | zero =>
      intro i h1 hi
      obtain rfl : i = n := by omega
      refine Ev.step (f := fun _ => some (slopeP k (i - 1), 0)) (fun q => ?_) (Ev.now _)
      rw [curve_Slope.l0, if_neg (by rw [hl]; omega)]
    | succ m ih =>
      intro i h1 hi
      have hv := vL_rng k0 k1 b0 b1 i (by omega)
      have hv1 := vL_rng k0 k1 b0 b1 (i - 1) (by omega)
      have hd := vL_succ k0 k1 b0 b1 (i - 1)
      rw [show i - 1 + 1 = i by omega] at hd
      obtain ⟨s1, s2⟩ := fk_of.2.1 (sub_whole (vL k b i) (vL k b (i - 1)) (by omega) (by omega))
      obtain ⟨q1, q2⟩ := quo_of k0 k1 b0 b1 (4 * k) k 4 (by omega) (by decide) (by decide) (by show k * 4 = 4 * k; omega)
      have r1 : rd_T58 (lineP k b n) (i : Int) = ⟨4 * (i : Int), fl_of (vL k b i)⟩ := lineP_at k b n i (by omega)
      have r2 : rd_T58 (lineP k b n) ((i - 1 : Nat) : Int) = ⟨4 * ((i - 1 : Nat) : Int), fl_of (vL k b (i - 1))⟩ := lineP_at k b n (i - 1) (by omega)
      have hw : curve_whole.f 4 = some (fl_of ((4 : Nat) : Int)) := rfl
      refine Ev.step (fun q => ?_) (ih (i + 1) (by omega) (by omega))
      rw [curve_Slope.l0, if_pos (by rw [hl]; omega), if_pos (by omega), show wrap64 ((i : Int) - 1) = ((i - 1 : Nat) : Int) by unfold wrap64; omega, if_pos (by omega), if_pos (by rw [hl]; omega), r1, r2]
      simp only []
      rw [if_pos s1, s2, hd, show wrap64 (4 * (i : Int) - 4 * ((i - 1 : Nat) : Int)) = 4 by unfold wrap64; omega, hw]
      simp only [Option.bind_some]
      rw [if_pos q1, q2, if_pos (by rw [slopeP_len]; omega), show wrap64 ((i : Int) + 1) = ((i + 1 : Nat) : Int) by unfold wrap64; omega, ← slopeP_succ, show i - 1 + 1 = i + 1 - 1 by omega]
  unfold curve_Slope.f
  refine Ev.bind (f := fun q t270 => (if t270 = true then (curve_Slope.l0 q (lineP k b n) ([] : List S58) 1) else (some (([] : List S58), 172)))) (line_ordered k0 k1 b0 b1 n hn) ?_
  by_cases h0 : 1 ≤ n
  · exact Ev.congr (fun q => if_pos rfl) (key (n - 1) 1 (by omega) (by omega))
  · obtain rfl : n = 0 := by omega
    refine Ev.congr (fun q => if_pos rfl) (Ev.step (f := fun _ => some (slopeP k 0, 0)) (fun q => ?_) (Ev.now _))
    rw [curve_Slope.l0, if_neg (by rw [hl]; decide)]
    rfl
theorem rate_is' (n : Nat) (hn : n ≤ 64) : Ev (fun q => curve_Rate.f q (lineP k b n)) (rateP k b (n - 1)) := by
  have hl := lineP_len k b n
  have key : ∀ (m i : Nat), i + m = n → Ev (fun q => curve_Rate.l0 q (rateP k b (i - 1)) (lineP k b n) (n : Int) (i : Int)) (rateP k b (n - 1)) := by
    intro m
    induction m with
    | zero =>
      intro i hi
      obtain rfl : i = n := by omega
      refine Ev.step (f := fun _ => some (rateP k b (i - 1))) (fun q => ?_) (Ev.now _)
      rw [curve_Rate.l0, if_neg (by omega)]
    | succ m ih =>
      intro i hi
      have hv := vL_rng k0 k1 b0 b1 i (by omega)
      have r1 : rd_T58 (lineP k b n) (i : Int) = ⟨4 * (i : Int), fl_of (vL k b i)⟩ := lineP_at k b n i (by omega)
      have hw : wrap64 ((i : Int) + 1) = ((i + 1 : Nat) : Int) := by unfold wrap64; omega
      refine Ev.step (fun q => ?_) (ih (i + 1) (by omega))
      rw [curve_Rate.l0, if_pos (by omega), if_pos (by omega), if_pos (by rw [hl]; omega), r1]
      simp only []
      by_cases h0 : i = 0
      · subst h0
        rw [if_pos (by omega), hw]
      · have f := whole_fin1 (vL k b i) (by omega)
        have hfin : curve_finite.f (fl_of (vL k b i)) = some true := by
          unfold curve_finite.f
          rw [fFin_is _ f.1, decide_eq_true f.2]
        obtain ⟨qq, q1, _, _⟩ := quo_val (vL k b i) (4 * i) (by omega) (by omega) (by omega)
        obtain ⟨a, c⟩ := fk_of.2.2.2 q1
        have ei : ((4 * i : Nat) : Int) = 4 * (i : Int) := by omega
        rw [ei] at a c
        have hwf : curve_whole.f (4 * (i : Int)) = some (fl_of (4 * (i : Int))) := rfl
        rw [if_neg (by omega), hfin]
        simp only [Option.bind_some]
        rw [if_pos trivial, hwf]
        simp only [Option.bind_some]
        have hs := rateP_succ k b (i - 1)
        rw [show i - 1 + 1 = i by omega] at hs
        rw [if_pos a, if_pos (by rw [rateP_len]; omega), hw, ← hs, show i = i + 1 - 1 by omega]
        rfl
  unfold curve_Rate.f
  rw [hl]
  exact key n 0 (by omega)
theorem at_line (n i : Nat) (hn : n ≤ 64) (hi : i < n) :
    Ev (fun q => curve_At.f q (lineP k b n) (4 * (i : Int))) (fl_of (vL k b i), 0) ∧ Ev (fun q => curve_At.f q (lineP k b n) (4 * (i : Int) + 2)) (if i + 1 < n then (fl_of (k * (4 * (i : Int) + 2) + b), 0) else (0, 175)) := by
  have hl := lineP_len k b n
  have rd : ∀ j : Nat, j < n → rd_T58 (lineP k b n) (j : Int) = ⟨4 * (j : Int), fl_of (vL k b j)⟩ := fun j hj => lineP_at k b n j hj
  have hw : ∀ j : Nat, j < n → wrap64 ((j : Int) + 1) = ((j + 1 : Nat) : Int) := fun j hj => by unfold wrap64; omega
  have skip : ∀ (x : Int) (j : Nat), j < n → 4 * (j : Int) < x → ∀ q, curve_At.l0 (q + 1) (lineP k b n) x (lineP k b n) (n : Int) (j : Int) = curve_At.l0 q (lineP k b n) x (lineP k b n) (n : Int) ((j + 1 : Nat) : Int) := by
    intro x j hj hx q
    rw [curve_At.l0, if_pos (by omega), if_pos (by omega), if_pos (by rw [hl]; omega), rd j hj]
    simp only []
    rw [if_neg (by omega), if_neg (by omega), hw j hj]
  have reach : ∀ (x : Int) (r : Nat × Int) (m j t : Nat), j + m = t → t ≤ n → (∀ j', j' < t → 4 * (j' : Int) < x) → Ev (fun q => curve_At.l0 q (lineP k b n) x (lineP k b n) (n : Int) (t : Int)) r → Ev (fun q => curve_At.l0 q (lineP k b n) x (lineP k b n) (n : Int) (j : Int)) r := by
    intro x r m
    induction m with
    | zero =>
      intro j t hjt ht hx h
      obtain rfl : j = t := by omega
      exact h
    | succ m ih =>
      intro j t hjt ht hx h
      exact Ev.step (skip x j (by omega) (hx j (by omega))) (ih (j + 1) t (by omega) ht hx h)
  have full : ∀ (x : Int) (r : Nat × Int) (t : Nat), t ≤ n → (∀ j', j' < t → 4 * (j' : Int) < x) → Ev (fun q => curve_At.l0 q (lineP k b n) x (lineP k b n) (n : Int) (t : Int)) r → Ev (fun q => curve_At.f q (lineP k b n) x) r := by
    intro x r t ht hx h
    unfold curve_At.f
    refine Ev.bind (f := fun q t280 => (if t280 = true then (curve_At.l0 q (lineP k b n) x (lineP k b n) ((lineP k b n).length : Int) 0) else (some ((0 : Nat), 172)))) (line_ordered k0 k1 b0 b1 n hn) ?_
    rw [hl]
    exact Ev.congr (fun q => if_pos rfl) (reach x r t 0 t (by omega) ht hx h)
  refine ⟨full _ _ i (by omega) (fun j hj => by omega) ?_, ?_⟩
  · refine Ev.step (f := fun _ => some (fl_of (vL k b i), 0)) (fun q => ?_) (Ev.now _)
    rw [curve_At.l0, if_pos (by omega), if_pos (by omega), if_pos (by rw [hl]; omega), rd i hi]
    simp only []
    rw [if_pos trivial]
  · by_cases h : i + 1 < n
    · rw [if_pos h]
      refine full _ _ (i + 1) (by omega) (fun j hj => by omega) ?_
      have hv := vL_rng k0 k1 b0 b1 (i + 1) (by omega)
      have hv1 := vL_rng k0 k1 b0 b1 i (by omega)
      have hd := vL_succ k0 k1 b0 b1 i
      obtain ⟨s1, s2⟩ := fk_of.2.1 (sub_whole (vL k b (i + 1)) (vL k b i) (by omega) (by omega))
      have hq : single.div (fl_of 2) (fl_of 4) = some 1056964608 := by decide +kernel
      obtain ⟨q1, q2⟩ := fk_of.2.2.2 hq
      have hm : single.mul (fl_of (4 * k)) 1056964608 = some (fl_of (2 * k)) := by
        obtain ⟨P, hP⟩ : ∃ P : Nat, 2 ^ 149 = P := ⟨_, rfl⟩
        obtain ⟨f4, v4, x4⟩ := of_val P hP (4 * k) (by omega)
        rw [mul_units _ _ f4.1 (by decide) f4.2 (by decide), x4]
        refine congrArg some ?_
        have hu : units (fl_of (4 * k) % 2147483648) = (4 * k).natAbs * P := by
          have e : (valI (fl_of (4 * k))).natAbs = units (fl_of (4 * k) % 2147483648) := by
            unfold valI
            cases sX (fl_of (4 * k)) <;> simp [pm]
          rw [← e, v4, Int.natAbs_mul, Int.natAbs_natCast]
        have hh : units (1056964608 % 2147483648) * 2 = P := by rw [← hP]; decide +kernel
        have h2 : (4 * k).natAbs = 2 * (2 * k).natAbs := by omega
        have hprod : units (fl_of (4 * k) % 2147483648) * units (1056964608 % 2147483648) = (2 * k).natAbs * P * P := by
          rw [hu, h2, ← hh]
          generalize units (1056964608 % 2147483648) = z
          generalize (2 * k).natAbs = y
          ac_rfl
        have e := nearest_scale (decide (4 * k < 0) ^^ sX 1056964608) ((2 * k).natAbs * P) 149 (-149)
        rw [hP, nearest_149 P hP] at e
        rw [hprod, e, show sX 1056964608 = false by decide, Bool.xor_false, of_is]
        have : decide (4 * k < 0) = decide (2 * k < 0) := by
          rw [Bool.eq_iff_iff]; simp only [decide_eq_true_eq]; omega
        rw [this]
      obtain ⟨m1, m2⟩ := fk_of.2.2.1 hm
      obtain ⟨a1, a2⟩ := fk_of.1 (add_whole (vL k b i) (2 * k) (by omega) (by omega))
      have he : vL k b i + 2 * k = k * (4 * (i : Int) + 2) + b := by
        unfold vL
        rw [Int.mul_add]
        omega
      refine Ev.step (f := fun _ => some (fl_of (k * (4 * (i : Int) + 2) + b), 0)) (fun q => ?_) (Ev.now _)
      have hw2 : ∀ x : Int, curve_whole.f x = some (fl_of x) := fun x => rfl
      rw [curve_At.l0, if_pos (by omega), if_pos (by omega), if_pos (by rw [hl]; omega), rd (i + 1) h]
      simp only []
      rw [if_neg (by omega), if_pos (by omega), if_neg (by omega), show wrap64 (((i + 1 : Nat) : Int) - 1) = (i : Int) by unfold wrap64; omega, if_pos (by omega), if_pos (by rw [hl]; omega), rd i hi]
      simp only []
      rw [show wrap64 (4 * (i : Int) + 2 - 4 * (i : Int)) = 2 by unfold wrap64; omega, show wrap64 (4 * ((i + 1 : Nat) : Int) - 4 * (i : Int)) = 4 by unfold wrap64; omega, hw2, hw2]
      simp only [Option.bind_some]
      rw [if_pos q1, if_pos s1, s2, hd, q2, if_pos m1, m2, if_pos a1, a2, he]
    · rw [if_neg h]
      refine full _ _ n (Nat.le_refl _) (fun j hj => by omega) ?_
      refine Ev.step (f := fun _ => some (0, 175)) (fun q => ?_) (Ev.now _)
      rw [curve_At.l0, if_neg (by omega)]
theorem jumps_line (n : Nat) (hn : n ≤ 64) : (jumpsL (lineP k b n) (fl_of (max (4 * k) (-4 * k))) n).length = n - 1 := by
  have hj : ∀ i, 1 ≤ i → i < n → isJump (lineP k b n) (fl_of (max (4 * k) (-4 * k))) i = true := by
    intro i h1 hi
    have hv := vL_rng k0 k1 b0 b1 i (by omega)
    have hv1 := vL_rng k0 k1 b0 b1 (i - 1) (by omega)
    have hd := vL_succ k0 k1 b0 b1 (i - 1)
    rw [show i - 1 + 1 = i by omega] at hd
    obtain ⟨s1, s2⟩ := fk_of.2.1 (sub_whole (vL k b i) (vL k b (i - 1)) (by omega) (by omega))
    unfold isJump
    rw [lineP_at k b n i hi, lineP_at k b n (i - 1) (by omega)]
    simp only []
    rw [s1, s2, hd, Bool.true_and]
    have ho := order_whole (4 * k) 0 (by omega) (by decide)
    rw [of_nil] at ho
    have habs : absF (fl_of (4 * k)) = fl_of (max (4 * k) (-4 * k)) := by
      unfold absF
      rw [ho, cmp_lt]
      by_cases c : 4 * k < 0
      · rw [if_pos (decide_eq_true c)]
        obtain ⟨fin, v, s⟩ := of_val (2 ^ 149) rfl (4 * k) (by omega)
        have h31 : 2147483648 ≤ fl_of (4 * k) := by
          rw [decide_eq_true c] at s
          exact of_decide_eq_true s
        rw [fl_neg_is _ h31 fin.1, show max (4 * k) (-4 * k) = -(4 * k) by omega, of_word (4 * k), of_word (-(4 * k)), decide_eq_true c, decide_eq_false (by omega), Int.natAbs_neg, word_false]
        unfold Format.word
        rw [F.k1]
        exact Nat.add_sub_cancel_left ..
      · rw [if_neg (by simpa using c), show max (4 * k) (-4 * k) = 4 * k by omega]
    rw [habs]
    unfold geF
    have := same_eq (whole_fin1 (max (4 * k) (-4 * k)) (by omega))
    rw [this, Bool.or_true]
  unfold jumpsL
  rw [List.length_map, List.filter_eq_self.2 (fun i hi => ?_), List.length_range']
  rw [List.mem_range'_1] at hi
  exact hj i hi.1 (by omega)
end
end Go.Proofs.Ytfhgomcfpmbhnaa.F
end

section
namespace Go.Proofs.Ytfhgomcfpmbhnaa.Y
open Go Go.RowKit Go.Proofs.Ytfhgomcfpmbhnaa.PS Go.Proofs.Ytfhgomcfpmbhnaa.F Go.Proofs.YtfhgomcfpmbhnaaW.PrintWords Go.Proofs.YtfhgomcfpmbhnaaW.PrintMore Go.Proofs.YtfhgomcfpmbhnaaW.Fits
attribute [local go_sem] frun_add frun_sub frun_mul frun_quo frun_neg frun_of frun_same frun_store frun_bits frun_from frun_eqin
set_option linter.unusedVariables false
set_option maxRecDepth 100000
set_option maxHeartbeats 4000000 in
theorem by_calls (gk gb : Nat) (k b x : Int) (w : World) (hk : w.cell? ⟨gk, 0, none⟩ = some (.int .i64 k)) (hb : w.cell? ⟨gb, 0, none⟩ = some (.int .i64 b)) :
    Calls Try.prog 28 #[.int .i64 x, .pointer (some ⟨gk, 0, none⟩), .pointer (some ⟨gb, 0, none⟩)] w (fun e w' => e = .returned (.agg #[.int .i64 2, .int .i64 (wrap64 (wrap64 (k * x) + b))]) ∧ Below w.heap.size w w') := by
  have hu29 := Try.underlying29
  have HB := Aside0.mk (Below.refl w.heap.size w)
  go_enter Try.func28, Try.ntmps28
  go_wp2_with (first | ((with_reducible refine gate_dst (N := 4) rfl ?_); refine box_event ?hg (N := 4) ?hd (cs := #[.int .i64 0, .int .i64 0]) (t := 29) ?hr ?_; (case hd => rfl); (case hg => rfl); (case hr => first | (go_simp; done) | (go_simp; rfl)); intro g5 hg w2 hbox hbl; have n0_ := Aside0.mk (below_step HB.out hbl); have hk2 := pw_cell_below n0_.out hk; have hb2 := pw_cell_below n0_.out hb; have n1_ := Aside0.mk hbox; have n2_ := Aside0.mk ((by rw [hg]; exact (below_size HB.out) : w.heap.size ≤ g5)); clear HB hk hb; have HB := n0_; have BK := n1_; have GW := n2_; clear n0_ n1_ n2_; clear hbl hbox hg; have hcz0 : w2.cell? ⟨g5, 0, none⟩ = some (.int .i64 0) := (blk_cell BK.out 0).trans rfl; have hcz1 : w2.cell? ⟨g5, 1, none⟩ = some (.int .i64 0) := (blk_cell BK.out 1).trans rfl; have hfz0 := blk_frozen BK.out 0; have hfz1 := blk_frozen BK.out 1))
  refine bodyPost_ret (results_cell_row rfl _ _ g5 29 #[.int .i64 2, .int .i64 (wrap64 (wrap64 (k * x) + b))] (0, 0) _ rfl (by (with_reducible repeat (first | refine blk_drewN ?_ _ | refine blk_drew ?_ | refine blk_alloc ?_ _)); refine blk_put (cs := #[.int .i64 2, .int .i64 0]) ?_ 1 _ rfl; (with_reducible repeat (first | refine blk_drewN ?_ _ | refine blk_drew ?_ | refine blk_alloc ?_ _)); refine blk_put (cs := #[.int .i64 0, .int .i64 0]) ?_ 0 _ rfl; (with_reducible repeat (first | refine blk_drewN ?_ _ | refine blk_drew ?_ | refine blk_alloc ?_ _)); exact BK.out) Try.underlying29 rfl (by kernel_rfl)) rfl ?_
  exact ⟨rfl, by first | exact (HB.out.setCell GW.out _).setCell GW.out _ | exact blx⟩
set_option maxHeartbeats 4000000 in
theorem small_still (a0 a1 r : Int) (w : World) (h : levylaw17_small.f a0 a1 = some r) : Calls Try.prog 24 #[.int .i64 a0, .int .i64 a1] w (fun e w' => e = .returned (.int .i64 r) ∧ w' = w) := by
  unfold levylaw17_small.f at h
  by_cases c3 : a0 < 0
  · rw [if_pos c3] at h
    have c3b0 : decide (a0 < 0) = true := decide_eq_true c3
    clear c3
    by_cases c4 : (wrap64 ((wrap64 (2 * a1)) + 1)) = 0
    · rw [if_pos c4] at h
      exact absurd h (by simp)
    · rw [if_neg c4] at h
      have c4b0 : ((wrap64 ((wrap64 (2 * a1)) + 1)) == 0) = false := beq_eq_false_iff_ne.mpr c4
      have c4b1 : ((wrap64 ((wrap64 (2 * a1)) + 1)) != 0) = true := bne_iff_ne.mpr c4
      obtain rfl := Option.some.inj h
      go_enter Try.func24, Try.ntmps24
      go_wp2
      go_ret
      exact ⟨rfl, rfl⟩
  · rw [if_neg c3] at h
    have c3b0 : decide (a0 < 0) = false := decide_eq_false c3
    clear c3
    by_cases c5 : (wrap64 ((wrap64 (2 * a1)) + 1)) = 0
    · rw [if_pos c5] at h
      exact absurd h (by simp)
    · rw [if_neg c5] at h
      have c5b0 : ((wrap64 ((wrap64 (2 * a1)) + 1)) == 0) = false := beq_eq_false_iff_ne.mpr c5
      have c5b1 : ((wrap64 ((wrap64 (2 * a1)) + 1)) != 0) = true := bne_iff_ne.mpr c5
      obtain rfl := Option.some.inj h
      go_enter Try.func24, Try.ntmps24
      go_wp2
      go_ret
      exact ⟨rfl, rfl⟩
section
variable {k b : Int} (k0 : -1000 ≤ k) (k1 : k ≤ 1000) (b0 : -100000 ≤ b) (b1 : b ≤ 100000) (n : Nat) (hn : n ≤ 64)
include k0 k1 b0 b1 hn
theorem slope_l (A : Option Addr) (c : Nat) (w : World) (hr : Kd.C k58 w A n (lineP k b n)) (hc : n ≤ c) : Calls Try.prog 29 #[.slice A n c] w (GivesTwo k58 (n - 1) (slopeP k (n - 1)) 0 w) := by
  obtain ⟨q, hq⟩ := (slope_is' k0 k1 b0 b1 n hn).rounds
  have hl := lineP_len k b n
  have h := curve_Slope.calls q A c (lineP k b n) _ _ w (by rw [hl]; exact hr) (by rw [hl]; exact hc) hq
  rw [hl] at h
  refine h.mono ?_
  rintro e w' ⟨v, rfl, hR, hb⟩
  obtain ⟨A', c', rfl, h1, h2⟩ := Kd.R_reads hR
  rw [slopeP_len] at h1 h2 ⊢
  exact ⟨A', c', rfl, h1, h2, hb⟩
theorem rate_l (A : Option Addr) (c : Nat) (w : World) (hr : Kd.C k58 w A n (lineP k b n)) (hc : n ≤ c) : Calls Try.prog 30 #[.slice A n c] w (GivesOne k58 (n - 1) (rateP k b (n - 1)) w) := by
  obtain ⟨q, hq⟩ := (rate_is' k0 k1 b0 b1 n hn).rounds
  have hl := lineP_len k b n
  have h := curve_Rate.calls q A c (lineP k b n) _ w (by rw [hl]; exact hr) (by rw [hl]; exact hc) hq
  rw [hl] at h
  refine h.mono ?_
  rintro e w' ⟨v, rfl, hR, hb⟩
  obtain ⟨A', c', rfl, h1, h2⟩ := Kd.R_reads hR
  rw [rateP_len] at h1 h2 ⊢
  exact ⟨A', c', rfl, h1, h2, hb⟩
theorem at_l (A : Option Addr) (c i : Nat) (w : World) (hi : i < n) (hr : Kd.C k58 w A n (lineP k b n)) (hc : n ≤ c) : Calls Try.prog 31 #[.slice A n c, .int .i64 (4 * (i : Int))] w (fun e w' => e = .returned (.tuple #[.float .f32 (fl_of (vL k b i)), .int .i64 0]) ∧ Below w.heap.size w w') := by
  obtain ⟨q, hq⟩ := (at_line k0 k1 b0 b1 n i hn hi).1.rounds
  have hl := lineP_len k b n
  have h := curve_At.calls q A c (lineP k b n) (4 * (i : Int)) _ _ w (by rw [hl]; exact hr) (by rw [hl]; exact hc) hq
  rw [hl] at h
  exact h
theorem at_l2 (A : Option Addr) (c i : Nat) (w : World) (hi : i + 1 < n) (hr : Kd.C k58 w A n (lineP k b n)) (hc : n ≤ c) : Calls Try.prog 31 #[.slice A n c, .int .i64 (4 * (i : Int) + 2)] w (fun e w' => e = .returned (.tuple #[.float .f32 (fl_of (k * (4 * (i : Int) + 2) + b)), .int .i64 0]) ∧ Below w.heap.size w w') := by
  obtain ⟨q, hq⟩ := (at_line k0 k1 b0 b1 n i hn (by omega)).2.rounds
  rw [if_pos hi] at hq
  have hl := lineP_len k b n
  have h := curve_At.calls q A c (lineP k b n) (4 * (i : Int) + 2) _ _ w (by rw [hl]; exact hr) (by rw [hl]; exact hc) hq
  rw [hl] at h
  exact h
theorem at_l3 (A : Option Addr) (c i : Nat) (w : World) (hi : i + 1 = n) (hr : Kd.C k58 w A n (lineP k b n)) (hc : n ≤ c) : Calls Try.prog 31 #[.slice A n c, .int .i64 (4 * (i : Int) + 2)] w (fun e w' => e = .returned (.tuple #[.float .f32 0, .int .i64 175]) ∧ Below w.heap.size w w') := by
  obtain ⟨q, hq⟩ := (at_line k0 k1 b0 b1 n i hn (by omega)).2.rounds
  rw [if_neg (by omega)] at hq
  have hl := lineP_len k b n
  have h := curve_At.calls q A c (lineP k b n) (4 * (i : Int) + 2) _ _ w (by rw [hl]; exact hr) (by rw [hl]; exact hc) hq
  rw [hl] at h
  exact h
theorem jumps_l (A : Option Addr) (c : Nat) (w : World) (hr : Kd.C k58 w A n (lineP k b n)) (hc : n ≤ c) : Calls Try.prog 32 #[.slice A n c, .float .f32 (fl_of (max (4 * k) (-4 * k)))] w (fun e w' => ∃ A' c', e = .returned (.slice A' (n - 1) c') ∧ Below w.heap.size w w') := by
  have hl := lineP_len k b n
  have hj := jumps_line k0 k1 b0 b1 n hn
  have hf := whole_fin1 (max (4 * k) (-4 * k)) (by omega)
  have h := jumps_calls A c (lineP k b n) (fl_of (max (4 * k) (-4 * k))) w (by rw [hl]; exact hr) (by rw [hl]; exact hc) (by rw [hl]; omega) hf.1
  rw [hl, hj] at h
  refine h.mono ?_
  rintro e w' ⟨v, rfl, hO, hb⟩
  obtain ⟨A', c', rfl, _, _⟩ := C_ownI hj hO
  exact ⟨A', c', rfl, hb⟩
end
end Go.Proofs.Ytfhgomcfpmbhnaa.Y
end

section
namespace Go.Proofs.Ytfhgomcfpmbhnaa.Y
open Go Go.RowKit Go.Proofs.Ytfhgomcfpmbhnaa.PS Go.Proofs.Ytfhgomcfpmbhnaa.F Go.Proofs.YtfhgomcfpmbhnaaW.PrintWords Go.Proofs.YtfhgomcfpmbhnaaW.PrintMore Go.Proofs.YtfhgomcfpmbhnaaW.Fits
attribute [local go_sem] frun_add frun_sub frun_mul frun_quo frun_neg frun_of frun_same frun_store frun_bits frun_from frun_eqin
set_option linter.unusedVariables false
set_option maxRecDepth 100000
theorem ne_of {o : Option Ordering} (h : (o == some Ordering.eq) = true) : (o != some Ordering.eq) = false := by
  show (!(o == some Ordering.eq)) = false
  rw [h]
  rfl
set_option maxHeartbeats 4000000 in
theorem law_line (a0 a1 a2 : Int) (w : World) (ha0 : -9223372036854775808 ≤ a0) (ha1 : a0 ≤ 9223372036854775807) (hb0 : -9223372036854775808 ≤ a1) (hb1 : a1 ≤ 9223372036854775807) (hc0 : -9223372036854775808 ≤ a2) (hc1 : a2 ≤ 9223372036854775807) :
    Calls Try.prog 10 #[.int .i64 a0, .int .i64 a1, .int .i64 a2] w (TrueBelow w) := by
  obtain ⟨k, hsm1, k0, k1⟩ := small_is a0 1000 (by decide) (by decide) ha0 ha1
  obtain ⟨b, hsm2, b0, b1⟩ := small_is a1 100000 (by decide) (by decide) hb0 hb1
  obtain ⟨r, hsm3, r0, r1⟩ := small_is a2 30 (by decide) (by decide) hc0 hc1
  obtain ⟨n, hn⟩ : ∃ h : Nat, (h : Int) = r + 32 := ⟨(r + 32).toNat, by omega⟩
  have n2 : 2 ≤ n := by omega
  have n62 : n ≤ 62 := by omega
  have q1 : wrap64 (r + 32) = (n : Int) := by unfold wrap64; omega
  have HS1 := Aside0.mk hsm1
  have HS2 := Aside0.mk hsm2
  have HS3 := Aside0.mk hsm3
  have HK := Aside0.mk (And.intro k0 (And.intro k1 (And.intro b0 b1)))
  have HN := Aside0.mk (And.intro n2 n62)
  have Q := Aside0.mk q1
  clear hsm1 hsm2 hsm3 k0 k1 b0 b1 r0 r1 hn n2 n62 q1 ha0 ha1 hb0 hb1 hc0 hc1
  go_enter Try.func10, Try.ntmps10
  go_wp2_with fail
  go_at_call 22
  with_reducible refine (known_c _).mono ?_
  rintro e w1 ⟨rfl, hb⟩
  have HG1 : Aside0 (w1.heap[w.heap.size]? = some (.cells #[.int .i64 a0] 3 (0, 0))) := ⟨blk_below (blk_alloc (blk_new w _) _) hb⟩
  have HG2 : Aside0 (w1.heap[w.heap.size + 1]? = some (.cells #[.int .i64 a1] 3 (0, 0))) := ⟨by
    have := blk_below (blk_new (w.alloc (.cells #[.int .i64 a0] 3)) (.cells #[.int .i64 a1] 3)) hb
    simpa using this⟩
  have HE1 := Aside0.mk (below_then (((Below.refl w.heap.size w).alloc (Nat.le_refl _) (.cells #[.int .i64 a0] 3)).alloc (by simp) (.cells #[.int .i64 a1] 3)) (by simp; omega) hb)
  clear hb
  have g1 : w1.cell? ⟨w.heap.size, 0, none⟩ = some (.int .i64 a0) := (blk_cell HG1.out 0).trans rfl
  have g2 : w1.cell? ⟨w.heap.size + 1, 0, none⟩ = some (.int .i64 a1) := (blk_cell HG2.out 0).trans rfl
  have z1 : w1.frozen? ⟨w.heap.size, 0, none⟩ = false := blk_frozen HG1.out 0
  have z2 : w1.frozen? ⟨w.heap.size + 1, 0, none⟩ = false := blk_frozen HG2.out 0
  go_wp2_with fail
  go_still_tail 4, (by kernel_rfl)
  still_call (small_still a0 1000 k _ HS1.out)
  still_step
  still_call (small_still a1 100000 b _ HS2.out)
  try refine wpStill_nil ?_
  go_wp2_with fail
  have HB1 : Aside0 (((w1.setCell ⟨w.heap.size, 0, none⟩ (.int .i64 k)).setCell ⟨w.heap.size + 1, 0, none⟩ (.int .i64 b)).drew.heap[w.heap.size]? = some (.cells #[.int .i64 k] 3 (0, 0))) := ⟨(Below.heap_setCell _ ⟨w.heap.size + 1, 0, none⟩ _ w.heap.size (by simp)).trans (blk_put HG1.out 0 _ rfl)⟩
  have HB2 : Aside0 (((w1.setCell ⟨w.heap.size, 0, none⟩ (.int .i64 k)).setCell ⟨w.heap.size + 1, 0, none⟩ (.int .i64 b)).drew.heap[w.heap.size + 1]? = some (.cells #[.int .i64 b] 3 (0, 0))) := ⟨blk_put ((Below.heap_setCell w1 ⟨w.heap.size, 0, none⟩ (.int .i64 k) (w.heap.size + 1) (by simp)).trans HG2.out) 0 _ rfl⟩
  have HE2 := Aside0.mk (pw_below_drewN ((HE1.out.setCell (p := ⟨w.heap.size, 0, none⟩) (Nat.le_refl _) (.int .i64 k)).setCell (p := ⟨w.heap.size + 1, 0, none⟩) (Nat.le_succ _) (.int .i64 b)) 1)
  clear HG1 HG2 HE1 g1 g2 z1 z2
  generalize hw2 : ((w1.setCell ⟨w.heap.size, 0, none⟩ (.int .i64 k)).setCell ⟨w.heap.size + 1, 0, none⟩ (.int .i64 b)).drew = w2 at HB1 HB2 ⊢
  have HE2' : Aside0 (Below w.heap.size w w2) := ⟨hw2 ▸ HE2.out⟩
  clear HE2 hw2
  generalize hgk : w.heap.size = gK at HB1 HB2 ⊢
  generalize hgb : gK + 1 = gB at HB2 ⊢
  clear hgb
  go_at_call 24
  with_reducible refine (small_c a2 30 r w2 HS3.out).mono ?_
  rintro e w3 ⟨rfl, hb⟩
  have HK3 := Aside0.mk (blk_below HB1.out hb)
  have HB3 := Aside0.mk (blk_below HB2.out hb)
  have HE3 := Aside0.mk (below_then HE2'.out HE2'.out.size hb)
  clear hb hgk HB1 HB2 HE2'
  have q1 := Q.out
  go_wp2_with fail
  (try rw [q1])
  clear q1
  obtain ⟨k0, k1, b0, b1⟩ := HK.out
  have HL := Aside0.mk (F.line_is k0 k1 b0 b1 (fun x => wrap64 (wrap64 (k * x) + b)) (fun x => rfl) n (by have := HN.out; omega))
  have HQ : Aside0 ((4 : Int) ≤ (9999999999999 - 0) / ((n : Int) - 1)) := ⟨Int.le_ediv_of_mul_le (by have := HN.out; omega) (by have := HN.out; omega)⟩
  with_reducible refine (sample_by gK gB n (fun x => wrap64 (wrap64 (k * x) + b)) 0 4 w3 (fun w1 x hb => by_calls gK gB k b x w1 ((blk_cell (blk_below HK3.out hb) 0).trans rfl) ((blk_cell (blk_below HB3.out hb) 0).trans rfl)) (by have := HN.out; omega) (by have := HN.out; omega) (by decide) (by decide) (by decide) (by decide) (fun _ => HQ.out)).mono ?_
  rw [HL.out]
  rintro e w4 ⟨v10, rfl, hline⟩
  obtain ⟨A4, c4, rfl, hc4, hX⟩ := C_own58 (lineP_len k b n) (by have := hline.out; rwa [lineP_len] at this)
  have HK4 := Aside0.mk (blk_below HK3.out hline.below)
  have HB4 := Aside0.mk (blk_below HB3.out hline.below)
  have HE4 := Aside0.mk (below_then HE3.out HE3.out.size hline.below)
  have HX4 := Aside0.mk hX
  have HC4 := Aside0.mk hc4
  have HKR := Aside0.mk (And.intro k0 (And.intro k1 (And.intro b0 b1)))
  have HN64 : Aside0 (n ≤ 64) := ⟨by have := HN.out; omega⟩
  clear hc4 hX hline HK3 HB3 HE3 HL HQ HK k0 k1 b0 b1
  go_wp2_with fail
  go_at_call 29
  with_reducible refine (slope_l HKR.out.1 HKR.out.2.1 HKR.out.2.2.1 HKR.out.2.2.2 n HN64.out A4 c4 w4 HX4.out HC4.out).mono ?_
  rintro e w5 ⟨A5, c5, rfl, hc5, hY, hb⟩
  have HK5 := Aside0.mk (blk_below HK4.out hb)
  have HB5 := Aside0.mk (blk_below HB4.out hb)
  have HX5 := Aside0.mk (Kd.C_below HX4.out hb)
  have HE5 := Aside0.mk (below_then HE4.out HE4.out.size hb)
  have HS5 := Aside0.mk hY
  clear hc5 hY hb
  go_wp2_with fail
  go_at_call 30
  with_reducible refine (rate_l HKR.out.1 HKR.out.2.1 HKR.out.2.2.1 HKR.out.2.2.2 n HN64.out A4 c4 w5 HX5.out HC4.out).mono ?_
  rintro e w6 ⟨A6, c6, rfl, hc6, hY, hb⟩
  have HK6 := Aside0.mk (blk_below HK5.out hb)
  have HB6 := Aside0.mk (blk_below HB5.out hb)
  have HX6 := Aside0.mk (Kd.C_below HX5.out hb)
  have HE6 := Aside0.mk (below_then HE5.out HE5.out.size hb)
  have HS6 := Aside0.mk (Kd.C_below HS5.out hb)
  have HR6 := Aside0.mk hY
  clear hc6 hY hb
  have t1 : wrap64 ((n : Int) - 1) = ((n - 1 : Nat) : Int) := by have := HN.out; unfold wrap64; omega
  go_wp2_with fail
  rw [t1]
  clear t1
  go_loopg [13] (n + 1) (fun kq v13 w' => ∃ i : Nat, v13 = .int .i64 (i : Int) ∧ Aside0 (kq + i = n + 1) ∧ Aside0 (i ≤ n) ∧ Aside0 (Below w6.heap.size w6 w'))
  case atStart => exact ⟨0, rfl, ⟨by omega⟩, ⟨by omega⟩, ⟨Below.refl _ _⟩⟩
  case round =>
    obtain ⟨i, rfl, HKq, HI, HBW⟩ := hrel
    cases gk with
    | zero => exact absurd HKq.out (by have := HI.out; omega)
    | succ k1 =>
      by_cases hlt : i < n
      · have hb0 : decide ((i : Int) < (n : Int)) = true := decide_eq_true (by omega)
        have HKw := Aside0.mk (blk_below HK6.out HBW.out)
        have HBw := Aside0.mk (blk_below HB6.out HBW.out)
        have HXw := Aside0.mk (Kd.C_below HX6.out HBW.out)
        have HSw := Aside0.mk (Kd.C_below HS6.out HBW.out)
        have HRw := Aside0.mk (Kd.C_below HR6.out HBW.out)
        obtain ⟨k0, k1', b0, b1⟩ := HKR.out
        have hv := F.vL_rng k0 k1' b0 b1 i (by have := HN.out; omega)
        have hmr := F.mul_rng k0 k1' b0 b1 (4 * (i : Int)) (by omega) (by have := HN.out; omega)
        have hmr2 := F.mul_rng k0 k1' b0 b1 (4 * (i : Int) + 2) (by omega) (by have := HN.out; omega)
        have HYY := Aside0.mk (same_eq (F.whole_fin1 (F.vL k b i) (by omega)))
        have HKK := Aside0.mk (same_eq (F.whole_fin1 k (by omega)))
        have HVV := Aside0.mk (same_eq (F.whole_fin1 (k * (4 * (i : Int) + 2) + b) (by omega)))
        have hrate : 0 < i → b = 0 → fl_quo (fl_of (F.vL k b i)) (fl_of (4 * (i : Int))) = fl_of k := fun h0 hb => by
          have := (F.quo_of k0 k1' b0 b1 (F.vL k b i) k (4 * i) (by omega) (by omega) (by have := HN.out; omega) (by unfold F.vL; rw [hb, show ((4 * i : Nat) : Int) = 4 * (i : Int) by omega, Int.add_zero])).2
          rwa [show ((4 * i : Nat) : Int) = 4 * (i : Int) by omega] at this
        have HRATE := Aside0.mk hrate
        obtain ⟨ad, e1, x0, x1⟩ := at_T58 HXw.out (i : Int) (by omega) (by omega)
        cases e1
        rw [Int.toNat_natCast, show rd_T58 (F.lineP k b n) (i : Int) = ⟨4 * (i : Int), fl_of (F.vL k b i)⟩ from F.lineP_at k b n i hlt] at x0 x1
        simp only [] at x0 x1
        have HX01 := Aside0.mk (And.intro x0 x1)
        obtain ⟨K4, KI, V2, KX, m1, m2, m3, m6, m7, hV2⟩ : ∃ K4 KI V2 KX : Int, wrap64 (k * 4) = K4 ∧ wrap64 (K4 * (i : Int)) = KI ∧ wrap64 (KI + b) = F.vL k b i ∧ wrap64 (k * (4 * (i : Int) + 2)) = KX ∧ wrap64 (KX + b) = V2 ∧ k * (4 * (i : Int) + 2) + b = V2 := by
          refine ⟨k * 4, k * 4 * (i : Int), k * (4 * (i : Int) + 2) + b, k * (4 * (i : Int) + 2), by unfold wrap64; omega, ?_, ?_, ?_, ?_, rfl⟩
          · rw [Int.mul_assoc]; generalize k * (4 * (i : Int)) = z at *; unfold wrap64; omega
          · rw [Int.mul_assoc]; unfold F.vL; generalize k * (4 * (i : Int)) = z at *; unfold wrap64; omega
          · generalize k * (4 * (i : Int) + 2) = z at *; unfold wrap64; omega
          · generalize k * (4 * (i : Int) + 2) = z at *; unfold wrap64; omega
        have m4 : wrap64 (4 * (i : Int)) = 4 * (i : Int) := by have := HN.out; unfold wrap64; omega
        have m5 : wrap64 (4 * (i : Int) + 2) = 4 * (i : Int) + 2 := by have := HN.out; unfold wrap64; omega
        have HM1 := Aside0.mk (And.intro m1 (And.intro m2 m3))
        have HM2 := Aside0.mk (And.intro m4 (And.intro m5 (And.intro m6 m7)))
        rw [hV2] at HVV
        have HV2 := Aside0.mk hV2
        clear hv hmr hmr2 hrate x0 x1 m1 m2 m3 m4 m5 m6 m7 hV2 k0 k1' b0 b1
        have kk : wr.cell? ⟨gK, 0, none⟩ = some (.int .i64 k) := (blk_cell HKw.out 0).trans rfl
        have bb : wr.cell? ⟨gB, 0, none⟩ = some (.int .i64 b) := (blk_cell HBw.out 0).trans rfl
        have p0 : (0 : Int) ≤ (i : Int) := by omega
        have p1 : (i : Int) < (n : Int) := by omega
        have p2 : (i : Int) < 8796093022208 := by have := HN.out; omega
        have t1 : wrap64 ((n : Int) - 1) = ((n - 1 : Nat) : Int) := by have := HN.out; unfold wrap64; omega
        obtain ⟨x0, x1⟩ := HX01.out
        obtain ⟨m1, m2, m3⟩ := HM1.out
        obtain ⟨m4, m5, m6, m7⟩ := HM2.out
        have hyy : (FloatKind.f32.format.order (fl_of (F.vL k b i)) (floatOfInt FloatKind.f32 (F.vL k b i)) != some Ordering.eq) = false := ne_of HYY.out
        have hkk : (FloatKind.f32.format.order (fl_of k) (floatOfInt FloatKind.f32 k) != some Ordering.eq) = false := ne_of HKK.out
        have hvv : (FloatKind.f32.format.order (fl_of V2) (floatOfInt FloatKind.f32 V2) != some Ordering.eq) = false := ne_of HVV.out
        by_cases hi0 : i = 0
        · have c0 : decide (0 < i) = false := decide_eq_false (by omega)
          have hl : i + 1 < n := by have := HN.out; omega
          have HLAST := Aside0.mk hl
          have c1 : decide (i < n - 1) = true := decide_eq_true (by omega)
          obtain ⟨ad5, e1, s0, s1⟩ := at_T58 HSw.out (i : Int) (by omega) (by omega)
          cases e1
          rw [Int.toNat_natCast, show rd_T58 (F.slopeP k (n - 1)) (i : Int) = ⟨4 * (i : Int), fl_of k⟩ from F.slopeP_at k (n - 1) i (by omega)] at s0 s1
          simp only [] at s0 s1
          have p5 : (i : Int) < ((n - 1 : Nat) : Int) := by omega
          have p7 : i < n - 1 := by omega
          have c4' : ((i : Int) == ((n - 1 : Nat) : Int)) = false := by simp; omega
          have c5 : (i == n - 1) = false := by simp; omega
          clear hi0 hl
          go_wp2_with fail
          go_quiet (fail)
          go_wp2_with fail
          go_quiet (fail)
          go_wp2_with fail
          go_quiet (fail)
          go_wp2_with fail
          with_reducible refine (at_l HKR.out.1 HKR.out.2.1 HKR.out.2.2.1 HKR.out.2.2.2 n HN64.out _ c4 i _ hlt (Kd.C_drewN HXw.out _) HC4.out).mono ?_
          rintro e wa ⟨rfl, hba⟩
          have HXa := Aside0.mk (Kd.C_below (Kd.C_drewN HXw.out _) hba)
          have HKa : Aside0 (wa.heap[gK]? = some (.cells #[.int .i64 k] 3 (0, 0))) := ⟨blk_below (show (wr.drewN _).heap[gK]? = _ from HKw.out) hba⟩
          have HBa : Aside0 (wa.heap[gB]? = some (.cells #[.int .i64 b] 3 (0, 0))) := ⟨blk_below (show (wr.drewN _).heap[gB]? = _ from HBw.out) hba⟩
          have HEa : Aside0 (Below w6.heap.size w6 wa) := ⟨below_then (pw_below_drewN HBW.out _) (HBW.out.size) hba⟩
          clear hba x0 x1 kk bb
          go_wp2_with fail
          have hat2 := at_l2 HKR.out.1 HKR.out.2.1 HKR.out.2.2.1 HKR.out.2.2.2 n HN64.out _ c4 i _ HLAST.out HXa.out HC4.out
          rw [HV2.out] at hat2
          with_reducible refine hat2.mono ?_
          clear hat2
          rintro e wb ⟨rfl, hbb⟩
          obtain ⟨ad9, e1, x0, x1⟩ := at_T58 (Kd.C_below HXa.out hbb) (i : Int) (by omega) (by omega)
          cases e1
          rw [Int.toNat_natCast, show rd_T58 (F.lineP k b n) (i : Int) = ⟨4 * (i : Int), fl_of (F.vL k b i)⟩ from F.lineP_at k b n i hlt] at x0 x1
          simp only [] at x0 x1
          have kk : wb.cell? ⟨gK, 0, none⟩ = some (.int .i64 k) := (blk_cell (blk_below HKa.out hbb) 0).trans rfl
          have bb : wb.cell? ⟨gB, 0, none⟩ = some (.int .i64 b) := (blk_cell (blk_below HBa.out hbb) 0).trans rfl
          have HEb : Aside0 (Below w6.heap.size w6 wb) := ⟨below_then HEa.out HEa.out.size hbb⟩
          have hy2 : (FloatKind.f32.format.order (fl_of (F.vL k b i)) (fl_of (F.vL k b i)) != some Ordering.eq) = false := ne_of HYY.out
          clear hbb
          go_wp2_with fail
          go_roundg k1
          case measure => omega
          case rel => exact ⟨i + 1, by simp, ⟨by have := HKq.out; omega⟩, ⟨by omega⟩, HEb⟩
        · have c0 : decide (0 < i) = true := decide_eq_true (by omega)
          obtain ⟨ad6, e1, r0, r1⟩ := at_T58 HRw.out ((i - 1 : Nat) : Int) (by omega) (by omega)
          cases e1
          rw [Int.toNat_natCast, show rd_T58 (F.rateP k b (n - 1)) ((i - 1 : Nat) : Int) = ⟨4 * ((i - 1 + 1 : Nat) : Int), fl_quo (fl_of (F.vL k b (i - 1 + 1))) (fl_of (4 * ((i - 1 + 1 : Nat) : Int)))⟩ from F.rateP_at k b (n - 1) (i - 1) (by omega), show i - 1 + 1 = i by omega] at r0 r1
          simp only [] at r0 r1
          obtain ⟨j, hj⟩ : ∃ j, i - 1 = j := ⟨_, rfl⟩
          rw [hj] at r0 r1
          have t2 : wrap64 ((i : Int) - 1) = ((j : Nat) : Int) := by have := HN.out; unfold wrap64; omega
          have t3 : IntKind.i64.wrap ((i : Int) - 1) = ((j : Nat) : Int) := by rw [i64_wrap]; exact t2
          have p3 : (0 : Int) ≤ ((j : Nat) : Int) := by omega
          have p4 : ((j : Nat) : Int) < ((n - 1 : Nat) : Int) := by omega
          have p6 : j < n - 1 := by omega
          by_cases hl : i + 1 < n
          · have HLAST := Aside0.mk hl
            have c1 : decide (i < n - 1) = true := decide_eq_true (by omega)
            obtain ⟨ad5, e1, s0, s1⟩ := at_T58 HSw.out (i : Int) (by omega) (by omega)
            cases e1
            rw [Int.toNat_natCast, show rd_T58 (F.slopeP k (n - 1)) (i : Int) = ⟨4 * (i : Int), fl_of k⟩ from F.slopeP_at k (n - 1) i (by omega)] at s0 s1
            simp only [] at s0 s1
            have p5 : (i : Int) < ((n - 1 : Nat) : Int) := by omega
            have p7 : i < n - 1 := by omega
            have c4' : ((i : Int) == ((n - 1 : Nat) : Int)) = false := by simp; omega
            have c5 : (i == n - 1) = false := by simp; omega
            by_cases hb : b = 0
            · have c2 : (b == 0) = true := by simp [hb]
              rw [HRATE.out (by omega) hb] at r1
              clear hb hi0 hl hj
              go_wp2_with fail
              go_quiet (fail)
              go_wp2_with fail
              go_quiet (fail)
              go_wp2_with fail
              go_quiet (fail)
              go_wp2_with fail
              with_reducible refine (at_l HKR.out.1 HKR.out.2.1 HKR.out.2.2.1 HKR.out.2.2.2 n HN64.out _ c4 i _ hlt (Kd.C_drewN HXw.out _) HC4.out).mono ?_
              rintro e wa ⟨rfl, hba⟩
              have HXa := Aside0.mk (Kd.C_below (Kd.C_drewN HXw.out _) hba)
              have HKa : Aside0 (wa.heap[gK]? = some (.cells #[.int .i64 k] 3 (0, 0))) := ⟨blk_below (show (wr.drewN _).heap[gK]? = _ from HKw.out) hba⟩
              have HBa : Aside0 (wa.heap[gB]? = some (.cells #[.int .i64 b] 3 (0, 0))) := ⟨blk_below (show (wr.drewN _).heap[gB]? = _ from HBw.out) hba⟩
              have HEa : Aside0 (Below w6.heap.size w6 wa) := ⟨below_then (pw_below_drewN HBW.out _) (HBW.out.size) hba⟩
              clear hba x0 x1 kk bb
              go_wp2_with fail
              have hat2 := at_l2 HKR.out.1 HKR.out.2.1 HKR.out.2.2.1 HKR.out.2.2.2 n HN64.out _ c4 i _ HLAST.out HXa.out HC4.out
              rw [HV2.out] at hat2
              with_reducible refine hat2.mono ?_
              clear hat2
              rintro e wb ⟨rfl, hbb⟩
              obtain ⟨ad9, e1, x0, x1⟩ := at_T58 (Kd.C_below HXa.out hbb) (i : Int) (by omega) (by omega)
              cases e1
              rw [Int.toNat_natCast, show rd_T58 (F.lineP k b n) (i : Int) = ⟨4 * (i : Int), fl_of (F.vL k b i)⟩ from F.lineP_at k b n i hlt] at x0 x1
              simp only [] at x0 x1
              have kk : wb.cell? ⟨gK, 0, none⟩ = some (.int .i64 k) := (blk_cell (blk_below HKa.out hbb) 0).trans rfl
              have bb : wb.cell? ⟨gB, 0, none⟩ = some (.int .i64 b) := (blk_cell (blk_below HBa.out hbb) 0).trans rfl
              have HEb : Aside0 (Below w6.heap.size w6 wb) := ⟨below_then HEa.out HEa.out.size hbb⟩
              have hy2 : (FloatKind.f32.format.order (fl_of (F.vL k b i)) (fl_of (F.vL k b i)) != some Ordering.eq) = false := ne_of HYY.out
              clear hbb
              go_wp2_with fail
              go_roundg k1
              case measure => omega
              case rel => exact ⟨i + 1, by simp, ⟨by have := HKq.out; omega⟩, ⟨by omega⟩, HEb⟩
            · have c2 : (b == 0) = false := by simp [hb]
              clear hb hi0 hl hj
              go_wp2_with fail
              go_quiet (fail)
              go_wp2_with fail
              go_quiet (fail)
              go_wp2_with fail
              go_quiet (fail)
              go_wp2_with fail
              with_reducible refine (at_l HKR.out.1 HKR.out.2.1 HKR.out.2.2.1 HKR.out.2.2.2 n HN64.out _ c4 i _ hlt (Kd.C_drewN HXw.out _) HC4.out).mono ?_
              rintro e wa ⟨rfl, hba⟩
              have HXa := Aside0.mk (Kd.C_below (Kd.C_drewN HXw.out _) hba)
              have HKa : Aside0 (wa.heap[gK]? = some (.cells #[.int .i64 k] 3 (0, 0))) := ⟨blk_below (show (wr.drewN _).heap[gK]? = _ from HKw.out) hba⟩
              have HBa : Aside0 (wa.heap[gB]? = some (.cells #[.int .i64 b] 3 (0, 0))) := ⟨blk_below (show (wr.drewN _).heap[gB]? = _ from HBw.out) hba⟩
              have HEa : Aside0 (Below w6.heap.size w6 wa) := ⟨below_then (pw_below_drewN HBW.out _) (HBW.out.size) hba⟩
              clear hba x0 x1 kk bb
              go_wp2_with fail
              have hat2 := at_l2 HKR.out.1 HKR.out.2.1 HKR.out.2.2.1 HKR.out.2.2.2 n HN64.out _ c4 i _ HLAST.out HXa.out HC4.out
              rw [HV2.out] at hat2
              with_reducible refine hat2.mono ?_
              clear hat2
              rintro e wb ⟨rfl, hbb⟩
              obtain ⟨ad9, e1, x0, x1⟩ := at_T58 (Kd.C_below HXa.out hbb) (i : Int) (by omega) (by omega)
              cases e1
              rw [Int.toNat_natCast, show rd_T58 (F.lineP k b n) (i : Int) = ⟨4 * (i : Int), fl_of (F.vL k b i)⟩ from F.lineP_at k b n i hlt] at x0 x1
              simp only [] at x0 x1
              have kk : wb.cell? ⟨gK, 0, none⟩ = some (.int .i64 k) := (blk_cell (blk_below HKa.out hbb) 0).trans rfl
              have bb : wb.cell? ⟨gB, 0, none⟩ = some (.int .i64 b) := (blk_cell (blk_below HBa.out hbb) 0).trans rfl
              have HEb : Aside0 (Below w6.heap.size w6 wb) := ⟨below_then HEa.out HEa.out.size hbb⟩
              have hy2 : (FloatKind.f32.format.order (fl_of (F.vL k b i)) (fl_of (F.vL k b i)) != some Ordering.eq) = false := ne_of HYY.out
              clear hbb
              go_wp2_with fail
              go_roundg k1
              case measure => omega
              case rel => exact ⟨i + 1, by simp, ⟨by have := HKq.out; omega⟩, ⟨by omega⟩, HEb⟩
          · have HLAST : Aside0 (i + 1 = n) := ⟨by omega⟩
            have c1 : decide (i < n - 1) = false := decide_eq_false (by omega)
            have c4' : ((i : Int) == ((n - 1 : Nat) : Int)) = true := by simp; omega
            have c5 : (i == n - 1) = true := by simp; omega
            by_cases hb : b = 0
            · have c2 : (b == 0) = true := by simp [hb]
              rw [HRATE.out (by omega) hb] at r1
              clear hb hi0 hl hj
              go_wp2_with fail
              go_quiet (fail)
              go_wp2_with fail
              go_quiet (fail)
              go_wp2_with fail
              go_quiet (fail)
              go_wp2_with fail
              with_reducible refine (at_l HKR.out.1 HKR.out.2.1 HKR.out.2.2.1 HKR.out.2.2.2 n HN64.out _ c4 i _ hlt (Kd.C_drewN HXw.out _) HC4.out).mono ?_
              rintro e wa ⟨rfl, hba⟩
              have HXa := Aside0.mk (Kd.C_below (Kd.C_drewN HXw.out _) hba)
              have HKa : Aside0 (wa.heap[gK]? = some (.cells #[.int .i64 k] 3 (0, 0))) := ⟨blk_below (show (wr.drewN _).heap[gK]? = _ from HKw.out) hba⟩
              have HBa : Aside0 (wa.heap[gB]? = some (.cells #[.int .i64 b] 3 (0, 0))) := ⟨blk_below (show (wr.drewN _).heap[gB]? = _ from HBw.out) hba⟩
              have HEa : Aside0 (Below w6.heap.size w6 wa) := ⟨below_then (pw_below_drewN HBW.out _) (HBW.out.size) hba⟩
              clear hba x0 x1 kk bb
              go_wp2_with fail
              have hat2 := at_l3 HKR.out.1 HKR.out.2.1 HKR.out.2.2.1 HKR.out.2.2.2 n HN64.out _ c4 i _ HLAST.out HXa.out HC4.out
              with_reducible refine hat2.mono ?_
              clear hat2
              rintro e wb ⟨rfl, hbb⟩
              obtain ⟨ad9, e1, x0, x1⟩ := at_T58 (Kd.C_below HXa.out hbb) (i : Int) (by omega) (by omega)
              cases e1
              rw [Int.toNat_natCast, show rd_T58 (F.lineP k b n) (i : Int) = ⟨4 * (i : Int), fl_of (F.vL k b i)⟩ from F.lineP_at k b n i hlt] at x0 x1
              simp only [] at x0 x1
              have kk : wb.cell? ⟨gK, 0, none⟩ = some (.int .i64 k) := (blk_cell (blk_below HKa.out hbb) 0).trans rfl
              have bb : wb.cell? ⟨gB, 0, none⟩ = some (.int .i64 b) := (blk_cell (blk_below HBa.out hbb) 0).trans rfl
              have HEb : Aside0 (Below w6.heap.size w6 wb) := ⟨below_then HEa.out HEa.out.size hbb⟩
              have hy2 : (FloatKind.f32.format.order (fl_of (F.vL k b i)) (fl_of (F.vL k b i)) != some Ordering.eq) = false := ne_of HYY.out
              clear hbb
              go_wp2_with fail
              go_roundg k1
              case measure => omega
              case rel => exact ⟨i + 1, by simp, ⟨by have := HKq.out; omega⟩, ⟨by omega⟩, HEb⟩
            · have c2 : (b == 0) = false := by simp [hb]
              clear hb hi0 hl hj
              go_wp2_with fail
              go_quiet (fail)
              go_wp2_with fail
              go_quiet (fail)
              go_wp2_with fail
              go_quiet (fail)
              go_wp2_with fail
              with_reducible refine (at_l HKR.out.1 HKR.out.2.1 HKR.out.2.2.1 HKR.out.2.2.2 n HN64.out _ c4 i _ hlt (Kd.C_drewN HXw.out _) HC4.out).mono ?_
              rintro e wa ⟨rfl, hba⟩
              have HXa := Aside0.mk (Kd.C_below (Kd.C_drewN HXw.out _) hba)
              have HKa : Aside0 (wa.heap[gK]? = some (.cells #[.int .i64 k] 3 (0, 0))) := ⟨blk_below (show (wr.drewN _).heap[gK]? = _ from HKw.out) hba⟩
              have HBa : Aside0 (wa.heap[gB]? = some (.cells #[.int .i64 b] 3 (0, 0))) := ⟨blk_below (show (wr.drewN _).heap[gB]? = _ from HBw.out) hba⟩
              have HEa : Aside0 (Below w6.heap.size w6 wa) := ⟨below_then (pw_below_drewN HBW.out _) (HBW.out.size) hba⟩
              clear hba x0 x1 kk bb
              go_wp2_with fail
              have hat2 := at_l3 HKR.out.1 HKR.out.2.1 HKR.out.2.2.1 HKR.out.2.2.2 n HN64.out _ c4 i _ HLAST.out HXa.out HC4.out
              with_reducible refine hat2.mono ?_
              clear hat2
              rintro e wb ⟨rfl, hbb⟩
              obtain ⟨ad9, e1, x0, x1⟩ := at_T58 (Kd.C_below HXa.out hbb) (i : Int) (by omega) (by omega)
              cases e1
              rw [Int.toNat_natCast, show rd_T58 (F.lineP k b n) (i : Int) = ⟨4 * (i : Int), fl_of (F.vL k b i)⟩ from F.lineP_at k b n i hlt] at x0 x1
              simp only [] at x0 x1
              have kk : wb.cell? ⟨gK, 0, none⟩ = some (.int .i64 k) := (blk_cell (blk_below HKa.out hbb) 0).trans rfl
              have bb : wb.cell? ⟨gB, 0, none⟩ = some (.int .i64 b) := (blk_cell (blk_below HBa.out hbb) 0).trans rfl
              have HEb : Aside0 (Below w6.heap.size w6 wb) := ⟨below_then HEa.out HEa.out.size hbb⟩
              have hy2 : (FloatKind.f32.format.order (fl_of (F.vL k b i)) (fl_of (F.vL k b i)) != some Ordering.eq) = false := ne_of HYY.out
              clear hbb
              go_wp2_with fail
              go_roundg k1
              case measure => omega
              case rel => exact ⟨i + 1, by simp, ⟨by have := HKq.out; omega⟩, ⟨by omega⟩, HEb⟩
      · obtain rfl : i = n := by have := HI.out; omega
        have hb0 : decide ((i : Int) < (i : Int)) = false := decide_eq_false (by omega)
        have HKw := Aside0.mk (blk_below HK6.out HBW.out)
        have HXw := Aside0.mk (Kd.C_below HX6.out HBW.out)
        have HEw := Aside0.mk (below_then HE6.out HE6.out.size HBW.out)
        have kk : wr.cell? ⟨gK, 0, none⟩ = some (.int .i64 k) := (blk_cell HKw.out 0).trans rfl
        have m1 : wrap64 (4 * k) = 4 * k := by have := HKR.out; unfold wrap64; omega
        have m2 : wrap64 (-4 * k) = -4 * k := by have := HKR.out; unfold wrap64; omega
        have t1 : wrap64 ((i : Int) - 1) = ((i - 1 : Nat) : Int) := by have := HN.out; unfold wrap64; omega
        clear HI HKq
        go_wp2_with fail
        have hjm : Calls Try.prog 32 #[.slice A4 i c4, .float .f32 (floatOfInt FloatKind.f32 (max (4 * k) (-4 * k)))] wr (fun e w' => ∃ A' c', e = .returned (.slice A' (i - 1) c') ∧ Below wr.heap.size wr w') := jumps_l HKR.out.1 HKR.out.2.1 HKR.out.2.2.1 HKR.out.2.2.2 i HN64.out A4 c4 wr HXw.out HC4.out
        with_reducible refine hjm.mono ?_
        rintro e wz ⟨A9, c9, rfl, hbz⟩
        have HEz := Aside0.mk (below_then HEw.out HEw.out.size hbz)
        clear hbz hjm
        go_wp2_with fail
        go_ret
        exact ⟨rfl, HEz.out⟩
end Go.Proofs.Ytfhgomcfpmbhnaa.Y
end

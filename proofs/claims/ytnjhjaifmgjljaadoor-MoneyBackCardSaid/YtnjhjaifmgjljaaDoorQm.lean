/- Plain: the plain law of MoneyBack. -/
import Derived.Test.YtnjhjaifmgjljaaDoorPMx68
import Derived.Test.YtnjhjaifmgjljaaDoorQe
import Derived.KernelRfl
set_option linter.unusedSimpArgs false
set_option linter.unusedVariables false
namespace Go.Proofs.YtnjhjaifmgjljaaDoor.Pure
open Go.RowKit Go.Proofs.YtnjhjaifmgjljaaDoor.PM Go.Proofs.YtnjhjaifmgjljaaDoor.Q Go.Proofs.YtnjhjaifmgjljaaDoorW.PrintWords Go.Proofs.YtnjhjaifmgjljaaDoorW.PrintLast Go.Proofs.YtnjhjaifmgjljaaDoorW.PrintMore
theorem known_so : Ev (fun k => levylaw1_known.f k) true := Ev.of (fun k => levylaw1_known.mono k) (k := 100) (by kernel_rfl)
theorem Ev.add (a b c d : Int) : Ev (fun k => money_Add.f k a b c d) (chosenS 1 [⟨a, b⟩, ⟨c, d⟩] (wrap64 (b + d))) := ⟨13, fun k hk => sides 1 (by simp) ⟨a, b⟩ [⟨c, d⟩] (by simp) _ k (by omega)⟩
theorem Ev.sub (a b c d : Int) : Ev (fun k => money_Sub.f k a b c d) (chosenS 1 [⟨a, b⟩, ⟨c, d⟩] (wrap64 (b - d))) := ⟨13, fun k hk => sides 1 (by simp) ⟨a, b⟩ [⟨c, d⟩] (by simp) _ k (by omega)⟩
theorem Ev.neg (a b : Int) : Ev (fun k => money_Neg.f k a b) (chosenS 1 [⟨a, b⟩] (wrap64 (-b))) := ⟨13, fun k hk => sides 1 (by simp) ⟨a, b⟩ [] (by simp) _ k (by omega)⟩
theorem Ev.min (a b c d : Int) : Ev (fun k => money_Min.f k a b c d) (chosenS 2 [⟨a, b⟩, ⟨c, d⟩] (mn b d)) := ⟨13, fun k hk => sides 2 (by simp) ⟨a, b⟩ [⟨c, d⟩] (by simp) _ k (by omega)⟩
theorem Ev.max (a b c d : Int) : Ev (fun k => money_Max.f k a b c d) (chosenS 2 [⟨a, b⟩, ⟨c, d⟩] (mx b d)) := ⟨13, fun k hk => sides 2 (by simp) ⟨a, b⟩ [⟨c, d⟩] (by simp) _ k (by omega)⟩
theorem chosen_two (call K b d n : Int) (hc : call = 1 ∨ call = 2) (hK : K = 1 ∨ K = 2) (hb : vld K b = true) (hd : vld K d = true) : chosenS call [⟨K, b⟩, ⟨K, d⟩] n = boundS K n := by
  rcases hK with rfl | rfl <;> rcases hc with rfl | rfl <;> simp [chosenS, flt, hb, hd, same, takes, rd_T23, rd]
theorem chosen_one (K b n : Int) (hK : K = 1 ∨ K = 2) (hb : vld K b = true) : chosenS 1 [⟨K, b⟩] n = boundS K n := by
  rcases hK with rfl | rfl <;> simp [chosenS, flt, hb, same, takes, rd_T23, rd]
theorem chosen_bad (a b c d n : Int) (h : ¬ (vld a b = true ∧ vld c d = true ∧ a = c ∧ (a = 1 ∨ a = 2))) : (chosenS 1 [⟨a, b⟩, ⟨c, d⟩] n).1 = 6 := by
  unfold chosenS
  cases hf : flt [⟨a, b⟩, ⟨c, d⟩] with
  | some v =>
    simp only [flt] at hf
    repeat' split at hf
    all_goals first | (cases hf; rfl) | (cases hf; assumption) | (cases hf)
  | none =>
    have h1 := flt_none hf ⟨a, b⟩ (by simp)
    have h2 := flt_none hf ⟨c, d⟩ (by simp)
    have : same 1 (rd_T23 [⟨a, b⟩, ⟨c, d⟩] 0).f0 [⟨a, b⟩, ⟨c, d⟩] = false := by
      simp [same, takes, rd_T23, rd]
      intro h3 h4
      exact absurd ⟨h1.2.2, h2.2.2, h4.symm, h3⟩ h
    simp [this]
theorem back_good (K M b d : Int) (hK : K = 1 ∨ K = 2) (hM : M ≤ 9999999999999) (hM0 : 0 ≤ M) (hv : ∀ n, vld K n = decide (-M ≤ n ∧ n ≤ M)) (hb : -M ≤ b ∧ b ≤ M) (hd : -M ≤ d ∧ d ≤ M) :
    Ev (fun k => levylaw1_MoneyBack.j0 k false K b K d (boundS K (wrap64 (b + d))).1 (boundS K (wrap64 (b + d))).2) true := by
  have ok : ∀ n, -M ≤ n → n ≤ M → boundS K n = (K, n) := fun n h0 h1 => by unfold boundS; rw [hv, decide_eq_true ⟨h0, h1⟩]; rfl
  have vb : vld K b = true := by rw [hv]; exact decide_eq_true hb
  have vd : vld K d = true := by rw [hv]; exact decide_eq_true hd
  have vnb : vld K (-b) = true := by rw [hv]; exact decide_eq_true (by omega)
  have vnd : vld K (-d) = true := by rw [hv]; exact decide_eq_true (by omega)
  have w : ∀ x : Int, -20000000000000 ≤ x → x ≤ 20000000000000 → wrap64 x = x := fun x h0 h1 => by unfold wrap64; omega
  have s1 := Ev.add K d K b
  rw [chosen_two 1 K d b _ (by simp) hK vd vb, w _ (by omega) (by omega)] at s1
  have s2 := Ev.neg K b
  rw [chosen_one K b _ hK vb, w _ (by omega) (by omega), ok _ (by omega) (by omega)] at s2
  have s3 := Ev.neg K (-b)
  rw [chosen_one K (-b) _ hK vnb, w _ (by omega) (by omega), ok _ (by omega) (by omega)] at s3
  have s4 := Ev.sub K b K d
  rw [chosen_two 1 K b d _ (by simp) hK vb vd, w _ (by omega) (by omega)] at s4
  have s5 := Ev.neg K d
  rw [chosen_one K d _ hK vd, w _ (by omega) (by omega), ok _ (by omega) (by omega)] at s5
  have s6 := Ev.add K b K (-d)
  rw [chosen_two 1 K b (-d) _ (by simp) hK vb vnd, w _ (by omega) (by omega)] at s6
  have s7 := Ev.min K b K d
  rw [chosen_two 2 K b d _ (by simp) hK vb vd, ok _ (by unfold mn; omega) (by unfold mn; omega)] at s7
  have s8 := Ev.max K b K d
  rw [chosen_two 2 K b d _ (by simp) hK vb vd, ok _ (by unfold mx; omega) (by unfold mx; omega)] at s8
  rw [w (b + d) (by omega) (by omega)]
  have e1 : d + b = b + d := by omega
  have e2 : - -b = b := by omega
  have e3 : b + -d = b - d := by omega
  rw [e1] at s1
  rw [e2] at s3
  rw [e3] at s6
  have last : Ev (fun k => levylaw1_MoneyBack.j1 k false K b K d (boundS K (b + d)).1 (boundS K (b + d)).2) true := by
    have hmm : (mn b d == mx b d) = (b == d) := by
      by_cases h : b = d
      · subst h; simp [mn, mx]
      · rw [beq_eq_false_iff_ne.mpr h, beq_eq_false_iff_ne.mpr (by unfold mn mx; omega)]
    refine Ev.step (f := fun k => (money_Min.f k K b K d).bind fun x => (money_Max.f k K b K d).bind fun y => if ((x.1 == y.1 && (x.2 == y.2)) != (K == K && (b == d))) = true then some false else if (boundS K (b + d)).1 = 6 then some true else (money_Sub.f k (boundS K (b + d)).1 (boundS K (b + d)).2 K d).bind fun z => some (z.1 == K && (z.2 == b))) (fun k => ?_) (Ev.bind s7 (Ev.bind s8 ?_))
    · simp only [levylaw1_MoneyBack.j1]; rw [if_neg (by decide)]
    · refine Ev.congr (f := fun k => if (boundS K (b + d)).1 = 6 then some true else (money_Sub.f k (boundS K (b + d)).1 (boundS K (b + d)).2 K d).bind fun z => some (z.1 == K && (z.2 == b))) (fun k => ?_) ?_
      · rw [if_neg]; simp [hmm]
      · by_cases h : -M ≤ b + d ∧ b + d ≤ M
        · rw [ok _ h.1 h.2]
          have s9 := Ev.sub K (b + d) K d
          rw [chosen_two 1 K (b + d) d _ (by simp) hK (by rw [hv]; exact decide_eq_true h) vd, w _ (by omega) (by omega), ok _ (by omega) (by omega)] at s9
          exact Ev.congr (fun k => if_neg (by simp only; omega)) (Ev.bind s9 (Ev.congr (fun k => by simp) (Ev.now true)))
        · have : boundS K (b + d) = (6, 1) := by unfold boundS; rw [hv, decide_eq_false h]; rfl
          rw [this]
          exact Ev.congr (fun k => if_pos rfl) (Ev.now true)
  refine Ev.step (f := fun k => (money_Add.f k K d K b).bind fun x => if (!((boundS K (b + d)).1 == x.1) || (!((boundS K (b + d)).2 == x.2))) = true then levylaw1_MoneyBack.j1 k true K b K d (boundS K (b + d)).1 (boundS K (b + d)).2 else
      (money_Neg.f k K b).bind fun y => (money_Neg.f k y.1 y.2).bind fun z => if (!(z.1 == K) || (!(z.2 == b))) = true then levylaw1_MoneyBack.j1 k true K b K d (boundS K (b + d)).1 (boundS K (b + d)).2 else
      (money_Sub.f k K b K d).bind fun u => (money_Neg.f k K d).bind fun v => (money_Add.f k K b v.1 v.2).bind fun t => levylaw1_MoneyBack.j1 k (!(u.1 == t.1) || (!(u.2 == t.2))) K b K d (boundS K (b + d)).1 (boundS K (b + d)).2) (fun k => ?_)
    (Ev.bind s1 (Ev.congr (fun k => if_neg (by simp)) (Ev.bind s2 (Ev.bind s3 (Ev.congr (fun k => if_neg (by simp)) (Ev.bind s4 (Ev.bind s5 (Ev.bind s6 (Ev.congr (fun k => ?_) last)))))))))
  · simp only [levylaw1_MoneyBack.j0]; rw [if_neg (by decide)]
  · simp
theorem MoneyBack (x0 x1 : S23) : ∃ k, levylaw1_MoneyBack.f k x0.f0 x0.f1 x1.f0 x1.f1 = some true := by
  obtain ⟨a, b⟩ := x0
  obtain ⟨c, d⟩ := x1
  refine Ev.rounds ?_
  unfold levylaw1_MoneyBack.f
  refine Ev.bind known_so (Ev.congr (fun k => if_pos rfl) (Ev.bind (Ev.add a b c d) ?_))
  simp only [money_valid, Option.bind_some]
  by_cases h : vld a b = true ∧ vld c d = true ∧ a = c ∧ (a = 1 ∨ a = 2)
  · obtain ⟨h1, h2, h3, h4⟩ := h
    subst h3
    have e : (if vld a b = true then (if vld a d = true then (if a = a then (if a = 1 then false else (a != 2)) else true) else true) else true) = false := by
      rw [if_pos h1, if_pos h2, if_pos rfl]; rcases h4 with h4 | h4 <;> subst h4 <;> rfl
    rw [chosen_two 1 a b d _ (by simp) h4 h1 h2]
    refine Ev.congr (f := fun k => levylaw1_MoneyBack.j0 k false a b a d (boundS a (wrap64 (b + d))).1 (boundS a (wrap64 (b + d))).2) (fun k => ?_) ?_
    · rw [if_pos h1, if_pos h2, if_pos rfl]; rcases h4 with h4 | h4 <;> subst h4 <;> simp
    · rcases h4 with h4 | h4 <;> subst h4
      · have hv : ∀ n, vld 1 n = decide (-9999999999999 ≤ n ∧ n ≤ 9999999999999) := fun n => by simp [vld]
        exact back_good 1 9999999999999 b d (by simp) (by omega) (by omega) hv (by simpa [hv] using h1) (by simpa [hv] using h2)
      · have hv : ∀ n, vld 2 n = decide (-1000000000 ≤ n ∧ n ≤ 1000000000) := fun n => by simp [vld]
        exact back_good 2 1000000000 b d (by simp) (by omega) (by omega) hv (by simpa [hv] using h1) (by simpa [hv] using h2)
  · have hs := chosen_bad a b c d (wrap64 (b + d)) h
    refine Ev.congr (f := fun k => levylaw1_MoneyBack.j0 k true a b c d (chosenS 1 [⟨a, b⟩, ⟨c, d⟩] (wrap64 (b + d))).1 (chosenS 1 [⟨a, b⟩, ⟨c, d⟩] (wrap64 (b + d))).2) (fun k => ?_) (Ev.step (f := fun _ => some true) (fun k => by simp [levylaw1_MoneyBack.j0, hs]) (Ev.now true))
    by_cases h1 : vld a b = true
    · rw [if_pos h1]
      by_cases h2 : vld c d = true
      · rw [if_pos h2]
        by_cases h3 : a = c
        · rw [if_pos h3]
          have h4 : a ≠ 1 := fun h4 => h ⟨h1, h2, h3, Or.inl h4⟩
          have h5 : a ≠ 2 := fun h5 => h ⟨h1, h2, h3, Or.inr h5⟩
          rw [if_neg h4, show (a != 2) = true from bne_iff_ne.mpr h5]
        · rw [if_neg h3]
      · rw [if_neg h2]
    · rw [if_neg h1]
end Go.Proofs.YtnjhjaifmgjljaaDoor.Pure

-- Part 5 of the texts of the claim CL (wrote by programs: words of the kit's print.sh, printed functions; and my own texts; joined by wip/tools/pack.py).
import Derived.Test.YtfhgomcfpmbhnaaCL4
import Derived.Laws.FloatBits

section
namespace Go.Proofs.Ytfhgomcfpmbhnaa.F
open Go.Proofs.Ytfhgomcfpmbhnaa.Y Go.Proofs.Ytfhgomcfpmbhnaa.PS Ieee
set_option linter.unusedVariables false
set_option linter.unusedSimpArgs false
def cutE (n d : Nat) : Nat := n / 2 ^ d + if 2 ^ d < 2 * (n % 2 ^ d) ∨ (2 ^ d = 2 * (n % 2 ^ d) ∧ n / 2 ^ d % 2 = 1) then 1 else 0
theorem shl_one (d : Nat) : 1 <<< d = 2 ^ d := by rw [Nat.shiftLeft_eq, Nat.one_mul]
theorem cut_even (neg : Bool) (n d : Nat) : Toward.even.cut neg n d = cutE n d := by
  unfold Toward.cut cutE
  simp only [shl_one]
  have hlt := Nat.lt_log2_self (n := n)
  by_cases h : d ≤ n.log2 + 2
  · rw [Nat.min_eq_left h]
    congr 1
    by_cases h1 : 2 ^ d < 2 * (n % 2 ^ d)
    · simp [h1]
    · by_cases h2 : 2 ^ d = 2 * (n % 2 ^ d)
      · by_cases h3 : n / 2 ^ d % 2 = 1
        · simp [h1, ← h2, h3]
        · simp [h1, ← h2, h3]
      · simp [h1, h2]
  · have hle : n.log2 + 2 ≤ d := by omega
    rw [Nat.min_eq_right hle]
    have e1 : 2 ^ (n.log2 + 2) = 2 * 2 ^ (n.log2 + 1) := by rw [show n.log2 + 2 = (n.log2 + 1) + 1 from rfl, Nat.pow_succ, Nat.mul_comm]
    have e2 : 2 ^ (n.log2 + 2) ≤ 2 ^ d := Nat.pow_le_pow_right (by decide) hle
    have a1 : n / 2 ^ (n.log2 + 2) = 0 := Nat.div_eq_of_lt (by omega)
    have a2 : n % 2 ^ (n.log2 + 2) = n := Nat.mod_eq_of_lt (by omega)
    have a3 : n / 2 ^ d = 0 := Nat.div_eq_of_lt (by omega)
    have a4 : n % 2 ^ d = n := Nat.mod_eq_of_lt (by omega)
    rw [a1, a2, a3, a4]
    have h1 : ¬ 2 ^ (n.log2 + 2) < 2 * n := by omega
    have h2 : ¬ 2 ^ (n.log2 + 2) = 2 * n := by omega
    have h3 : ¬ 2 ^ d < 2 * n := by omega
    have h4 : ¬ 2 ^ d = 2 * n := by omega
    simp [h1, h3, h4]
theorem cutE_zero (n : Nat) : cutE n 0 = n := by
  unfold cutE
  simp [Nat.mod_one]
theorem cutE_scale (n d j : Nat) : cutE (n * 2 ^ j) (d + j) = cutE n d := by
  have hp : 0 < 2 ^ j := Nat.pow_pos (by decide)
  have hd : 0 < 2 ^ d := Nat.pow_pos (by decide)
  unfold cutE
  rw [Nat.pow_add, Nat.mul_div_mul_right _ _ hp, Nat.mul_mod_mul_right]
  have e1 : (2 ^ d * 2 ^ j < 2 * (n % 2 ^ d * 2 ^ j)) ↔ (2 ^ d < 2 * (n % 2 ^ d)) := by
    rw [← Nat.mul_assoc]; exact Nat.mul_lt_mul_right hp
  have e2 : (2 ^ d * 2 ^ j = 2 * (n % 2 ^ d * 2 ^ j)) ↔ (2 ^ d = 2 * (n % 2 ^ d)) := by
    rw [← Nat.mul_assoc]; exact Nat.mul_left_inj (by omega)
  simp only [e1, e2]
theorem cutE_whole (n d : Nat) : cutE (n * 2 ^ d) d = n := by
  have := cutE_scale n 0 d
  rw [Nat.zero_add, cutE_zero] at this
  exact this
theorem cutE_rest (m d k f : Nat) (hd : 1 ≤ d) (h0 : 0 < f) (h1 : f < 2 ^ k) : cutE (m * 2 ^ k + f) (d + k) = m / 2 ^ d + if 2 ^ d ≤ 2 * (m % 2 ^ d) then 1 else 0 := by
  have hp : 0 < 2 ^ k := Nat.pow_pos (by decide)
  have hD : 0 < 2 ^ d := Nat.pow_pos (by decide)
  obtain ⟨d', rfl⟩ : ∃ d', d = d' + 1 := ⟨d - 1, by omega⟩
  have e0 : 2 ^ (d' + 1) = 2 * 2 ^ d' := by rw [Nat.pow_succ, Nat.mul_comm]
  have q : (m * 2 ^ k + f) / 2 ^ (d' + 1 + k) = m / 2 ^ (d' + 1) := by
    rw [Nat.pow_add, Nat.mul_comm (2 ^ (d' + 1)), ← Nat.div_div_eq_div_mul, Nat.mul_comm m, Nat.mul_add_div hp, Nat.div_eq_of_lt h1, Nat.add_zero]
  have r : (m * 2 ^ k + f) % 2 ^ (d' + 1 + k) = m % 2 ^ (d' + 1) * 2 ^ k + f := by
    rw [Nat.pow_add, Nat.mul_comm (2 ^ (d' + 1)), Nat.mod_mul, Nat.mul_comm m, Nat.mul_add_mod, Nat.mod_eq_of_lt h1, Nat.mul_add_div hp, Nat.div_eq_of_lt h1, Nat.add_zero, Nat.add_comm, Nat.mul_comm]
  unfold cutE
  rw [q, r]
  congr 1
  have hpw : 2 ^ (d' + 1 + k) = 2 ^ (d' + 1) * 2 ^ k := Nat.pow_add _ _ _
  rw [hpw, e0]
  generalize m % (2 * 2 ^ d') = r0
  generalize 2 ^ d' = D
  generalize 2 ^ k = K at *
  by_cases hc : 2 * D ≤ 2 * r0
  · have h2 : D ≤ r0 := by omega
    have h3 : D * K ≤ r0 * K := Nat.mul_le_mul_right _ h2
    rw [if_pos hc, if_pos (.inl (by rw [Nat.mul_assoc]; omega))]
  · have h2 : r0 + 1 ≤ D := by omega
    have h3 : (r0 + 1) * K ≤ D * K := Nat.mul_le_mul_right _ h2
    rw [Nat.add_mul, Nat.one_mul] at h3
    rw [if_neg hc, if_neg (fun h => ?_)]
    rw [Nat.mul_assoc] at h
    omega
def lastP (m : Nat) (e : Int) : Int := max (e + m.log2 - 23) (-149)
def keptN (m : Nat) (e : Int) : Nat := cutE (m * 2 ^ (e - lastP m e).toNat) (lastP m e - e).toNat
theorem nearest_is (s : Bool) (m : Nat) (e : Int) (hm : m ≠ 0) : single.nearest s m e = single.word s (min ((lastP m e + 149).toNat * 8388608 + keptN m e) 2139095040) := by
  unfold Format.nearest
  rw [if_neg hm]
  simp only [cut_even, Nat.shiftLeft_eq]
  have h1 : single.leastPlace = -149 := by decide
  have h2 : single.binade = 8388608 := by decide
  have h3 : single.infRung = 2139095040 := by decide
  have h4 : (single.fractionBits : Int) = 23 := by decide
  rw [h1, h2, h3, h4]
  unfold keptN lastP
  rw [show ∀ x : Int, x - -149 = x + 149 from fun x => by omega]
theorem log2_scale (m k : Nat) (hm : m ≠ 0) : (m * 2 ^ k).log2 = m.log2 + k := by
  have h0 : m * 2 ^ k ≠ 0 := Nat.mul_ne_zero hm (Nat.pos_iff_ne_zero.1 (Nat.pow_pos (by decide)))
  refine (Nat.log2_eq_iff h0).2 ⟨?_, ?_⟩
  · rw [Nat.pow_add]; exact Nat.mul_le_mul_right _ (Nat.log2_self_le hm)
  · rw [show m.log2 + k + 1 = (m.log2 + 1) + k by omega, Nat.pow_add]
    exact Nat.mul_lt_mul_of_pos_right Nat.lt_log2_self (Nat.pow_pos (by decide))
theorem lastP_scale (m k : Nat) (e : Int) (hm : m ≠ 0) : lastP (m * 2 ^ k) (e - k) = lastP m e := by
  unfold lastP
  rw [log2_scale m k hm]
  congr 1; push_cast; omega
theorem keptN_scale (m k : Nat) (e : Int) (hm : m ≠ 0) : keptN (m * 2 ^ k) (e - k) = keptN m e := by
  unfold keptN
  rw [lastP_scale m k e hm]
  generalize lastP m e = L
  by_cases h : e ≤ L
  · rw [show (e - L).toNat = 0 by omega, show (e - k - L).toNat = 0 by omega, Nat.pow_zero, Nat.mul_one, Nat.mul_one, show (L - (e - k)).toNat = (L - e).toNat + k by omega, cutE_scale]
  · by_cases h2 : e - k ≤ L
    · rw [show (e - k - L).toNat = 0 by omega, Nat.pow_zero, Nat.mul_one, show (L - e).toNat = 0 by omega, cutE_zero]
      obtain ⟨a, ha⟩ : ∃ a : Nat, e - L = a := ⟨(e - L).toNat, by omega⟩
      obtain ⟨b, hb⟩ : ∃ b : Nat, k = a + b := ⟨k - a, by omega⟩
      rw [show (e - L).toNat = a by omega, show (L - (e - k)).toNat = b by omega, hb, Nat.pow_add, ← Nat.mul_assoc, cutE_whole]
    · rw [show (L - e).toNat = 0 by omega, show (L - (e - k)).toNat = 0 by omega, cutE_zero, cutE_zero, Nat.mul_assoc, ← Nat.pow_add]
      congr 2; omega
theorem nearest_scale (s : Bool) (m k : Nat) (e : Int) : single.nearest s (m * 2 ^ k) (e - k) = single.nearest s m e := by
  by_cases hm : m = 0
  · subst hm; simp [Format.nearest]
  · have hmk : m * 2 ^ k ≠ 0 := Nat.mul_ne_zero hm (Nat.pos_iff_ne_zero.1 (Nat.pow_pos (by decide)))
    rw [nearest_is s _ _ hmk, nearest_is s _ _ hm, lastP_scale m k e hm, keptN_scale m k e hm]
theorem log2_rest (m k f : Nat) (hm : m ≠ 0) (hf : f < 2 ^ k) : (m * 2 ^ k + f).log2 = m.log2 + k := by
  have hp : 0 < 2 ^ k := Nat.pow_pos (by decide)
  have h0 : m * 2 ^ k + f ≠ 0 := by have := Nat.mul_ne_zero hm (Nat.pos_iff_ne_zero.1 hp); omega
  refine (Nat.log2_eq_iff h0).2 ⟨?_, ?_⟩
  · rw [Nat.pow_add]; exact Nat.le_trans (Nat.mul_le_mul_right _ (Nat.log2_self_le hm)) (Nat.le_add_right _ _)
  · rw [show m.log2 + k + 1 = (m.log2 + 1) + k by omega, Nat.pow_add]
    have h1 : m + 1 ≤ 2 ^ (m.log2 + 1) := Nat.lt_log2_self
    have h2 : (m + 1) * 2 ^ k ≤ 2 ^ (m.log2 + 1) * 2 ^ k := Nat.mul_le_mul_right _ h1
    rw [Nat.add_mul, Nat.one_mul] at h2
    omega
def stickyN (m : Nat) (e : Int) : Nat := (lastP m e + 149).toNat * 8388608 + (m / 2 ^ (lastP m e - e).toNat + if 2 ^ (lastP m e - e).toNat ≤ 2 * (m % 2 ^ (lastP m e - e).toNat) then 1 else 0)
theorem nearest_rest (s : Bool) (m k f : Nat) (e : Int) (hm : 16777216 ≤ m) (h0 : 0 < f) (h1 : f < 2 ^ k) : single.nearest s (m * 2 ^ k + f) (e - k) = single.word s (min (stickyN m e) 2139095040) := by
  have hm0 : m ≠ 0 := by omega
  have hl : 24 ≤ m.log2 := by
    have := (Nat.le_log2 hm0 (k := 24)).2 (by omega)
    omega
  have hne : m * 2 ^ k + f ≠ 0 := by omega
  rw [nearest_is s _ _ hne]
  have hL : lastP (m * 2 ^ k + f) (e - k) = lastP m e := by
    unfold lastP
    rw [log2_rest m k f hm0 h1]
    congr 1; push_cast; omega
  have hd : e + 1 ≤ lastP m e := by unfold lastP; omega
  unfold keptN stickyN
  rw [hL]
  generalize lastP m e = L at hd
  rw [show (e - k - L).toNat = 0 by omega, Nat.pow_zero, Nat.mul_one, show (L - (e - k)).toNat = (L - e).toNat + k by omega, cutE_rest m _ k f (by omega) h0 h1]
end Go.Proofs.Ytfhgomcfpmbhnaa.F
end

section
namespace Go.Proofs.Ytfhgomcfpmbhnaa.F
open Go.Proofs.Ytfhgomcfpmbhnaa.Y Go.Proofs.Ytfhgomcfpmbhnaa.PS Ieee
set_option linter.unusedVariables false
set_option linter.unusedSimpArgs false
theorem sg_word (s : Bool) (b : Nat) : sgS s (b : Int) = ((single.word s b : Nat) : Int) := by
  unfold sgS Format.word
  have : single.signWeight = 2147483648 := by decide
  rw [this]
  cases s <;> simp
  omega
theorem gS_word (s : Bool) (m1 : Nat) (L : Int) (h : m1 ≤ 16777216) (hL : -149 ≤ L) (hs : m1 < 8388608 → L = -149) :
    gS s (m1 : Int) L = ((single.word s (min ((L + 149).toNat * 8388608 + m1) 2139095040) : Nat) : Int) := by
  rw [← sg_word]
  unfold gS fS
  by_cases h1 : (m1 : Int) = 16777216
  · rw [if_pos h1, if_neg (by decide)]
    by_cases h2 : L + 1 + 150 ≥ 255
    · rw [if_pos h2]; congr 1; omega
    · rw [if_neg h2]; congr 1; omega
  · rw [if_neg h1]
    by_cases h2 : (m1 : Int) < 8388608
    · rw [if_pos h2]; have := hs (by omega); congr 1; omega
    · rw [if_neg h2]
      by_cases h3 : L + 150 ≥ 255
      · rw [if_pos h3]; congr 1; omega
      · rw [if_neg h3]; congr 1; omega
theorem pow_cast (k : Nat) : (2 : Int) ^ k = ((2 ^ k : Nat) : Int) := by simp
theorem up_false (m k : Nat) (hk : 1 ≤ k) : upS (m : Int) (2 ^ k) false = decide (2 ^ k < 2 * (m % 2 ^ k) ∨ (2 ^ k = 2 * (m % 2 ^ k) ∧ m / 2 ^ k % 2 = 1)) := by
  obtain ⟨j, rfl⟩ : ∃ j, k = j + 1 := ⟨k - 1, by omega⟩
  have e0 : 2 ^ (j + 1) = 2 * 2 ^ j := by rw [Nat.pow_succ, Nat.mul_comm]
  unfold upS
  rw [pow_cast]
  have hr : (m : Int) % ((2 ^ (j + 1) : Nat) : Int) = ((m % 2 ^ (j + 1) : Nat) : Int) := (Int.natCast_emod _ _).symm
  have hq : (m : Int) / ((2 ^ (j + 1) : Nat) : Int) = ((m / 2 ^ (j + 1) : Nat) : Int) := (Int.natCast_ediv _ _).symm
  rw [hr, hq]
  generalize m % 2 ^ (j + 1) = r
  generalize m / 2 ^ (j + 1) = q
  rw [e0]
  generalize 2 ^ j = H
  rw [Bool.eq_iff_iff]
  simp only [Bool.or_eq_true, Bool.and_eq_true, decide_eq_true_eq, beq_iff_eq, Bool.false_or]
  omega
theorem up_true (m k : Nat) (hk : 1 ≤ k) : upS (m : Int) (2 ^ k) true = decide (2 ^ k ≤ 2 * (m % 2 ^ k)) := by
  obtain ⟨j, rfl⟩ : ∃ j, k = j + 1 := ⟨k - 1, by omega⟩
  have e0 : 2 ^ (j + 1) = 2 * 2 ^ j := by rw [Nat.pow_succ, Nat.mul_comm]
  unfold upS
  rw [pow_cast]
  have hr : (m : Int) % ((2 ^ (j + 1) : Nat) : Int) = ((m % 2 ^ (j + 1) : Nat) : Int) := (Int.natCast_emod _ _).symm
  rw [hr]
  generalize m % 2 ^ (j + 1) = r
  rw [e0]
  generalize 2 ^ j = H
  rw [Bool.eq_iff_iff]
  simp only [Bool.or_eq_true, Bool.and_eq_true, decide_eq_true_eq, beq_iff_eq, Bool.true_or, and_true]
  omega
theorem bl_nat (m : Nat) (hm : m ≠ 0) : bl (m : Int) = m.log2 + 1 := by
  unfold bl
  have : ¬ (m : Int) = 0 := by omega
  simp [this, hm]
theorem sh_last (m : Nat) (e : Int) (hm : m ≠ 0) : shS (bl m) e = lastP m e - e := by
  have hb := bl_nat m hm
  rw [hb]
  unfold shS lastP
  split <;> omega
theorem m1_false (m : Nat) (e : Int) (hm : m ≠ 0) : m1S m (lastP m e - e) false = ((keptN m e : Nat) : Int) := by
  unfold m1S keptN
  by_cases h : 0 < lastP m e - e
  · rw [if_pos h, up_false m _ (by omega), show (e - lastP m e).toNat = 0 by omega, Nat.pow_zero, Nat.mul_one]
    unfold cutE
    rw [pow_cast, ← Int.natCast_ediv]
    by_cases hc : 2 ^ (lastP m e - e).toNat < 2 * (m % 2 ^ (lastP m e - e).toNat) ∨ (2 ^ (lastP m e - e).toNat = 2 * (m % 2 ^ (lastP m e - e).toNat) ∧ m / 2 ^ (lastP m e - e).toNat % 2 = 1)
    · rw [if_pos (decide_eq_true hc), if_pos hc]; push_cast; rfl
    · rw [if_neg (by rw [decide_eq_false hc]; decide), if_neg hc]; push_cast; omega
  · rw [if_neg h, show (lastP m e - e).toNat = 0 by omega, cutE_zero, show -(lastP m e - e) = e - lastP m e by omega, pow_cast]
    push_cast; rfl
theorem kept_le (m : Nat) (e : Int) (hm : m ≠ 0) : keptN m e ≤ 16777216 ∧ (keptN m e < 8388608 → lastP m e = -149) ∧ -149 ≤ lastP m e := by
  have hlt := Nat.lt_log2_self (n := m)
  have hle := Nat.log2_self_le hm
  have hL1 : e + m.log2 - 23 ≤ lastP m e := by unfold lastP; omega
  have hL2 : lastP m e = -149 ∨ lastP m e = e + m.log2 - 23 := by unfold lastP; omega
  have hL3 : -149 ≤ lastP m e := by unfold lastP; omega
  unfold keptN
  generalize lastP m e = L at *
  by_cases h : e ≤ L
  · obtain ⟨d, hd⟩ : ∃ d : Nat, L - e = d := ⟨(L - e).toNat, by omega⟩
    rw [show (e - L).toNat = 0 by omega, Nat.pow_zero, Nat.mul_one, show (L - e).toNat = d by omega]
    have h2 : m < 16777216 * 2 ^ d := by
      have : 2 ^ (m.log2 + 1) ≤ 2 ^ (24 + d) := Nat.pow_le_pow_right (by decide) (by omega)
      rw [Nat.pow_add 2 24 d] at this
      omega
    have h3 : m / 2 ^ d < 16777216 := Nat.div_lt_of_lt_mul (by rw [Nat.mul_comm]; exact h2)
    refine ⟨?_, fun hk => ?_, hL3⟩
    · have : ∀ p : Prop, [Decidable p] → (if p then 1 else 0 : Nat) ≤ 1 := fun p _ => by split <;> omega
      unfold cutE
      exact Nat.le_trans (Nat.add_le_add_left (this _) _) h3
    · rcases hL2 with h4 | h4
      · exact h4
      · exfalso
        have h5 : 2 ^ (23 + d) ≤ m := Nat.le_trans (Nat.pow_le_pow_right (by decide) (by omega)) hle
        rw [Nat.pow_add] at h5
        have h6 : 8388608 ≤ m / 2 ^ d := (Nat.le_div_iff_mul_le (Nat.pow_pos (by decide))).2 h5
        unfold cutE at hk
        omega
  · obtain ⟨d, hd⟩ : ∃ d : Nat, e - L = d := ⟨(e - L).toNat, by omega⟩
    rw [show (e - L).toNat = d by omega, show (L - e).toNat = 0 by omega, cutE_zero]
    refine ⟨?_, fun hk => ?_, hL3⟩
    · have h2 : m * 2 ^ d ≤ 2 ^ (m.log2 + 1) * 2 ^ d := Nat.mul_le_mul_right _ (by omega)
      rw [← Nat.pow_add] at h2
      exact Nat.le_trans h2 (Nat.le_trans (Nat.pow_le_pow_right (by decide) (by omega : m.log2 + 1 + d ≤ 24)) (by decide))
    · rcases hL2 with h4 | h4
      · exact h4
      · exfalso
        have h5 : 2 ^ m.log2 * 2 ^ d ≤ m * 2 ^ d := Nat.mul_le_mul_right _ hle
        rw [← Nat.pow_add, show m.log2 + d = 23 by omega] at h5
        omega
theorem rr_false (s : Bool) (m : Nat) (e : Int) : rrS s m e (bl m) false = ((single.nearest s m e : Nat) : Int) := by
  by_cases hm : m = 0
  · subst hm
    have hb : bl ((0 : Nat) : Int) = 0 := rfl
    unfold rrS
    rw [hb]
    have hn : single.nearest s 0 e = single.word s 0 := by simp [Format.nearest]
    rw [hn, ← sg_word]
    by_cases h : 0 < shS 0 e
    · rw [if_pos h]; rfl
    · rw [if_neg h]
      have : m1S ((0 : Nat) : Int) (shS 0 e) false = 0 := by unfold m1S; rw [if_neg h]; simp
      rw [this]
      rfl
  · obtain ⟨k1, k2, k3⟩ := kept_le m e hm
    rw [nearest_is s m e hm]
    unfold rrS
    rw [sh_last m e hm]
    by_cases h : bl m < lastP m e - e
    · rw [if_pos h]
      have hlt := Nat.lt_log2_self (n := m)
      have hb := bl_nat m hm
      rw [hb] at h
      have h2 : lastP m e = -149 := by unfold lastP at h ⊢; omega
      have h0 : keptN m e = 0 := by
        unfold keptN
        rw [show (e - lastP m e).toNat = 0 by omega, Nat.pow_zero, Nat.mul_one]
        obtain ⟨d, hd⟩ : ∃ d : Nat, lastP m e - e = d + 1 := ⟨(lastP m e - e).toNat - 1, by omega⟩
        rw [show (lastP m e - e).toNat = d + 1 by omega]
        have h3 : 2 ^ (m.log2 + 1) ≤ 2 ^ d := Nat.pow_le_pow_right (by decide) (by omega)
        have h4 : 2 ^ (d + 1) = 2 * 2 ^ d := by rw [Nat.pow_succ, Nat.mul_comm]
        unfold cutE
        rw [Nat.div_eq_of_lt (by omega), Nat.mod_eq_of_lt (by omega), if_neg (by omega)]
      rw [h0, h2, ← sg_word]
      rfl
    · rw [if_neg h, m1_false m e hm, show e + (lastP m e - e) = lastP m e by omega]
      exact gS_word s _ _ k1 k3 k2
theorem m1_true (m : Nat) (e : Int) (hd : 1 ≤ lastP m e - e) : m1S m (lastP m e - e) true = ((m / 2 ^ (lastP m e - e).toNat + if 2 ^ (lastP m e - e).toNat ≤ 2 * (m % 2 ^ (lastP m e - e).toNat) then 1 else 0 : Nat) : Int) := by
  unfold m1S
  rw [if_pos (by omega), up_true m _ (by omega), pow_cast, ← Int.natCast_ediv]
  by_cases hc : 2 ^ (lastP m e - e).toNat ≤ 2 * (m % 2 ^ (lastP m e - e).toNat)
  · rw [if_pos (decide_eq_true hc), if_pos hc]; push_cast; rfl
  · rw [if_neg (by rw [decide_eq_false hc]; decide), if_neg hc]; push_cast; omega
theorem rr_true (s : Bool) (m : Nat) (e : Int) (hm : 16777216 ≤ m) : rrS s m e (bl m) true = ((single.word s (min (stickyN m e) 2139095040) : Nat) : Int) := by
  have hm0 : m ≠ 0 := by omega
  have hl : 24 ≤ m.log2 := by
    have := (Nat.le_log2 hm0 (k := 24)).2 (by omega)
    omega
  have hlt := Nat.lt_log2_self (n := m)
  have hle := Nat.log2_self_le hm0
  have hb := bl_nat m hm0
  have hL2 : lastP m e = -149 ∨ lastP m e = e + m.log2 - 23 := by unfold lastP; omega
  have hL1 : e + m.log2 - 23 ≤ lastP m e := by unfold lastP; omega
  have hd : 1 ≤ lastP m e - e := by unfold lastP; omega
  have hL3 : -149 ≤ lastP m e := by unfold lastP; omega
  unfold rrS
  rw [sh_last m e hm0]
  unfold stickyN
  by_cases h : bl m < lastP m e - e
  · rw [if_pos h]
    rw [hb] at h
    have h2 : lastP m e = -149 := by omega
    obtain ⟨d, hdd⟩ : ∃ d : Nat, lastP m e - e = d + 1 := ⟨(lastP m e - e).toNat - 1, by omega⟩
    rw [show (lastP m e - e).toNat = d + 1 by omega, h2]
    have h3 : 2 ^ (m.log2 + 1) ≤ 2 ^ d := Nat.pow_le_pow_right (by decide) (by omega)
    have h4 : 2 ^ (d + 1) = 2 * 2 ^ d := by rw [Nat.pow_succ, Nat.mul_comm]
    rw [Nat.div_eq_of_lt (by omega), Nat.mod_eq_of_lt (by omega), if_neg (by omega), ← sg_word]
    rfl
  · rw [if_neg h, m1_true m e hd, show e + (lastP m e - e) = lastP m e by omega]
    refine gS_word s _ _ ?_ hL3 fun hk => ?_
    · obtain ⟨d, hdd⟩ : ∃ d : Nat, lastP m e - e = d := ⟨(lastP m e - e).toNat, by omega⟩
      rw [show (lastP m e - e).toNat = d by omega]
      have h2 : m < 16777216 * 2 ^ d := by
        have : 2 ^ (m.log2 + 1) ≤ 2 ^ (24 + d) := Nat.pow_le_pow_right (by decide) (by omega)
        rw [Nat.pow_add 2 24 d] at this
        omega
      have h3 : m / 2 ^ d < 16777216 := Nat.div_lt_of_lt_mul (by rw [Nat.mul_comm]; exact h2)
      have : ∀ p : Prop, [Decidable p] → (if p then 1 else 0 : Nat) ≤ 1 := fun p _ => by split <;> omega
      exact Nat.le_trans (Nat.add_le_add_left (this _) _) h3
    · rcases hL2 with h4 | h4
      · exact h4
      · exfalso
        obtain ⟨d, hdd⟩ : ∃ d : Nat, lastP m e - e = d := ⟨(lastP m e - e).toNat, by omega⟩
        rw [show (lastP m e - e).toNat = d by omega] at hk
        have h5 : 2 ^ (23 + d) ≤ m := Nat.le_trans (Nat.pow_le_pow_right (by decide) (by omega)) hle
        rw [Nat.pow_add] at h5
        have h6 : 8388608 ≤ m / 2 ^ d := (Nat.le_div_iff_mul_le (Nat.pow_pos (by decide))).2 h5
        omega
end Go.Proofs.Ytfhgomcfpmbhnaa.F
end

section
namespace Go.Proofs.Ytfhgomcfpmbhnaa.F
open Go Ieee
theorem cutE_mono (n n' d : Nat) (h : n ≤ n') : cutE n d ≤ cutE n' d := by
  unfold cutE
  have hp : 0 < 2 ^ d := Nat.two_pow_pos d
  generalize 2 ^ d = p at hp
  have h1 : n / p ≤ n' / p := Nat.div_le_div_right h
  by_cases he : n / p = n' / p
  · have e1 := Nat.div_add_mod n p
    have e2 := Nat.div_add_mod n' p
    rw [he] at e1 ⊢
    have h2 : n % p ≤ n' % p := by omega
    split <;> split <;> omega
  · split <;> split <;> omega
def rung (m : Nat) (e : Int) : Nat := if m = 0 then 0 else (lastP m e + 149).toNat * 8388608 + keptN m e
theorem rung_mono (m m' : Nat) (e : Int) (h : m ≤ m') : rung m e ≤ rung m' e := by
  unfold rung
  by_cases h0 : m = 0
  · rw [if_pos h0]; exact Nat.zero_le _
  · have h0' : m' ≠ 0 := by omega
    rw [if_neg h0, if_neg h0']
    have hl : m.log2 ≤ m'.log2 := by
      have := (Nat.le_log2 h0').2 (Nat.le_trans (Nat.log2_self_le h0) h)
      exact this
    obtain ⟨a1, a2, a3⟩ := kept_le m e h0
    obtain ⟨b1, b2, b3⟩ := kept_le m' e h0'
    have hp : lastP m e ≤ lastP m' e := by unfold lastP; omega
    by_cases hq : lastP m e = lastP m' e
    · have : keptN m e ≤ keptN m' e := by
        unfold keptN
        rw [hq]
        exact cutE_mono _ _ _ (Nat.mul_le_mul_right _ h)
      rw [hq]
      omega
    · have hk : 8388608 ≤ keptN m' e := by
        rcases Nat.lt_or_ge (keptN m' e) 8388608 with hlt | hge
        · have := b2 hlt
          omega
        · exact hge
      have : (lastP m e + 149).toNat + 1 ≤ (lastP m' e + 149).toNat := by omega
      omega
theorem nearest_rung (s : Bool) (m : Nat) (e : Int) (hm : m ≠ 0) : single.nearest s m e = single.word s (min (rung m e) 2139095040) := by
  rw [nearest_is s m e hm]
  unfold rung
  rw [if_neg hm]
end Go.Proofs.Ytfhgomcfpmbhnaa.F
end

section
namespace Go.Proofs.Ytfhgomcfpmbhnaa.F
open Go.Proofs.Ytfhgomcfpmbhnaa.Y Go.Proofs.Ytfhgomcfpmbhnaa.PS Ieee
open Go.RowKit Go.Proofs.YtfhgomcfpmbhnaaW.PrintWords Go.Proofs.YtfhgomcfpmbhnaaW.PrintMore
set_option linter.unusedVariables false
set_option linter.unusedSimpArgs false
def sX (x : Nat) : Bool := decide (2147483648 ≤ x)
def mX (x : Nat) : Nat := if x % 2147483648 / 8388608 = 0 then x % 8388608 else x % 8388608 + 8388608
def eX (x : Nat) : Int := if x % 2147483648 / 8388608 = 0 then -149 else ((x % 2147483648 / 8388608 : Nat) : Int) - 150
theorem k1 : single.signWeight = 2147483648 := by decide
theorem k2 : single.binade = 8388608 := by decide
theorem k3 : single.infRung = 2139095040 := by decide
theorem k4 : single.leastPlace = -149 := by decide
theorem sX_is (x : Nat) (h : x < 4294967296) : (x / 2147483648 % 2 == 1) = sX x := by
  unfold sX
  rw [Bool.eq_iff_iff]
  simp only [beq_iff_eq, decide_eq_true_eq]
  omega
theorem read_fin (x : Nat) (h : x < 4294967296) (hf : x % 2147483648 < 2139095040) : single.read x = .number (sX x) (mX x) (eX x) := by
  unfold Format.read
  rw [k1, k2, k3, k4, sX_is x h]
  simp only []
  by_cases h1 : x % 2147483648 < 8388608
  · rw [if_pos h1]
    have : x % 2147483648 / 8388608 = 0 := by omega
    unfold mX eX
    rw [if_pos this, if_pos this]
    congr 1; omega
  · rw [if_neg h1, if_pos hf]
    have : ¬ x % 2147483648 / 8388608 = 0 := by omega
    unfold mX eX
    rw [if_neg this, if_neg this]
    congr 1
    · omega
    · omega
theorem read_inf (x : Nat) (h : x < 4294967296) (hf : x % 2147483648 = 2139095040) : single.read x = .infinity (sX x) := by
  unfold Format.read
  rw [k1, k2, k3, k4, sX_is x h]
  simp only []
  rw [if_neg (by omega), if_neg (by omega), if_pos hf]
theorem read_nan (x : Nat) (h : x < 4294967296) (hf : 2139095040 < x % 2147483648) : single.read x = .nan (sX x) (x % 2147483648 - 2139095040) := by
  unfold Format.read
  rw [k1, k2, k3, k4, sX_is x h]
  simp only []
  rw [if_neg (by omega), if_neg (by omega), if_neg (by omega)]
theorem m_lt (x : Nat) : mX x < 16777216 := by unfold mX; split <;> omega
theorem e_in (x : Nat) (hf : x % 2147483648 < 2139095040) : -149 ≤ eX x ∧ eX x ≤ 104 := by unfold eX; split <;> omega
theorem m_big (x : Nat) : eX x = -149 ∨ 8388608 ≤ mX x := by unfold eX mX; split <;> omega
theorem parts_is (x : Nat) (h : x < 4294967296) : levyref17_parts.f (x : Int) = some (sX x, (mX x : Int), eX x) := by
  unfold levyref17_parts.f
  have e1 : Int.tmod (x : Int) 2147483648 = ((x % 2147483648 : Nat) : Int) := by rw [Int.tmod_eq_emod_of_nonneg (by omega)]; omega
  have e2 : Int.tmod (x : Int) 8388608 = ((x % 8388608 : Nat) : Int) := by rw [Int.tmod_eq_emod_of_nonneg (by omega)]; omega
  rw [e1, e2]
  have e3 : wrap64 (((x % 2147483648 : Nat) : Int) / 8388608) = ((x % 2147483648 / 8388608 : Nat) : Int) := by unfold wrap64; omega
  have e4 : IntKind.u64.wrap ((x % 8388608 : Nat) : Int) = ((x % 8388608 : Nat) : Int) := u64_id _ (by omega) (by omega)
  have e5 : IntKind.u64.wrap (((x % 8388608 : Nat) : Int) + 8388608) = ((x % 8388608 : Nat) : Int) + 8388608 := u64_id _ (by omega) (by omega)
  have e6 : wrap64 (((x % 2147483648 / 8388608 : Nat) : Int) - 150) = ((x % 2147483648 / 8388608 : Nat) : Int) - 150 := by unfold wrap64; omega
  have e7 : decide ((x : Int) ≥ 2147483648) = sX x := by unfold sX; rw [Bool.eq_iff_iff]; simp only [decide_eq_true_eq]; omega
  rw [e3, e4, e5, e6, e7]
  unfold mX eX
  by_cases hc : x % 2147483648 / 8388608 = 0
  · rw [if_pos (by omega), if_pos hc, if_pos hc]
  · rw [if_neg (by omega), if_neg hc, if_neg hc]; congr 2;
theorem nan_is (x : Nat) : levyref17_NaN.f (x : Int) = some (decide (2139095040 < x % 2147483648)) := by
  unfold levyref17_NaN.f
  rw [Int.tmod_eq_emod_of_nonneg (by omega)]
  refine congrArg some ?_
  rw [Bool.eq_iff_iff]; simp only [decide_eq_true_eq]; omega
theorem fin_is (x : Nat) : levyref17_Finite.f (x : Int) = some (decide (x % 2147483648 < 2139095040)) := by
  unfold levyref17_Finite.f
  rw [Int.tmod_eq_emod_of_nonneg (by omega)]
  refine congrArg some ?_
  rw [Bool.eq_iff_iff]; simp only [decide_eq_true_eq]; omega
theorem rounded_false (s : Bool) (m : Nat) (e : Int) (h : m < 9223372036854775808) (h0 : -400 ≤ e) (h1 : e ≤ 400) : levyref17_rounded.f s (m : Int) e false = some ((single.nearest s m e : Nat) : Int) := by
  unfold levyref17_rounded.f
  rw [if_pos ⟨by omega, by omega, h0, h1, .inl (by omega)⟩, rr_false]
theorem rounded_whole (s : Bool) (m : Nat) (h : m ≤ 9223372036854775808) : levyref17_rounded.f s (m : Int) 0 false = some ((single.nearest s m 0 : Nat) : Int) := by
  unfold levyref17_rounded.f
  rw [if_pos ⟨by omega, by omega, by decide, by decide, .inr (by decide)⟩, rr_false]
theorem rounded_true (s : Bool) (m : Nat) (e : Int) (hm : 16777216 ≤ m) (h : m < 9223372036854775808) (h0 : -400 ≤ e) (h1 : e ≤ 400) (k f : Nat) (hf0 : 0 < f) (hf1 : f < 2 ^ k) : levyref17_rounded.f s (m : Int) e true = some ((single.nearest s (m * 2 ^ k + f) (e - k) : Nat) : Int) := by
  unfold levyref17_rounded.f
  rw [if_pos ⟨by omega, by omega, h0, h1, .inl (by omega)⟩, rr_true s m e hm, nearest_rest s m k f e hm hf0 hf1]
def sumD (s : Bool) (a : Nat) (i : Int) (t : Bool) (b : Nat) (j : Int) : Datum := Datum.number (if signed s a (i - min i j).toNat + signed t b (j - min i j).toNat = 0 then s && t else signed s a (i - min i j).toNat + signed t b (j - min i j).toNat < 0) (signed s a (i - min i j).toNat + signed t b (j - min i j).toNat).natAbs (min i j)
theorem sumD_comm (s : Bool) (a : Nat) (i : Int) (t : Bool) (b : Nat) (j : Int) : sumD s a i t b j = sumD t b j s a i := by
  unfold sumD
  rw [Int.min_comm i j, Int.add_comm, Bool.and_comm]
theorem write_sum (s : Bool) (a : Nat) (i : Int) (t : Bool) (b : Nat) (j : Int) (h : j ≤ i) : single.write (sumD s a i t b j) = if s = t then single.nearest s (a * 2 ^ (i - j).toNat + b) j else if a * 2 ^ (i - j).toNat = b then 0 else if b < a * 2 ^ (i - j).toNat then single.nearest s (a * 2 ^ (i - j).toNat - b) j else single.nearest t (b - a * 2 ^ (i - j).toNat) j := by
  unfold sumD Format.write signed
  rw [Int.min_eq_right h]
  simp only [Nat.shiftLeft_eq, Int.sub_self, Int.toNat_zero, Nat.pow_zero, Nat.mul_one]
  generalize a * 2 ^ (i - j).toNat = M
  have hz : single.nearest false 0 j = 0 := by simp [Format.nearest, Format.word]
  cases s <;> cases t
  · simp only [if_true, if_false, Bool.false_eq_true]
    rw [show ((M : Int) + b).natAbs = M + b by omega]
    congr 1
    split
    · rfl
    · rw [decide_eq_false (by omega)]
  · simp only [if_true, if_false, Bool.false_eq_true]
    by_cases h1 : M = b
    · rw [if_pos h1, if_pos (by omega), show ((M : Int) + -(b : Int)).natAbs = 0 by omega]; exact hz
    · rw [if_neg h1, if_neg (by omega)]
      by_cases h2 : b < M
      · rw [if_pos h2, decide_eq_false (by omega), show ((M : Int) + -(b : Int)).natAbs = M - b by omega]
      · rw [if_neg h2, decide_eq_true (by omega), show ((M : Int) + -(b : Int)).natAbs = b - M by omega]
  · simp only [if_true, if_false, Bool.true_eq_false, Bool.false_eq_true]
    by_cases h1 : M = b
    · rw [if_pos h1, if_pos (by omega), show (-(M : Int) + (b : Int)).natAbs = 0 by omega]; exact hz
    · rw [if_neg h1, if_neg (by omega)]
      by_cases h2 : b < M
      · rw [if_pos h2, decide_eq_true (by omega), show (-(M : Int) + (b : Int)).natAbs = M - b by omega]
      · rw [if_neg h2, decide_eq_false (by omega), show (-(M : Int) + (b : Int)).natAbs = b - M by omega]
  · simp only [if_true]
    rw [show (-(M : Int) + -(b : Int)).natAbs = M + b by omega]
    congr 1
    split
    · rfl
    · rw [decide_eq_true (by omega)]
theorem add_j2 (k : Nat) (s : Bool) (i : Int) (t : Bool) (A B : Nat) (more : Bool) (hA : A < 4611686018427387904) (hB : B < 4611686018427387904) (hi0 : -149 ≤ i) (hi1 : i ≤ 104) :
    levyref17_Add.j2 (k + 2) s i t A B more = if s = t then levyref17_rounded.f s ((A + B : Nat) : Int) (i - 38) more else if A = B ∧ more = false then some 0 else if B ≤ A then (if more then levyref17_rounded.f s (IntKind.u64.wrap (((A - B : Nat) : Int) - 1)) (i - 38) true else levyref17_rounded.f s ((A - B : Nat) : Int) (i - 38) false) else levyref17_rounded.f t ((B - A : Nat) : Int) (i - 38) false := by
  have hb : ∀ o : Option Int, (o.bind fun x => some x) = o := fun o => by cases o <;> rfl
  rw [levyref17_Add.j2]
  rw [show wrap64 (i - 38) = i - 38 by unfold wrap64; omega, show IntKind.u64.wrap ((A : Int) + B) = ((A + B : Nat) : Int) by rw [u64_id _ (by omega) (by omega)]; omega]
  simp only [hb]
  by_cases hs : s = t
  · rw [if_pos hs, if_pos (by simp [hs])]
  · rw [if_neg hs, if_neg (by simpa using hs)]
    simp only [levyref17_Add.j3]
    simp only [hb]
    by_cases h1 : A = B
    · subst h1
      rw [if_pos rfl]
      cases more with
      | false => simp
      | true =>
        simp only [Bool.not_true, Bool.false_eq_true, if_false, if_true, ge_iff_le, Int.le_refl, and_false, Nat.le_refl, Int.sub_self, Nat.sub_self]
        rfl
    · rw [if_neg (by omega), if_neg (by decide), if_neg (show ¬ (A = B ∧ more = false) from fun h => h1 h.1)]
      by_cases h2 : B ≤ A
      · rw [if_pos (show (A : Int) ≥ B by omega), if_pos h2]
        rw [show IntKind.u64.wrap ((A : Int) - B) = ((A - B : Nat) : Int) by rw [u64_id _ (by omega) (by omega)]; omega]
      · rw [if_neg (show ¬ (A : Int) ≥ B by omega), if_neg h2]
        rw [show IntKind.u64.wrap ((B : Int) - A) = ((B - A : Nat) : Int) by rw [u64_id _ (by omega) (by omega)]; omega]
theorem pow_nat (k : Nat) : (2 : Int) ^ k = ((2 ^ k : Nat) : Int) := by simp
theorem pow_le_of {a b : Nat} (h : a ≤ b) : 2 ^ a ≤ 2 ^ b := Nat.pow_le_pow_right (by decide) h
theorem shl_u64 (x n : Nat) (h : n ≤ 64) (hx : x * 2 ^ n < 18446744073709551616) : shl .u64 (x : Int) (n : Int) = ((x * 2 ^ n : Nat) : Int) := by
  unfold shl
  rw [show min (n : Int).toNat IntKind.u64.bits = n by show min n 64 = n; omega, pow_nat, u64_id _ (by omega) (by omega)]
  push_cast; rfl
theorem add_j1 (k : Nat) (s : Bool) (a : Nat) (t : Bool) (b : Nat) (j : Int) (d : Nat) (ha : a < 16777216) (hb : b < 16777216) (hj : -149 ≤ j) (hi : j + d ≤ 104) :
    levyref17_Add.j1 (k + 1) s a (j + d) t b j = levyref17_Add.j2 k s (j + d) t ((a * 274877906944 : Nat) : Int) ((b * 2 ^ (38 - d) / 2 ^ (d - 38) : Nat) : Int) (decide (0 < b % 2 ^ (d - 38))) := by
  rw [levyref17_Add.j1, show j + d - j = (d : Int) by omega]
  have hA : IntKind.u64.wrap ((a : Int) * 274877906944) = ((a * 274877906944 : Nat) : Int) := by rw [u64_id _ (by omega) (by omega)]; omega
  rw [hA, show wrap64 (d : Int) = d by unfold wrap64; omega]
  by_cases h1 : d ≤ 38
  · rw [if_pos (by omega), show wrap64 (38 - (d : Int)) = ((38 - d : Nat) : Int) by unfold wrap64; omega, u64_id _ (by omega) (by omega), if_pos (by omega)]
    have hp : b * 2 ^ (38 - d) < 18446744073709551616 := by
      have h2 : b * 2 ^ (38 - d) ≤ b * 2 ^ 38 := Nat.mul_le_mul_left _ (pow_le_of (by omega))
      omega
    have h0 : d - 38 = 0 := by omega
    have e0 : decide (0 < b % 2 ^ (d - 38)) = false := decide_eq_false (by rw [h0, Nat.pow_zero, Nat.mod_one]; decide)
    rw [shl_u64 b (38 - d) (by omega) hp, e0, h0, Nat.pow_zero, Nat.div_one]
  · rw [if_neg (by omega), show wrap64 ((d : Int) - 38) = ((d - 38 : Nat) : Int) by unfold wrap64; omega, show 38 - d = 0 by omega, Nat.pow_zero, Nat.mul_one]
    by_cases h2 : d - 38 < 30
    · rw [if_pos (by omega), u64_id ((d - 38 : Nat) : Int) (by omega) (by omega), if_pos (by omega)]
      have hp : 2 ^ (d - 38) ≤ 2 ^ 30 := pow_le_of (by omega)
      have hq : 0 < 2 ^ (d - 38) := Nat.pow_pos (by decide)
      have hs := shl_u64 1 (d - 38) (by omega) (by omega)
      rw [Nat.one_mul] at hs
      rw [show shl .u64 1 ((d - 38 : Nat) : Int) = ((2 ^ (d - 38) : Nat) : Int) from hs, if_neg (by omega)]
      have e1 : Int.tdiv (b : Int) ((2 ^ (d - 38) : Nat) : Int) = ((b / 2 ^ (d - 38) : Nat) : Int) := by rw [Int.tdiv_eq_ediv_of_nonneg (by omega), Int.natCast_ediv]
      have e2 : Int.tmod (b : Int) ((2 ^ (d - 38) : Nat) : Int) = ((b % 2 ^ (d - 38) : Nat) : Int) := by rw [Int.tmod_eq_emod_of_nonneg (by omega), Int.natCast_emod]
      have h3 : b / 2 ^ (d - 38) ≤ b := Nat.div_le_self _ _
      rw [e1, e2, u64_id ((b / 2 ^ (d - 38) : Nat) : Int) (Int.natCast_nonneg _) (by generalize b / 2 ^ (d - 38) = z at *; omega)]
      congr 1
      rw [Bool.eq_iff_iff]; simp only [decide_eq_true_eq]
      generalize b % 2 ^ (d - 38) = z
      omega
    · rw [if_neg (by omega)]
      have hp : 2 ^ 30 ≤ 2 ^ (d - 38) := pow_le_of (by omega)
      have e1 : b / 2 ^ (d - 38) = 0 := Nat.div_eq_of_lt (by omega)
      have e2 : b % 2 ^ (d - 38) = b := Nat.mod_eq_of_lt (by omega)
      have e3 : decide (0 < b % 2 ^ (d - 38)) = decide ((b : Int) > 0) := by
        rw [Bool.eq_iff_iff]; simp only [decide_eq_true_eq]; rw [e2]; omega
      rw [e3, e1]
      rfl
theorem nearest_zero (s : Bool) (e : Int) : single.nearest s 0 e = single.word s 0 := by simp [Format.nearest]
theorem add_big (k : Nat) (s : Bool) (a : Nat) (t : Bool) (b : Nat) (j : Int) (d : Nat) (ha : a < 16777216) (hb : b < 16777216) (hj : -149 ≤ j) (hi : j + d ≤ 104) (hbig : d = 0 ∨ 8388608 ≤ a) :
    levyref17_Add.j1 (k + 3) s a (j + d) t b j = some ((single.write (sumD s a (j + d) t b j) : Nat) : Int) := by
  rw [write_sum s a (j + d) t b j (by omega), show (j + d - j).toNat = d by omega, show k + 3 = (k + 2) + 1 from rfl, add_j1 (k + 2) s a t b j d ha hb hj hi]
  by_cases h1 : d ≤ 38
  · have h0 : d - 38 = 0 := by omega
    have e0 : decide (0 < b % 2 ^ (d - 38)) = false := decide_eq_false (by rw [h0, Nat.pow_zero, Nat.mod_one]; decide)
    rw [e0, h0, Nat.pow_zero, Nat.div_one]
    obtain ⟨c, hc⟩ : ∃ c, 38 = d + c := ⟨38 - d, by omega⟩
    have hP : 0 < 2 ^ c := Nat.pow_pos (by decide)
    have hA : a * 274877906944 = a * 2 ^ d * 2 ^ c := by rw [Nat.mul_assoc, ← Nat.pow_add, ← hc]
    have hB0 : b * 2 ^ c ≤ b * 2 ^ 38 := Nat.mul_le_mul_left _ (pow_le_of (by omega))
    have hB : b * 2 ^ c < 4611686018427387904 := by omega
    have hAl : a * 2 ^ d * 2 ^ c < 4611686018427387904 := by rw [← hA]; omega
    rw [show 38 - d = c by omega, add_j2 k s (j + d) t _ _ false (by omega) hB (by omega) hi, hA]
    generalize a * 2 ^ d = M at *
    have hj2 : j + (d : Int) - 38 = j - c := by omega
    rw [hj2]
    by_cases hs : s = t
    · rw [if_pos hs, if_pos hs, rounded_false s _ _ (by omega) (by omega) (by omega), ← Nat.add_mul, nearest_scale]
    · rw [if_neg hs, if_neg hs]
      by_cases h2 : M = b
      · rw [if_pos ⟨by rw [h2], rfl⟩, if_pos h2]; rfl
      · have h3 : ¬ M * 2 ^ c = b * 2 ^ c := fun h => h2 (Nat.eq_of_mul_eq_mul_right hP h)
        rw [if_neg (fun h => h3 h.1), if_neg h2]
        by_cases h4 : b < M
        · have h5 : b * 2 ^ c ≤ M * 2 ^ c := Nat.mul_le_mul_right _ (by omega)
          rw [if_pos h5, if_neg (by decide), if_pos h4, rounded_false s _ _ (by omega) (by omega) (by omega), ← Nat.sub_mul, nearest_scale]
        · have h5 : M * 2 ^ c ≤ b * 2 ^ c := Nat.mul_le_mul_right _ (by omega)
          rw [if_neg (by omega), if_neg h4, rounded_false t _ _ (by omega) (by omega) (by omega), ← Nat.sub_mul, nearest_scale]
  · obtain ⟨c, hc⟩ : ∃ c, d = 38 + c := ⟨d - 38, by omega⟩
    have hbig2 : 8388608 ≤ a := by omega
    have hP : 0 < 2 ^ c := Nat.pow_pos (by decide)
    have hA : a * 2 ^ d = a * 274877906944 * 2 ^ c := by rw [hc, Nat.pow_add, Nat.mul_assoc]
    have hbq : b / 2 ^ c ≤ b := Nat.div_le_self _ _
    have hbd : b = b / 2 ^ c * 2 ^ c + b % 2 ^ c := by rw [Nat.mul_comm]; exact (Nat.div_add_mod _ _).symm
    have hbr : b % 2 ^ c < 2 ^ c := Nat.mod_lt _ hP
    have hj2 : j + (d : Int) - 38 - c = j := by omega
    have hA0 : 2305843009213693952 ≤ a * 274877906944 := by omega
    have hA1 : a * 274877906944 < 4611686018427387904 := by omega
    rw [show 38 - d = 0 by omega, Nat.pow_zero, Nat.mul_one, show d - 38 = c by omega, add_j2 k s (j + d) t _ _ _ (by omega) (by omega) (by omega) hi, hA]
    generalize a * 274877906944 = A at *
    generalize hB : b / 2 ^ c = B at *
    generalize hF : b % 2 ^ c = f at *
    generalize hPP : 2 ^ c = P at *
    have hMP : A ≤ A * P := Nat.le_mul_of_pos_right _ hP
    by_cases hs : s = t
    · rw [if_pos hs, if_pos hs]
      by_cases hf : f = 0
      · rw [decide_eq_false (by omega), rounded_false s _ _ (by omega) (by omega) (by omega)]
        have hn := nearest_scale s (A + B) c (j + d - 38)
        rw [hPP, hj2] at hn
        rw [show A * P + b = (A + B) * P by rw [Nat.add_mul]; omega, hn]
      · rw [decide_eq_true (by omega)]
        have hn := rounded_true s (A + B) (j + d - 38) (by omega) (by omega) (by omega) (by omega) c f (by omega) (by omega)
        rw [hPP, hj2] at hn
        rw [show A * P + b = (A + B) * P + f by rw [Nat.add_mul]; omega, hn]
    · have q1 : ¬ A = B := by omega
      have q2 : B ≤ A := by omega
      have q3 : ¬ A * P = b := by omega
      have q4 : b < A * P := by omega
      rw [if_neg hs, if_neg hs, if_neg (fun h => q1 h.1), if_pos q2, if_neg q3, if_pos q4]
      by_cases hf : f = 0
      · rw [decide_eq_false (by omega), if_neg (by decide), rounded_false s _ _ (by omega) (by omega) (by omega)]
        have hn := nearest_scale s (A - B) c (j + d - 38)
        rw [hPP, hj2] at hn
        rw [show A * P - b = (A - B) * P by rw [Nat.sub_mul]; omega, hn]
      · rw [decide_eq_true (by omega), if_pos rfl]
        obtain ⟨C, hC⟩ : ∃ C, A = B + C + 1 := ⟨A - B - 1, by omega⟩
        have hn := rounded_true s C (j + d - 38) (by omega) (by omega) (by omega) (by omega) c (P - f) (by omega) (by omega)
        rw [hPP, hj2] at hn
        have e1 : A * P = B * P + C * P + P := by rw [hC, Nat.add_mul, Nat.add_mul, Nat.one_mul]
        rw [show A * P - b = C * P + (P - f) by omega, show IntKind.u64.wrap (((A - B : Nat) : Int) - 1) = ((C : Nat) : Int) by rw [u64_id _ (by omega) (by omega)]; omega, hn]
end Go.Proofs.Ytfhgomcfpmbhnaa.F
end

section
namespace Go.Proofs.Ytfhgomcfpmbhnaa.F
open Go Ieee
theorem cut_zero (neg : Bool) (n d : Nat) : Toward.zero.cut neg n d = n / 2 ^ d := by
  unfold Toward.cut
  simp only [shl_one]
  by_cases h : d ≤ n.log2 + 2
  · rw [Nat.min_eq_left h]
    simp
  · rw [Nat.min_eq_right (by omega)]
    have h1 : n < 2 ^ (n.log2 + 2) := by
      rcases Nat.eq_zero_or_pos n with rfl | hn
      · exact Nat.two_pow_pos _
      · exact Nat.lt_of_lt_of_le (Nat.lt_log2_self) (Nat.pow_le_pow_right (by omega) (by omega))
    have h2 : n < 2 ^ d := Nat.lt_of_lt_of_le h1 (Nat.pow_le_pow_right (by omega) (by omega))
    rw [Nat.div_eq_of_lt h1, Nat.div_eq_of_lt h2]
    simp
def wholeN (x : Nat) : Nat := mX x * 2 ^ (eX x).toNat / 2 ^ (-eX x).toNat
theorem toInt_is (x : Nat) (h : x < 4294967296) (hf : x % 2147483648 < 2139095040) (hs : sX x = false) : (FloatKind.f32.decode x).toInt .zero = some ((wholeN x : Nat) : Int) := by
  have e : FloatKind.f32.decode x = single.read x := rfl
  rw [e, read_fin x h hf, hs]
  unfold Datum.toInt Datum.integral
  simp only []
  rw [cut_zero, Nat.shiftLeft_eq]
  unfold wholeN
  simp [signed]
end Go.Proofs.Ytfhgomcfpmbhnaa.F
end

section
namespace Go.Proofs.Ytfhgomcfpmbhnaa.F
open Go.RowKit Go.Proofs.Ytfhgomcfpmbhnaa.Y Go.Proofs.Ytfhgomcfpmbhnaa.PS Ieee
open Go.Proofs.YtfhgomcfpmbhnaaW.PrintWords Go.Proofs.YtfhgomcfpmbhnaaW.PrintMore
set_option linter.unusedVariables false
set_option linter.unusedSimpArgs false
def orN (o : Option Nat) : Int := match o with
  | some r => (r : Int)
  | none => 2143289344
theorem bind_some {α : Type} (o : Option α) : (o.bind fun x => some x) = o := by cases o <;> rfl
theorem inf_word (x : Nat) (h : x < 4294967296) (hi : x % 2147483648 = 2139095040) : single.word (sX x) 2139095040 = x := by
  unfold Format.word sX
  rw [k1]
  by_cases h1 : 2147483648 ≤ x
  · rw [decide_eq_true h1, if_pos rfl]; omega
  · rw [decide_eq_false h1, if_neg (by decide)]; omega
theorem add_is (x y : Nat) (hx : x < 4294967296) (hy : y < 4294967296) : Ev (fun k => levyref17_Add.f k (x : Int) (y : Int)) (orN (single.add x y)) := by
  refine ⟨4, fun k hk => ?_⟩
  obtain ⟨k, rfl⟩ : ∃ n, k = n + 4 := ⟨k - 4, by omega⟩
  show levyref17_Add.f (k + 4) (x : Int) (y : Int) = _
  unfold levyref17_Add.f
  rw [nan_is, nan_is, fin_is, fin_is]
  simp only [Option.bind_some, decide_eq_true_eq]
  have hk4 : k + 4 = (k + 3) + 1 := rfl
  unfold Format.add
  by_cases n1 : 2139095040 < x % 2147483648
  · rw [if_pos n1, hk4, levyref17_Add.j0, if_pos rfl, read_nan x hx n1]
    rfl
  · rw [if_neg n1]
    by_cases n2 : 2139095040 < y % 2147483648
    · rw [if_pos n2, hk4, levyref17_Add.j0, if_pos rfl, read_nan y hy n2]
      cases single.read x <;> rfl
    · rw [if_neg n2]
      by_cases f1 : x % 2147483648 < 2139095040
      · rw [if_pos f1, hk4, levyref17_Add.j0, if_neg (by decide), if_pos (decide_eq_true f1), read_fin x hx f1]
        by_cases f2 : y % 2147483648 < 2139095040
        · rw [if_pos (decide_eq_true f2), read_fin y hy f2, parts_is x hx, parts_is y hy]
          simp only [Option.bind_some]
          obtain ⟨i0, i1⟩ := e_in x f1
          obtain ⟨j0, j1⟩ := e_in y f2
          have hmx := m_lt x
          have hmy := m_lt y
          have hbx := m_big x
          have hby := m_big y
          have hsum : (Datum.number (sX x) (mX x) (eX x)).sum (Datum.number (sX y) (mX y) (eX y)) = some (sumD (sX x) (mX x) (eX x) (sX y) (mX y) (eX y)) := rfl
          rw [hsum]
          show _ = some ((single.write (sumD (sX x) (mX x) (eX x) (sX y) (mX y) (eX y)) : Nat) : Int)
          generalize mX x = a at *
          generalize mX y = b at *
          generalize sX x = s at *
          generalize sX y = t at *
          generalize eX x = i at *
          generalize eX y = j at *
          by_cases hc : i < j
          · rw [if_pos hc, sumD_comm]
            obtain ⟨d, rfl⟩ : ∃ d : Nat, j = i + d := ⟨(j - i).toNat, by omega⟩
            exact add_big k t b s a i d hmy hmx i0 (by omega) (by omega)
          · rw [if_neg hc]
            obtain ⟨d, rfl⟩ : ∃ d : Nat, i = j + d := ⟨(i - j).toNat, by omega⟩
            exact add_big k s a t b j d hmx hmy j0 (by omega) (by omega)
        · have hi : y % 2147483648 = 2139095040 := by omega
          rw [if_neg (by simp [f2]), read_inf y hy hi]
          show _ = some ((single.word (sX y) single.infRung : Nat) : Int)
          rw [k3, inf_word y hy hi]
      · have hi : x % 2147483648 = 2139095040 := by omega
        rw [if_neg f1, read_inf x hx hi]
        by_cases f2 : y % 2147483648 < 2139095040
        · rw [if_pos f2, hk4, levyref17_Add.j0, if_neg (by decide), if_neg (by simp [f1]), read_fin y hy f2]
          show _ = some ((single.word (sX x) single.infRung : Nat) : Int)
          rw [k3, inf_word x hx hi]
        · have hi2 : y % 2147483648 = 2139095040 := by omega
          rw [if_neg f2, hk4, levyref17_Add.j0, read_inf y hy hi2]
          by_cases hxy : x = y
          · subst hxy
            rw [if_neg (by simp), if_neg (by simp [f1])]
            have : (Datum.infinity (sX x)).sum (Datum.infinity (sX x)) = some (.infinity (sX x)) := if_pos rfl
            rw [this]
            show _ = some ((single.word (sX x) single.infRung : Nat) : Int)
            rw [k3, inf_word x hx hi]
          · have hs : ¬ sX x = sX y := by
              intro h
              have a1 := inf_word x hx hi
              have a2 := inf_word y hy hi2
              rw [h, a2] at a1
              exact hxy a1.symm
            rw [if_pos (by simpa using fun h : (x : Int) = y => hxy (by omega))]
            have : (Datum.infinity (sX x)).sum (Datum.infinity (sX y)) = none := if_neg hs
            rw [this]
            rfl
def opp (y : Nat) : Nat := if 2147483648 ≤ y then y - 2147483648 else y + 2147483648
theorem opp_lt (y : Nat) (hy : y < 4294967296) : opp y < 4294967296 := by unfold opp; split <;> omega
theorem neg_is (y : Nat) (hy : y < 4294967296) : levyref17_Neg.f (y : Int) = some ((opp y : Nat) : Int) := by
  unfold levyref17_Neg.f opp
  by_cases h : 2147483648 ≤ y
  · rw [if_pos (by omega), if_pos h]; refine congrArg some ?_; omega
  · rw [if_neg (by omega), if_neg h]; refine congrArg some ?_; omega
theorem opp_mod (y : Nat) (hy : y < 4294967296) : opp y % 2147483648 = y % 2147483648 := by unfold opp; split <;> omega
theorem opp_sign (y : Nat) (hy : y < 4294967296) : sX (opp y) = !sX y := by
  unfold opp sX
  by_cases h : 2147483648 ≤ y
  · rw [if_pos h, decide_eq_true h, decide_eq_false (by omega)]; rfl
  · rw [if_neg h, decide_eq_false h, decide_eq_true (by omega)]; rfl
theorem opp_m (y : Nat) (hy : y < 4294967296) : mX (opp y) = mX y := by
  unfold mX
  rw [opp_mod y hy, show opp y % 8388608 = y % 8388608 by have := opp_mod y hy; omega]
theorem opp_e (y : Nat) (hy : y < 4294967296) : eX (opp y) = eX y := by
  unfold eX
  rw [opp_mod y hy]
theorem read_opp (y : Nat) (hy : y < 4294967296) : single.read (opp y) = (single.read y).opposite := by
  have hm := opp_mod y hy
  by_cases f : y % 2147483648 < 2139095040
  · rw [read_fin y hy f, read_fin _ (opp_lt y hy) (by omega), opp_sign y hy, opp_m y hy, opp_e y hy]; rfl
  · by_cases i : y % 2147483648 = 2139095040
    · rw [read_inf y hy i, read_inf _ (opp_lt y hy) (by omega), opp_sign y hy]; rfl
    · rw [read_nan y hy (by omega), read_nan _ (opp_lt y hy) (by omega), opp_sign y hy, hm]; rfl
theorem sub_is (x y : Nat) (hx : x < 4294967296) (hy : y < 4294967296) : Ev (fun k => levyref17_Sub.f k (x : Int) (y : Int)) (orN (single.sub x y)) := by
  have h1 : single.sub x y = single.add x (opp y) := by
    show ((single.read x).sum (single.read y).opposite).map single.write = ((single.read x).sum (single.read (opp y))).map single.write
    rw [read_opp y hy]
  obtain ⟨K, hK⟩ := add_is x (opp y) hx (opp_lt y hy)
  refine ⟨K, fun k hk => ?_⟩
  have h2 := hK k hk
  rw [h1]
  generalize single.add x (opp y) = o at *
  have h3 := neg_is y hy
  generalize ((opp y : Nat) : Int) = z at *
  show levyref17_Sub.f k (x : Int) (y : Int) = _
  unfold levyref17_Sub.f
  rw [h3]
  show (levyref17_Add.f k (x : Int) z).bind (fun t127 => some t127) = _
  rw [bind_some]
  exact h2
theorem mul_write (s t : Bool) (a b : Nat) (i j : Int) : ((Datum.number s a i).product (Datum.number t b j)).map single.write = some (single.nearest (s ^^ t) (a * b) (i + j)) := rfl
theorem mul_wrap (a b : Nat) (ha : a < 16777216) (hb : b < 16777216) : a * b < 9223372036854775808 := by
  have hp : a * b ≤ 16777216 * b := Nat.mul_le_mul_right _ (by omega)
  omega
theorem mul_u64 (a b : Nat) (ha : a < 16777216) (hb : b < 16777216) : IntKind.u64.wrap ((a : Int) * (b : Int)) = ((a * b : Nat) : Int) := by
  have hp := mul_wrap a b ha hb
  rw [← Int.natCast_mul]
  generalize a * b = z at *
  exact u64_id _ (by omega) (by omega)
theorem mul_at (s t : Bool) (a b : Nat) (i j : Int) (ha : a < 16777216) (hb : b < 16777216) (i0 : -149 ≤ i) (i1 : i ≤ 104) (j0 : -149 ≤ j) (j1 : j ≤ 104) : levyref17_rounded.f (s != t) (IntKind.u64.wrap ((a : Int) * (b : Int))) (wrap64 (i + j)) false = some ((single.nearest (s ^^ t) (a * b) (i + j) : Nat) : Int) := by
  have ex : (s != t) = (s ^^ t) := rfl
  have hab := mul_wrap a b ha hb
  rw [ex, mul_u64 a b ha hb, show wrap64 (i + j) = i + j by unfold wrap64; omega]
  generalize a * b = z at *
  exact rounded_false (s ^^ t) z (i + j) hab (by omega) (by omega)
theorem mul_parts (x y : Int) (s t : Bool) (a b i j : Int) (h0 : levyref17_parts.f x = some (s, a, i)) (h1 : levyref17_parts.f y = some (t, b, j)) : levyref17_Mul.f x y = levyref17_rounded.f (s != t) (IntKind.u64.wrap (a * b)) (wrap64 (i + j)) false := by
  unfold levyref17_Mul.f
  rw [h0, h1]
  exact bind_some _
theorem mul_ieee (x y : Nat) (hx : x < 4294967296) (hy : y < 4294967296) (fx : x % 2147483648 < 2139095040) (fy : y % 2147483648 < 2139095040) : single.mul x y = some (single.nearest (sX x ^^ sX y) (mX x * mX y) (eX x + eX y)) := by
  unfold Format.mul
  rw [read_fin x hx fx, read_fin y hy fy]
  exact mul_write _ _ _ _ _ _
theorem orN_some (r : Nat) : orN (some r) = (r : Int) := rfl
theorem mul_is (x y : Nat) (hx : x < 4294967296) (hy : y < 4294967296) (fx : x % 2147483648 < 2139095040) (fy : y % 2147483648 < 2139095040) : levyref17_Mul.f (x : Int) (y : Int) = some (orN (single.mul x y)) :=
  (mul_parts x y _ _ _ _ _ _ (parts_is x hx) (parts_is y hy)).trans ((mul_at _ _ _ _ _ _ (m_lt x) (m_lt y) (e_in x fx).1 (e_in x fx).2 (e_in y fy).1 (e_in y fy).2).trans (by rw [mul_ieee x y hx hy fx fy, orN_some]))
theorem whole_is (n : Int) (h0 : -9223372036854775808 ≤ n) (h1 : n < 9223372036854775808) : levyref17_Whole.f n = some ((FloatKind.f32.nearest n : Nat) : Int) := by
  unfold levyref17_Whole.f
  simp only [bind_some]
  have hf : FloatKind.f32.nearest n = single.nearest (decide (n < 0)) n.natAbs 0 := rfl
  rw [hf]
  by_cases h : n < 0
  · rw [if_pos h, decide_eq_true h]
    have e1 : IntKind.u64.wrap (IntKind.u64.wrap (wrap64 (-(wrap64 (n + 1)))) + 1) = ((n.natAbs : Nat) : Int) := by
      rw [show wrap64 (n + 1) = n + 1 by unfold wrap64; omega, show wrap64 (-(n + 1)) = -(n + 1) by unfold wrap64; omega, u64_id (-(n + 1)) (by omega) (by omega), u64_id _ (by omega) (by omega)]
      omega
    rw [e1, rounded_whole true _ (by omega)]
  · rw [if_neg h, decide_eq_false h]
    have e1 : IntKind.u64.wrap n = ((n.natAbs : Nat) : Int) := by
      rw [u64_id _ (by omega) (by omega)]
      omega
    rw [e1, rounded_whole false _ (by omega)]
end Go.Proofs.Ytfhgomcfpmbhnaa.F
end

section
namespace Go.Proofs.Ytfhgomcfpmbhnaa.F
open Go.RowKit Go.Proofs.Ytfhgomcfpmbhnaa.Y Go.Proofs.Ytfhgomcfpmbhnaa.PS Ieee
open Go.Proofs.YtfhgomcfpmbhnaaW.PrintWords Go.Proofs.YtfhgomcfpmbhnaaW.PrintMore
set_option linter.unusedVariables false
set_option linter.unusedSimpArgs false
def units (r : Nat) : Nat := if r / 8388608 = 0 then r % 8388608 else (r % 8388608 + 8388608) * 2 ^ (r / 8388608 - 1)
theorem units_lt (a b : Nat) (h : a < b) : units a < units b := by
  unfold units
  by_cases hb : b / 8388608 = 0
  · have ha : a / 8388608 = 0 := by omega
    rw [if_pos ha, if_pos hb]; omega
  · rw [if_neg hb]
    have hp : 0 < 2 ^ (b / 8388608 - 1) := Nat.pow_pos (by decide)
    have h1 : 8388608 * 2 ^ (b / 8388608 - 1) ≤ (b % 8388608 + 8388608) * 2 ^ (b / 8388608 - 1) := Nat.mul_le_mul_right _ (by omega)
    by_cases ha : a / 8388608 = 0
    · rw [if_pos ha]; omega
    · rw [if_neg ha]
      by_cases he : a / 8388608 = b / 8388608
      · rw [he]
        exact Nat.mul_lt_mul_of_pos_right (by omega) hp
      · have h2 : (a % 8388608 + 8388608) * 2 ^ (a / 8388608 - 1) < 16777216 * 2 ^ (a / 8388608 - 1) := Nat.mul_lt_mul_of_pos_right (by omega) (Nat.pow_pos (by decide))
        have h3 : 2 ^ (a / 8388608 - 1 + 1) ≤ 2 ^ (b / 8388608 - 1) := Nat.pow_le_pow_right (by decide) (by omega)
        rw [Nat.pow_succ] at h3
        omega
theorem units_iff (a b : Nat) : units a < units b ↔ a < b := by
  refine ⟨fun h => ?_, units_lt a b⟩
  rcases Nat.lt_trichotomy a b with h1 | h1 | h1
  · exact h1
  · subst h1; omega
  · have := units_lt b a h1; omega
theorem units_zero (a : Nat) : 0 < units a ↔ 0 < a := by
  have := units_iff 0 a
  have h0 : units 0 = 0 := by decide
  rwa [h0] at this
theorem units_is (x : Nat) (hf : x % 2147483648 < 2139095040) : mX x * 2 ^ (eX x + 149).toNat = units (x % 2147483648) := by
  unfold mX eX units
  have h1 : x % 2147483648 % 8388608 = x % 8388608 := by omega
  by_cases h : x % 2147483648 / 8388608 = 0
  · rw [if_pos h, if_pos h, if_pos h, h1]; simp
  · rw [if_neg h, if_neg h, if_neg h, h1]
    congr 2; omega
def ordI (x : Nat) : Int := if 2147483648 ≤ x then -((x : Int) - 2147483648) else x
def pm (s : Bool) (v : Nat) : Int := if s then -(v : Int) else v
theorem pm_lt (s t : Bool) (a b : Nat) : pm s (units a) < pm t (units b) ↔ pm s a < pm t b := by
  have h1 := units_iff a b
  have h2 := units_iff b a
  have h3 := units_zero a
  have h4 := units_zero b
  generalize units a = u at *
  generalize units b = v at *
  cases s <;> cases t <;> simp only [pm, if_true, if_false, Bool.false_eq_true] <;> omega
theorem pm_mul (s : Bool) (a k : Nat) : pm s a * ((2 ^ k : Nat) : Int) = pm s (a * 2 ^ k) := by
  cases s <;> simp [pm, Int.neg_mul]
theorem pm_scale (s t : Bool) (a b k : Nat) : pm s a < pm t b ↔ pm s (a * 2 ^ k) < pm t (b * 2 ^ k) := by
  have hp : (0 : Int) < ((2 ^ k : Nat) : Int) := by have : 0 < 2 ^ k := Nat.pow_pos (by decide); omega
  rw [← pm_mul, ← pm_mul]
  exact (Int.mul_lt_mul_right hp).symm
theorem signed_pm (s : Bool) (a k : Nat) : signed s a k = pm s (a * 2 ^ k) := by
  unfold signed pm
  rw [Nat.shiftLeft_eq]
theorem ordI_pm (x : Nat) (hx : x < 4294967296) : ordI x = pm (sX x) (x % 2147483648) := by
  unfold ordI pm sX
  by_cases h : 2147483648 ≤ x
  · rw [if_pos h, decide_eq_true h, if_pos rfl]; omega
  · rw [if_neg h, decide_eq_false h, if_neg (by decide)]; omega
theorem order_f (x : Nat) (hx : x < 4294967296) : levyref17_order.f (x : Int) = some (ordI x) := by
  unfold levyref17_order.f ordI
  by_cases h : 2147483648 ≤ x
  · rw [if_pos (by omega), if_pos h]; refine congrArg some ?_; omega
  · rw [if_neg (by omega), if_neg h]; refine congrArg some ?_; unfold wrap64; omega
theorem cmp_of (a b c d : Int) (h : a < b ↔ c < d) (h' : b < a ↔ d < c) : compare a b = compare c d := by
  show compareOfLessAndEq a b = compareOfLessAndEq c d
  unfold compareOfLessAndEq
  by_cases h1 : a < b
  · rw [if_pos h1, if_pos (h.1 h1)]
  · rw [if_neg h1, if_neg (fun x => h1 (h.2 x))]
    by_cases h2 : a = b
    · rw [if_pos h2, if_pos (by omega)]
    · rw [if_neg h2, if_neg (by omega)]
theorem order_num (s t : Bool) (a b : Nat) (i j : Int) : (Datum.number s a i).order (Datum.number t b j) = some (compare (signed s a (i - min i j).toNat) (signed t b (j - min i j).toNat)) := rfl
theorem order_fin (x y : Nat) (hx : x < 4294967296) (hy : y < 4294967296) (fx : x % 2147483648 < 2139095040) (fy : y % 2147483648 < 2139095040) : single.order x y = some (compare (ordI x) (ordI y)) := by
  unfold Format.order
  rw [read_fin x hx fx, read_fin y hy fy, order_num, ordI_pm x hx, ordI_pm y hy, signed_pm, signed_pm]
  obtain ⟨i0, i1⟩ := e_in x fx
  obtain ⟨j0, j1⟩ := e_in y fy
  have ux := units_is x fx
  have uy := units_is y fy
  have hk : ∀ k : Nat, k = (min (eX x) (eX y) + 149).toNat → ∀ (s t : Bool), (pm s (mX x * 2 ^ (eX x - min (eX x) (eX y)).toNat) < pm t (mX y * 2 ^ (eX y - min (eX x) (eX y)).toNat) ↔ pm s (x % 2147483648) < pm t (y % 2147483648)) ∧ (pm t (mX y * 2 ^ (eX y - min (eX x) (eX y)).toNat) < pm s (mX x * 2 ^ (eX x - min (eX x) (eX y)).toNat) ↔ pm t (y % 2147483648) < pm s (x % 2147483648)) := by
    intro k hk s t
    have hp : (0 : Int) < ((2 ^ k : Nat) : Int) := by have : 0 < 2 ^ k := Nat.pow_pos (by decide); omega
    have ex : mX x * 2 ^ (eX x - min (eX x) (eX y)).toNat * 2 ^ k = units (x % 2147483648) := by
      rw [Nat.mul_assoc, ← Nat.pow_add, ← ux]; congr 2; omega
    have ey : mX y * 2 ^ (eX y - min (eX x) (eX y)).toNat * 2 ^ k = units (y % 2147483648) := by
      rw [Nat.mul_assoc, ← Nat.pow_add, ← uy]; congr 2; omega
    rw [← pm_lt s t (x % 2147483648) (y % 2147483648), ← pm_lt t s (y % 2147483648) (x % 2147483648), ← ex, ← ey]
    exact ⟨pm_scale _ _ _ _ k, pm_scale _ _ _ _ k⟩
  exact congrArg some (cmp_of _ _ _ _ (hk _ rfl _ _).1 (hk _ rfl _ _).2)
theorem order_is (x y : Nat) (hx : x < 4294967296) (hy : y < 4294967296) (nx : x % 2147483648 ≤ 2139095040) (ny : y % 2147483648 ≤ 2139095040) : single.order x y = some (compare (ordI x) (ordI y)) := by
  by_cases fx : x % 2147483648 < 2139095040
  · by_cases fy : y % 2147483648 < 2139095040
    · exact order_fin x y hx hy fx fy
    · have hi : y % 2147483648 = 2139095040 := by omega
      unfold Format.order
      rw [read_fin x hx fx, read_inf y hy hi, ordI_pm x hx, ordI_pm y hy, hi]
      generalize sX y = t
      show some (if t then Ordering.gt else .lt) = _
      refine congrArg some ?_
      generalize x % 2147483648 = r at *
      show _ = compareOfLessAndEq (pm (sX x) r) (pm t 2139095040)
      generalize sX x = s
      unfold compareOfLessAndEq
      cases s <;> cases t <;> simp only [pm, if_true, if_false, Bool.false_eq_true]
      · rw [if_pos (by omega)]
      · rw [if_neg (by omega), if_neg (by omega)]
      · rw [if_pos (by omega)]
      · rw [if_neg (by omega), if_neg (by omega)]
  · have hi : x % 2147483648 = 2139095040 := by omega
    by_cases fy : y % 2147483648 < 2139095040
    · unfold Format.order
      rw [read_inf x hx hi, read_fin y hy fy, ordI_pm x hx, ordI_pm y hy, hi]
      generalize sX x = t
      show some (if t then Ordering.lt else .gt) = _
      refine congrArg some ?_
      generalize y % 2147483648 = r at *
      generalize sX y = s
      show _ = compareOfLessAndEq (pm t 2139095040) (pm s r)
      unfold compareOfLessAndEq
      cases s <;> cases t <;> simp only [pm, if_true, if_false, Bool.false_eq_true]
      · rw [if_neg (by omega), if_neg (by omega)]
      · rw [if_pos (by omega)]
      · rw [if_neg (by omega), if_neg (by omega)]
      · rw [if_pos (by omega)]
    · have hi2 : y % 2147483648 = 2139095040 := by omega
      unfold Format.order
      rw [read_inf x hx hi, read_inf y hy hi2, ordI_pm x hx, ordI_pm y hy, hi, hi2]
      generalize sX x = s
      generalize sX y = t
      cases s <;> cases t <;> rfl
theorem order_nan (x y : Nat) (hx : x < 4294967296) (hy : y < 4294967296) (h : 2139095040 < x % 2147483648 ∨ 2139095040 < y % 2147483648) : single.order x y = none := by
  unfold Format.order
  rcases h with h | h
  · rw [read_nan x hx h]; cases single.read y <;> rfl
  · rw [read_nan y hy h]; cases single.read x <;> rfl
theorem less_is (x y : Nat) (hx : x < 4294967296) (hy : y < 4294967296) : levyref17_Less.f (x : Int) (y : Int) = some (single.order x y == some Ordering.lt) := by
  unfold levyref17_Less.f
  rw [nan_is, nan_is, order_f x hx, order_f y hy]
  simp only [Option.bind_some, decide_eq_true_eq]
  by_cases n1 : 2139095040 < x % 2147483648
  · rw [if_pos n1, order_nan x y hx hy (.inl n1)]; rfl
  · by_cases n2 : 2139095040 < y % 2147483648
    · rw [if_neg n1, if_pos n2, order_nan x y hx hy (.inr n2)]; rfl
    · rw [if_neg n1, if_neg n2, order_is x y hx hy (by omega) (by omega)]
      refine congrArg some ?_
      generalize ordI x = a
      generalize ordI y = b
      show _ = (some (compareOfLessAndEq a b) == some Ordering.lt)
      unfold compareOfLessAndEq
      by_cases h1 : a < b
      · rw [if_pos h1, decide_eq_true h1]; rfl
      · rw [if_neg h1, decide_eq_false h1]; by_cases h2 : a = b
        · rw [if_pos h2]; rfl
        · rw [if_neg h2]; rfl
theorem same_is (x y : Nat) (hx : x < 4294967296) (hy : y < 4294967296) : levyref17_Same.f (x : Int) (y : Int) = some (single.order x y == some Ordering.eq) := by
  unfold levyref17_Same.f
  rw [nan_is, nan_is, order_f x hx, order_f y hy]
  simp only [Option.bind_some, decide_eq_true_eq]
  by_cases n1 : 2139095040 < x % 2147483648
  · rw [if_pos n1, order_nan x y hx hy (.inl n1)]; rfl
  · by_cases n2 : 2139095040 < y % 2147483648
    · rw [if_neg n1, if_pos n2, order_nan x y hx hy (.inr n2)]; rfl
    · rw [if_neg n1, if_neg n2, order_is x y hx hy (by omega) (by omega)]
      refine congrArg some ?_
      generalize ordI x = a
      generalize ordI y = b
      show _ = (some (compareOfLessAndEq a b) == some Ordering.eq)
      unfold compareOfLessAndEq
      by_cases h1 : a < b
      · rw [if_pos h1, beq_eq_false_iff_ne.2 (by omega)]; rfl
      · rw [if_neg h1]; by_cases h2 : a = b
        · rw [if_pos h2, h2, beq_self_eq_true]; rfl
        · rw [if_neg h2, beq_eq_false_iff_ne.2 h2]; rfl
end Go.Proofs.Ytfhgomcfpmbhnaa.F
end

section
namespace Go.Proofs.Ytfhgomcfpmbhnaa.F
open Go.RowKit Go.Proofs.Ytfhgomcfpmbhnaa.Y Go.Proofs.Ytfhgomcfpmbhnaa.PS Ieee
open Go.Proofs.YtfhgomcfpmbhnaaW.PrintWords Go.Proofs.YtfhgomcfpmbhnaaW.PrintMore
set_option linter.unusedVariables false
set_option linter.unusedSimpArgs false
theorem div_core (s : Bool) (D n : Nat) (E : Int) (hn : 0 < n) (hQ : 16777216 ≤ D / n) (hQ2 : D / n < 67108864) (h0 : -350 ≤ E) (h1 : E ≤ 350) :
    levyref17_rounded.f s ((D * 8192 / n : Nat) : Int) (E - 13) (decide (0 < D * 8192 % n)) = some ((single.nearest s (2 * (D / n) + (D % n != 0).toNat) (E - 1) : Nat) : Int) := by
  have hD : D = D / n * n + D % n := by rw [Nat.mul_comm]; exact (Nat.div_add_mod _ _).symm
  have hr : D % n < n := Nat.mod_lt _ hn
  generalize D / n = Q at *
  generalize D % n = r at *
  have e1 : D * 8192 = n * (Q * 8192) + r * 8192 := by
    rw [hD, Nat.add_mul, Nat.mul_comm n, Nat.mul_assoc, Nat.mul_assoc, Nat.mul_comm n 8192]
  have e2 : D * 8192 / n = Q * 8192 + r * 8192 / n := by rw [e1, Nat.mul_add_div hn]
  have e3 : D * 8192 % n = r * 8192 % n := by rw [e1, Nat.mul_add_mod]
  have hg : r * 8192 / n < 8192 := Nat.div_lt_of_lt_mul (by omega)
  have hgd : r * 8192 = n * (r * 8192 / n) + r * 8192 % n := (Nat.div_add_mod _ _).symm
  rw [e2, e3]
  obtain ⟨f, hff⟩ : ∃ f, r * 8192 % n = f := ⟨_, rfl⟩
  obtain ⟨g, hgg⟩ : ∃ g, r * 8192 / n = g := ⟨_, rfl⟩
  rw [hff, hgg] at hgd
  rw [hgg] at hg
  rw [hff, hgg]
  clear hff e1 e2 e3
  by_cases hr0 : r = 0
  · subst hr0
    have hg0 : g = 0 := by rw [← hgg, Nat.zero_mul, Nat.zero_div]
    subst hg0
    have hf0 : f = 0 := by rw [Nat.mul_zero, Nat.zero_add, Nat.zero_mul] at hgd; exact hgd.symm
    subst hf0
    have hd : decide (0 < 0) = false := rfl
    rw [hd, rounded_false s _ _ (by omega) (by omega) (by omega)]
    have a1 := nearest_scale s Q 13 E
    have a2 := nearest_scale s Q 1 E
    have b1 : Q * 8192 + 0 = Q * 2 ^ 13 := by omega
    have b2 : 2 * Q + ((0 : Nat) != 0).toNat = Q * 2 ^ 1 := by
      show 2 * Q + 0 = _
      omega
    rw [b1, b2]
    exact congrArg (fun z : Nat => some (z : Int)) (a1.trans a2.symm)
  · have hb : (r != 0) = true := by simpa using hr0
    rw [hb, show 2 * Q + true.toNat = Q * 2 ^ 1 + 1 by simp; omega]
    have a2 := nearest_rest s Q 1 1 E hQ (by decide) (by decide)
    rw [show single.nearest s (Q * 2 ^ 1 + 1) (E - 1) = _ from a2]
    by_cases hf : f = 0
    · subst hf
      have hg0 : 0 < g := by
        rcases Nat.eq_zero_or_pos g with h | h
        · subst h; omega
        · exact h
      have hd : decide (0 < 0) = false := rfl
      rw [hd, rounded_false s _ _ (by omega) (by omega) (by omega)]
      have a1 := nearest_rest s Q 13 g E hQ hg0 (by omega)
      have b1 : Q * 8192 + g = Q * 2 ^ 13 + g := by clear hgd hD hgg hQ hQ2 a1 a2; omega
      rw [b1]
      exact congrArg (fun z : Nat => some (z : Int)) a1
    · have hd : decide (0 < f) = true := decide_eq_true (Nat.pos_of_ne_zero hf)
      clear hgd hgg hD
      rw [hd, rounded_true s (Q * 8192 + g) (E - 13) (by omega) (by omega) (by omega) (by omega) 1 1 (by decide) (by decide)]
      have a1 := nearest_rest s Q 14 (2 * g + 1) E hQ (by omega) (by omega)
      rw [show (Q * 8192 + g) * 2 ^ 1 + 1 = Q * 2 ^ 14 + (2 * g + 1) by omega, show E - 13 - (1 : Nat) = E - (14 : Nat) by omega, a1]
theorem div_l1 (s : Bool) (a : Nat) (i : Int) (t : Bool) (r : Int) : ∀ (q b : Nat) (j : Int), 8388608 ≤ b * 2 ^ q → b * 2 ^ q < 16777216 → -9000 + (q : Int) ≤ j → j ≤ 9000 → q ≤ 1000 →
    Ev (fun k => levyref17_Div.l1 k s a i t ((b * 2 ^ q : Nat) : Int) (j - q)) r → Ev (fun k => levyref17_Div.l1 k s a i t b j) r
  | 0, b, j, _, _, _, _, _, h => by
    rw [Nat.pow_zero, Nat.mul_one] at h
    simpa using h
  | q + 1, b, j, h0, h1, h2, h3, h4, h => by
    have e : b * 2 ^ (q + 1) = b * 2 * 2 ^ q := by rw [Nat.pow_succ, Nat.mul_assoc, Nat.mul_comm 2]
    rw [e] at h h0 h1
    have hp : 0 < 2 ^ q := Nat.pow_pos (by decide)
    have hb : b * 2 ≤ b * 2 * 2 ^ q := Nat.le_mul_of_pos_right _ hp
    refine Ev.step (f := fun k => levyref17_Div.l1 k s a i t ((b * 2 : Nat) : Int) (j - 1)) (fun k => ?_) (div_l1 s a i t r q (b * 2) (j - 1) h0 h1 (by omega) (by omega) (by omega) ?_)
    · show levyref17_Div.l1 (k + 1) s a i t b j = _
      rw [levyref17_Div.l1, if_pos (by omega), show wrap64 (j - 1) = j - 1 by unfold wrap64; omega, u64_id _ (by omega) (by omega)]
      rfl
    · rw [show j - 1 - (q : Int) = j - ((q + 1 : Nat) : Int) by omega]
      exact h
theorem div_l0 (s : Bool) (t : Bool) (b j r : Int) : ∀ (q a : Nat) (i : Int), 8388608 ≤ a * 2 ^ q → a * 2 ^ q < 16777216 → -9000 + (q : Int) ≤ i → i ≤ 9000 → q ≤ 1000 →
    Ev (fun k => levyref17_Div.l1 k s ((a * 2 ^ q : Nat) : Int) (i - q) t b j) r → Ev (fun k => levyref17_Div.l0 k s a i t b j) r
  | 0, a, i, h0, _, _, _, _, h => by
    rw [Nat.pow_zero, Nat.mul_one] at h h0
    refine Ev.step (f := fun k => levyref17_Div.l1 k s a i t b j) (fun k => ?_) (by simpa using h)
    show levyref17_Div.l0 (k + 1) s a i t b j = _
    rw [levyref17_Div.l0, if_neg (by omega)]
  | q + 1, a, i, h0, h1, h2, h3, h4, h => by
    have e : a * 2 ^ (q + 1) = a * 2 * 2 ^ q := by rw [Nat.pow_succ, Nat.mul_assoc, Nat.mul_comm 2]
    rw [e] at h h0 h1
    have hp : 0 < 2 ^ q := Nat.pow_pos (by decide)
    have hb : a * 2 ≤ a * 2 * 2 ^ q := Nat.le_mul_of_pos_right _ hp
    refine Ev.step (f := fun k => levyref17_Div.l0 k s ((a * 2 : Nat) : Int) (i - 1) t b j) (fun k => ?_) (div_l0 s t b j r q (a * 2) (i - 1) h0 h1 (by omega) (by omega) (by omega) ?_)
    · show levyref17_Div.l0 (k + 1) s a i t b j = _
      rw [levyref17_Div.l0, if_pos (by omega), show wrap64 (i - 1) = i - 1 by unfold wrap64; omega, u64_id _ (by omega) (by omega)]
      rfl
    · rw [show i - 1 - (q : Int) = i - ((q + 1 : Nat) : Int) by omega]
      exact h
theorem up_to (m : Nat) (hm : m ≠ 0) (h : m < 16777216) : ∃ q : Nat, q ≤ 23 ∧ m.log2 = 23 - q ∧ 8388608 ≤ m * 2 ^ q ∧ m * 2 ^ q < 16777216 := by
  have hl : m.log2 < 24 := (Nat.log2_lt hm).2 (by omega)
  have h1 := Nat.log2_self_le hm
  have h2 := Nat.lt_log2_self (n := m)
  refine ⟨23 - m.log2, by omega, by omega, ?_, ?_⟩
  · have : 2 ^ m.log2 * 2 ^ (23 - m.log2) ≤ m * 2 ^ (23 - m.log2) := Nat.mul_le_mul_right _ h1
    rw [← Nat.pow_add, show m.log2 + (23 - m.log2) = 23 by omega] at this
    omega
  · have : m * 2 ^ (23 - m.log2) < 2 ^ (m.log2 + 1) * 2 ^ (23 - m.log2) := Nat.mul_lt_mul_of_pos_right h2 (Nat.pow_pos (by decide))
    rw [← Nat.pow_add, show m.log2 + 1 + (23 - m.log2) = 24 by omega] at this
    omega
theorem div_ieee (s t : Bool) (a b : Nat) (i j : Int) (hb : b ≠ 0) : (Datum.quotient (single.fractionBits + 2) (Datum.number s a i) (Datum.number t b j)).map single.write = some (single.nearest (s ^^ t) (2 * (a <<< (25 + b.log2 - a.log2) / b) + (a <<< (25 + b.log2 - a.log2) % b != 0).toNat) (i - j - ((25 + b.log2 - a.log2 : Nat) : Int) - 1)) := by
  unfold Datum.quotient
  simp only []
  rw [if_neg hb]
  rfl
theorem div_num (s t : Bool) (a b : Nat) (i j : Int) (ha : a ≠ 0) (hb : b ≠ 0) (ha1 : a < 16777216) (hb1 : b < 16777216) (i0 : -400 ≤ i) (i1 : i ≤ 400) (j0 : -400 ≤ j) (j1 : j ≤ 400) (hij : -253 ≤ i - j) (hij1 : i - j ≤ 253) (z : Nat)
    (hz : (Datum.quotient (single.fractionBits + 2) (Datum.number s a i) (Datum.number t b j)).map single.write = some z) : Ev (fun k => levyref17_Div.l0 k s a i t b j) (z : Int) := by
  obtain ⟨p, hp, hpl, p0, p1⟩ := up_to a ha ha1
  obtain ⟨q, hq, hql, q0, q1⟩ := up_to b hb hb1
  rw [div_ieee s t a b i j hb, hpl, hql] at hz
  refine div_l0 s t b j z p a i p0 p1 (by omega) (by omega) (by omega) ?_
  refine div_l1 s _ _ t z q b j q0 q1 (by omega) (by omega) (by omega) ?_
  refine Ev.step (f := fun _ => some (z : Int)) (fun k => ?_) (Ev.now _)
  have hP : 0 < 2 ^ q := Nat.pow_pos (by decide)
  have hbp : 0 < b := Nat.pos_of_ne_zero hb
  rw [show 25 + (23 - q) - (23 - p) = 25 + p - q by omega, Nat.shiftLeft_eq] at hz
  have hD : a * 2 ^ p * 274877906944 = a * 2 ^ (25 + p - q) * 8192 * 2 ^ q := by
    rw [show (274877906944 : Nat) = 2 ^ 38 by decide, show (8192 : Nat) = 2 ^ 13 by decide, Nat.mul_assoc, ← Nat.pow_add, Nat.mul_assoc, Nat.mul_assoc, ← Nat.pow_add, ← Nat.pow_add]
    congr 2; omega
  have hlow : 16777216 * b ≤ a * 2 ^ (25 + p - q) := by
    have e1 : 16777216 * b * 2 ^ q ≤ a * 2 ^ (25 + p - q) * 2 ^ q := by
      rw [Nat.mul_assoc a, ← Nat.pow_add, show 25 + p - q + q = p + 25 by omega, Nat.pow_add, ← Nat.mul_assoc, Nat.mul_assoc 16777216]
      omega
    exact Nat.le_of_mul_le_mul_right e1 hP
  have hhigh : a * 2 ^ (25 + p - q) < 67108864 * b := by
    have e1 : a * 2 ^ (25 + p - q) * 2 ^ q < 67108864 * b * 2 ^ q := by
      rw [Nat.mul_assoc a, ← Nat.pow_add, show 25 + p - q + q = p + 25 by omega, Nat.pow_add, ← Nat.mul_assoc, Nat.mul_assoc 67108864]
      omega
    exact Nat.lt_of_mul_lt_mul_right e1
  have hQ : 16777216 ≤ a * 2 ^ (25 + p - q) / b := (Nat.le_div_iff_mul_le hbp).2 hlow
  have hQ2 : a * 2 ^ (25 + p - q) / b < 67108864 := (Nat.div_lt_iff_lt_mul hbp).2 hhigh
  have hc := div_core (s != t) (a * 2 ^ (25 + p - q)) b (i - j - ((25 + p - q : Nat) : Int)) hbp hQ hQ2 (by omega) (by omega)
  have hx : (s != t) = (s ^^ t) := rfl
  rw [hx, Option.some.inj hz] at hc
  show levyref17_Div.l1 (k + 1) s ((a * 2 ^ p : Nat) : Int) (i - p) t ((b * 2 ^ q : Nat) : Int) (j - q) = some (z : Int)
  rw [levyref17_Div.l1, if_neg (by omega), if_neg (by omega), bind_some, hx]
  rw [show IntKind.u64.wrap (((a * 2 ^ p : Nat) : Int) * 274877906944) = ((a * 2 ^ p * 274877906944 : Nat) : Int) by rw [u64_id _ (by omega) (by omega)]; omega]
  rw [show wrap64 (i - (p : Int) - (j - q)) = i - (p : Int) - (j - q) by unfold wrap64; omega, show wrap64 (i - (p : Int) - (j - q) - 38) = i - j - ((25 + p - q : Nat) : Int) - 13 by unfold wrap64; omega]
  rw [Int.tdiv_eq_ediv_of_nonneg (by omega), Int.tmod_eq_emod_of_nonneg (by omega), ← Int.natCast_ediv, ← Int.natCast_emod, hD, Nat.mul_div_mul_right _ _ hP, Nat.mul_mod_mul_right]
  have hw : a * 2 ^ (25 + p - q) * 8192 / b < 67108864 * 8192 := (Nat.div_lt_iff_lt_mul hbp).2 (by rw [Nat.mul_right_comm 67108864]; exact Nat.mul_lt_mul_of_pos_right hhigh (by omega : 0 < 8192))
  generalize a * 2 ^ (25 + p - q) * 8192 / b = w at *
  generalize a * 2 ^ (25 + p - q) * 8192 % b = f at *
  have hm : decide (((f * 2 ^ q : Nat) : Int) > 0) = decide (0 < f) := by
    have hm0 : 0 < f * 2 ^ q ↔ 0 < f := ⟨fun h => Nat.pos_of_mul_pos_right h, fun h => Nat.mul_pos h hP⟩
    rw [Bool.eq_iff_iff]; simp only [decide_eq_true_eq]
    rw [← hm0]
    generalize f * 2 ^ q = y
    omega
  rw [hm, u64_id _ (by omega) (by omega)]
  exact hc
theorem signed_is (s : Bool) (b : Nat) (hb : b < 2147483648) : levyref17_signed.f s (b : Int) = some ((single.word s b : Nat) : Int) := by
  unfold levyref17_signed.f Format.word
  rw [k1]
  cases s
  · rw [if_neg (by decide), if_neg (by decide)]
  · rw [if_pos rfl, if_pos rfl]; refine congrArg some ?_; omega
theorem ge_sign (x : Nat) : decide ((x : Int) ≥ 2147483648) = sX x := by
  unfold sX; rw [Bool.eq_iff_iff]; simp only [decide_eq_true_eq]; omega
theorem quo_inf (s t : Bool) (n : Nat) (j : Int) : ((Datum.quotient (single.fractionBits + 2) (.infinity s) (.number t n j))).map single.write = some (single.word (s ^^ t) single.infRung) := rfl
theorem quo_nan (s : Bool) (f : Nat) (d : Datum) : ((Datum.quotient (single.fractionBits + 2) (.nan s f) d)).map single.write = none := by cases d <;> rfl
theorem quo_zero (s t : Bool) (b : Nat) (i j : Int) (hb : b ≠ 0) : (Datum.quotient (single.fractionBits + 2) (Datum.number s 0 i) (Datum.number t b j)).map single.write = some (single.word (s ^^ t) 0) := by
  rw [div_ieee s t 0 b i j hb, Nat.zero_shiftLeft, Nat.zero_div, Nat.zero_mod]
  simp [nearest_zero]
theorem xor_is (s t : Bool) : (s != t) = (s ^^ t) := rfl
theorem div_parts (k : Nat) (x y : Int) (s t : Bool) (a b i j : Int) (h : levyref17_Finite.f x = some true) (h0 : levyref17_parts.f x = some (s, a, i)) (h1 : levyref17_parts.f y = some (t, b, j)) : levyref17_Div.f k x y = if a = 0 then levyref17_signed.f (s ^^ t) 0 else levyref17_Div.l0 k s a i t b j := by
  unfold levyref17_Div.f
  rw [h, h0, h1, ← xor_is]
  simp only [Option.bind_some, if_true, bind_some]
theorem div_inf (k : Nat) (x y : Int) (s t n : Bool) (h : levyref17_Finite.f x = some false) (h2 : levyref17_NaN.f x = some n) (h0 : decide (x ≥ 2147483648) = s) (h1 : decide (y ≥ 2147483648) = t) : levyref17_Div.f k x y = if n = true then some 2143289344 else levyref17_signed.f (s ^^ t) 2139095040 := by
  unfold levyref17_Div.f
  rw [h, h2, h0, h1, ← xor_is]
  simp only [Option.bind_some, if_true, bind_some, Bool.false_eq_true, if_false]
theorem div_is (x y : Nat) (hx : x < 4294967296) (hy : y < 4294967296) (fy : y % 2147483648 < 2139095040) (hm : mX y ≠ 0) : Ev (fun k => levyref17_Div.f k (x : Int) (y : Int)) (orN (single.div x y)) := by
  have hd : single.div x y = ((single.read x).quotient (single.fractionBits + 2) (single.read y)).map single.write := rfl
  rw [hd, read_fin y hy fy]
  by_cases f1 : x % 2147483648 < 2139095040
  · rw [read_fin x hx f1]
    have h0 : levyref17_Finite.f (x : Int) = some true := by rw [fin_is, decide_eq_true f1]
    by_cases ha : mX x = 0
    · refine ⟨0, fun k _ => ?_⟩
      rw [ha, quo_zero _ _ _ _ _ hm, orN_some]
      refine (div_parts k _ _ _ _ _ _ _ _ h0 (parts_is x hx) (parts_is y hy)).trans ?_
      rw [if_pos (by omega)]
      exact signed_is _ 0 (by decide)
    · obtain ⟨i0, i1⟩ := e_in x f1
      obtain ⟨j0, j1⟩ := e_in y fy
      refine Ev.congr (f := fun k => levyref17_Div.l0 k (sX x) (mX x) (eX x) (sX y) (mX y) (eX y)) (fun k => ?_) ?_
      · refine (div_parts k _ _ _ _ _ _ _ _ h0 (parts_is x hx) (parts_is y hy)).trans ?_
        rw [if_neg (by omega)]
      · have hq := div_ieee (sX x) (sX y) (mX x) (mX y) (eX x) (eX y) hm
        rw [hq, orN_some]
        exact div_num _ _ _ _ _ _ ha hm (m_lt x) (m_lt y) (by omega) (by omega) (by omega) (by omega) (by omega) (by omega) _ hq
  · have h0 : levyref17_Finite.f (x : Int) = some false := by rw [fin_is, decide_eq_false f1]
    refine ⟨0, fun k _ => ?_⟩
    refine (div_inf k _ _ _ _ _ h0 (nan_is x) (ge_sign x) (ge_sign y)).trans ?_
    by_cases hn : 2139095040 < x % 2147483648
    · rw [if_pos (decide_eq_true hn), read_nan x hx hn, quo_nan]
      rfl
    · rw [if_neg (by simp [hn]), read_inf x hx (by omega), quo_inf, orN_some, k3]
      exact signed_is _ _ (by decide)
end Go.Proofs.Ytfhgomcfpmbhnaa.F
end

section
namespace Go.Proofs.Ytfhgomcfpmbhnaa.F
open Go.RowKit Go.Proofs.Ytfhgomcfpmbhnaa.Y Go.Proofs.Ytfhgomcfpmbhnaa.PS Ieee
open Go.Proofs.YtfhgomcfpmbhnaaW.PrintWords Go.Proofs.YtfhgomcfpmbhnaaW.PrintMore
set_option linter.unusedVariables false
set_option linter.unusedSimpArgs false
theorem word_parts (s : Bool) (r : Nat) (h0 : 8388608 ≤ r) (h1 : r < 2139095040) : single.word s r < 4294967296 ∧ single.word s r % 2147483648 = r ∧ sX (single.word s r) = s ∧ mX (single.word s r) = r % 8388608 + 8388608 ∧ eX (single.word s r) = ((r / 8388608 : Nat) : Int) - 150 := by
  have hw : single.word s r = (if s then 2147483648 + r else r) := by unfold Format.word; rw [k1]
  have hm : single.word s r % 2147483648 = r := by rw [hw]; split <;> omega
  refine ⟨by rw [hw]; split <;> omega, hm, ?_, ?_, ?_⟩
  · rw [hw]; unfold sX; cases s
    · rw [if_neg (by decide)]; exact decide_eq_false (by omega)
    · rw [if_pos rfl]; exact decide_eq_true (by omega)
  · unfold mX; rw [hm, if_neg (by omega)]
    have : single.word s r % 8388608 = r % 8388608 := by rw [hw]; split <;> omega
    omega
  · unfold eX; rw [hm, if_neg (by omega)]
theorem log2_23 (m : Nat) (h0 : 8388608 ≤ m) (h1 : m < 16777216) : m.log2 = 23 := (Nat.log2_eq_iff (by omega)).2 ⟨h0, h1⟩
end Go.Proofs.Ytfhgomcfpmbhnaa.F
end

section
namespace Go.Proofs.Ytfhgomcfpmbhnaa.F
open Go.RowKit Go.Proofs.Ytfhgomcfpmbhnaa.Y Go.Proofs.Ytfhgomcfpmbhnaa.PS Ieee
open Go.Proofs.YtfhgomcfpmbhnaaW.PrintWords Go.Proofs.YtfhgomcfpmbhnaaW.PrintMore
set_option linter.unusedVariables false
set_option linter.unusedSimpArgs false
def isNum (x : Nat) : Prop := x < 4294967296 ∧ x % 2147483648 ≤ 2139095040
theorem word_num (s : Bool) (r : Nat) (h : r ≤ 2139095040) : isNum (single.word s r) := by
  unfold isNum Format.word
  rw [k1]
  cases s
  · rw [if_neg (by decide)]; omega
  · rw [if_pos rfl]; omega
theorem nearest_num (s : Bool) (m : Nat) (e : Int) : isNum (single.nearest s m e) := by
  by_cases hm : m = 0
  · subst hm; rw [nearest_zero]; exact word_num s 0 (by decide)
  · rw [nearest_is s m e hm]; exact word_num s _ (Nat.min_le_right _ _)
theorem write_num (s : Bool) (m : Nat) (e : Int) : isNum (single.write (.number s m e)) := nearest_num s m e
theorem add_fin (x y : Nat) (hx : x < 4294967296) (hy : y < 4294967296) (fx : x % 2147483648 < 2139095040) (fy : y % 2147483648 < 2139095040) : ∃ r, single.add x y = some r ∧ isNum r := by
  unfold Format.add
  rw [read_fin x hx fx, read_fin y hy fy]
  have hsum : (Datum.number (sX x) (mX x) (eX x)).sum (Datum.number (sX y) (mX y) (eX y)) = some (sumD (sX x) (mX x) (eX x) (sX y) (mX y) (eX y)) := rfl
  rw [hsum]
  exact ⟨_, rfl, write_num _ _ _⟩
theorem sub_add (x y : Nat) (hy : y < 4294967296) : single.sub x y = single.add x (opp y) := by
  show ((single.read x).sum (single.read y).opposite).map single.write = ((single.read x).sum (single.read (opp y))).map single.write
  rw [read_opp y hy]
theorem sub_fin (x y : Nat) (hx : x < 4294967296) (hy : y < 4294967296) (fx : x % 2147483648 < 2139095040) (fy : y % 2147483648 < 2139095040) : ∃ r, single.sub x y = some r ∧ isNum r := by
  rw [sub_add x y hy]
  exact add_fin x (opp y) hx (opp_lt y hy) fx (by rw [opp_mod y hy]; exact fy)
end Go.Proofs.Ytfhgomcfpmbhnaa.F
end

section
namespace Go.Proofs.Ytfhgomcfpmbhnaa.F
open Go Ieee
set_option linter.unusedVariables false
set_option linter.unusedSimpArgs false
theorem nearest_units (s : Bool) (r : Nat) (hr : r < 2139095040) : single.nearest s (units r) (-149) = single.word s r := by
  unfold units
  by_cases h : r / 8388608 = 0
  · rw [if_pos h, Nat.mod_eq_of_lt (by omega)]
    by_cases h0 : r = 0
    · rw [h0, nearest_zero]
    · rw [nearest_is s r _ h0]
      have hl : r.log2 < 23 := (Nat.log2_lt h0).2 (by omega)
      have hp : lastP r (-149) = -149 := by unfold lastP; omega
      have hk : keptN r (-149) = r := by
        unfold keptN
        rw [hp]
        show cutE (r * 2 ^ 0) 0 = r
        rw [cutE_zero, Nat.pow_zero, Nat.mul_one]
      rw [hp, hk]
      refine congrArg (single.word s) ?_
      show min (0 * 8388608 + r) 2139095040 = r
      omega
  · rw [if_neg h]
    obtain ⟨q, hq⟩ : ∃ q, r / 8388608 = q + 1 := ⟨r / 8388608 - 1, by omega⟩
    rw [hq, Nat.add_sub_cancel]
    have hm : r % 8388608 + 8388608 ≠ 0 := by omega
    have e := nearest_scale s (r % 8388608 + 8388608) q ((q : Int) - 149)
    rw [show (q : Int) - 149 - (q : Int) = -149 by omega] at e
    rw [e, nearest_is s _ _ hm]
    have hl : (r % 8388608 + 8388608).log2 = 23 := log2_23 _ (by omega) (by omega)
    have hp : lastP (r % 8388608 + 8388608) ((q : Int) - 149) = (q : Int) - 149 := by unfold lastP; rw [hl]; omega
    have hk : keptN (r % 8388608 + 8388608) ((q : Int) - 149) = r % 8388608 + 8388608 := by
      unfold keptN
      rw [hp, Int.sub_self]
      show cutE ((r % 8388608 + 8388608) * 2 ^ 0) 0 = _
      rw [cutE_zero, Nat.pow_zero, Nat.mul_one]
    rw [hp, hk]
    refine congrArg (single.word s) ?_
    rw [show ((q : Int) - 149 + 149).toNat = q by omega]
    have hd := Nat.div_add_mod r 8388608
    rw [hq] at hd
    have hmin : q * 8388608 + (r % 8388608 + 8388608) = r := by
      generalize r % 8388608 = z at *
      omega
    rw [hmin]
    exact Nat.min_eq_left (Nat.le_of_lt hr)
def valI (x : Nat) : Int := pm (sX x) (units (x % 2147483648))
theorem valI_lt (x y : Nat) (hx : x < 4294967296) (hy : y < 4294967296) : valI x < valI y ↔ ordI x < ordI y := by
  rw [ordI_pm x hx, ordI_pm y hy]
  exact pm_lt _ _ _ _
theorem valI_opp (y : Nat) (hy : y < 4294967296) : valI (opp y) = - valI y := by
  unfold valI
  rw [opp_sign y hy, opp_mod y hy]
  cases sX y <;> simp [pm]
theorem add_units (x y : Nat) (hx : x < 4294967296) (hy : y < 4294967296) (fx : x % 2147483648 < 2139095040) (fy : y % 2147483648 < 2139095040) :
    single.add x y = some (if valI x + valI y = 0 then single.word (sX x && sX y) 0 else single.nearest (decide (valI x + valI y < 0)) (valI x + valI y).natAbs (-149)) := by
  unfold Format.add
  rw [read_fin x hx fx, read_fin y hy fy]
  have hsum : (Datum.number (sX x) (mX x) (eX x)).sum (Datum.number (sX y) (mX y) (eX y)) = some (sumD (sX x) (mX x) (eX x) (sX y) (mX y) (eX y)) := rfl
  rw [hsum]
  refine congrArg some ?_
  obtain ⟨i0, i1⟩ := e_in x fx
  obtain ⟨j0, j1⟩ := e_in y fy
  obtain ⟨k, hk⟩ : ∃ k : Nat, min (eX x) (eX y) = (k : Int) - 149 := ⟨(min (eX x) (eX y) + 149).toNat, by omega⟩
  have ex : signed (sX x) (mX x) (eX x - min (eX x) (eX y)).toNat * ((2 ^ k : Nat) : Int) = valI x := by
    unfold valI
    rw [signed_pm, pm_mul, Nat.mul_assoc, ← Nat.pow_add, ← units_is x fx]
    congr 3
    omega
  have ey : signed (sX y) (mX y) (eX y - min (eX x) (eX y)).toNat * ((2 ^ k : Nat) : Int) = valI y := by
    unfold valI
    rw [signed_pm, pm_mul, Nat.mul_assoc, ← Nat.pow_add, ← units_is y fy]
    congr 3
    omega
  unfold sumD Format.write
  simp only []
  generalize hA : signed (sX x) (mX x) (eX x - min (eX x) (eX y)).toNat = A at *
  generalize hB : signed (sX y) (mX y) (eX y - min (eX x) (eX y)).toNat = B at *
  have hp : (0 : Int) < ((2 ^ k : Nat) : Int) := by have : 0 < 2 ^ k := Nat.pow_pos (by decide); omega
  have hs : (A + B) * ((2 ^ k : Nat) : Int) = valI x + valI y := by rw [Int.add_mul, ex, ey]
  rw [← hs]
  by_cases h0 : A + B = 0
  · rw [h0, if_pos rfl, Int.zero_mul, if_pos rfl]
    show single.nearest _ 0 _ = _
    rw [nearest_zero]
  · rw [if_neg h0, if_neg (fun h => h0 (by rcases Int.mul_eq_zero.1 h with h | h; exact h; omega))]
    have e := nearest_scale (decide (A + B < 0)) (A + B).natAbs k (min (eX x) (eX y))
    rw [show min (eX x) (eX y) - (k : Int) = -149 by omega] at e
    rw [← e, Int.natAbs_mul, Int.natAbs_natCast]
    congr 1
    have : (A + B) * ((2 ^ k : Nat) : Int) < 0 ↔ A + B < 0 := by
      constructor
      · intro h
        by_cases h1 : A + B < 0
        · exact h1
        · have := Int.mul_nonneg (show 0 ≤ A + B by omega) (Int.le_of_lt hp)
          omega
      · intro h
        exact Int.mul_neg_of_neg_of_pos h hp
    rw [Bool.eq_iff_iff]
    simp only [decide_eq_true_eq]
    exact this.symm
theorem sub_units (x y : Nat) (hx : x < 4294967296) (hy : y < 4294967296) (fx : x % 2147483648 < 2139095040) (fy : y % 2147483648 < 2139095040) :
    single.sub x y = some (if valI x - valI y = 0 then single.word (sX x && !sX y) 0 else single.nearest (decide (valI x - valI y < 0)) (valI x - valI y).natAbs (-149)) := by
  rw [sub_add x y hy, add_units x (opp y) hx (opp_lt y hy) fx (by rw [opp_mod y hy]; exact fy), valI_opp y hy, opp_sign y hy, ← Int.sub_eq_add_neg]
theorem word_false (r : Nat) : single.word false r = r := rfl
theorem nearest_pos (s : Bool) (m : Nat) (hm : m ≠ 0) : ∃ r, 0 < r ∧ r ≤ 2139095040 ∧ single.nearest s m (-149) = single.word s r := by
  have e1 := nearest_units false 1 (by decide)
  rw [show units 1 = 1 by decide, nearest_rung false 1 (-149) (by decide), word_false, word_false] at e1
  have e2 := rung_mono 1 m (-149) (by omega)
  exact ⟨min (rung m (-149)) 2139095040, by omega, by omega, nearest_rung s m _ hm⟩
theorem word_at (s : Bool) (r : Nat) (h : r ≤ 2139095040) : single.word s r < 4294967296 ∧ single.word s r % 2147483648 = r ∧ sX (single.word s r) = s := by
  have hw : single.word s r = (if s then 2147483648 + r else r) := by unfold Format.word; rw [k1]
  refine ⟨by rw [hw]; split <;> omega, by rw [hw]; split <;> omega, ?_⟩
  rw [hw]; unfold sX; cases s
  · rw [if_neg (by decide)]; exact decide_eq_false (by omega)
  · rw [if_pos rfl]; exact decide_eq_true (by omega)
theorem mul_units (x y : Nat) (hx : x < 4294967296) (hy : y < 4294967296) (fx : x % 2147483648 < 2139095040) (fy : y % 2147483648 < 2139095040) :
    single.mul x y = some (single.nearest (sX x ^^ sX y) (units (x % 2147483648) * units (y % 2147483648)) (-149 - ((149 : Nat) : Int))) := by
  rw [mul_ieee x y hx hy fx fy]
  refine congrArg some ?_
  obtain ⟨i0, i1⟩ := e_in x fx
  obtain ⟨j0, j1⟩ := e_in y fy
  rw [← units_is x fx, ← units_is y fy]
  have e := nearest_scale (sX x ^^ sX y) (mX x * mX y) ((eX x + 149).toNat + (eX y + 149).toNat) (eX x + eX y)
  rw [show eX x + eX y - (((eX x + 149).toNat + (eX y + 149).toNat : Nat) : Int) = -149 - ((149 : Nat) : Int) by omega] at e
  rw [← e, Nat.pow_add]
  congr 1
  ac_rfl
theorem mX_zero (x : Nat) (fx : x % 2147483648 < 2139095040) : mX x = 0 ↔ x % 2147483648 = 0 := by
  unfold mX
  split <;> omega
theorem div_le_one (x y : Nat) (hx : x < 4294967296) (hy : y < 4294967296) (fy : y % 2147483648 < 2139095040) (hm : y % 2147483648 ≠ 0) (h : x % 2147483648 ≤ y % 2147483648) :
    ∃ r, r ≤ 1065353216 ∧ single.div x y = some (single.word (sX x ^^ sX y) r) ∧ (x % 2147483648 = 0 → r = 0) := by
  have fx : x % 2147483648 < 2139095040 := by omega
  have hb : mX y ≠ 0 := fun e => hm ((mX_zero y fy).1 e)
  unfold Format.div
  rw [read_fin x hx fx, read_fin y hy fy]
  by_cases h0 : x % 2147483648 = 0
  · rw [(mX_zero x fx).2 h0, quo_zero _ _ _ _ _ hb]
    exact ⟨0, by decide, rfl, fun _ => rfl⟩
  · have ha : mX x ≠ 0 := fun e => h0 ((mX_zero x fx).1 e)
    rw [div_ieee _ _ _ _ _ _ hb]
    obtain ⟨i0, i1⟩ := e_in x fx
    obtain ⟨j0, j1⟩ := e_in y fy
    have hu : mX x * 2 ^ (eX x + 149).toNat ≤ mX y * 2 ^ (eX y + 149).toNat := by
      rw [units_is x fx, units_is y fy]
      rcases Nat.lt_or_ge (x % 2147483648) (y % 2147483648) with h1 | h1
      · exact Nat.le_of_lt (units_lt _ _ h1)
      · rw [show x % 2147483648 = y % 2147483648 by omega]; exact Nat.le_refl _
    have ux := log2_scale (mX x) (eX x + 149).toNat ha
    have uy := log2_scale (mX y) (eX y + 149).toNat hb
    have hl : (mX x).log2 + (eX x + 149).toNat ≤ (mX y).log2 + (eX y + 149).toNat := by
      rw [← ux, ← uy]
      have hn : mX y * 2 ^ (eX y + 149).toNat ≠ 0 := Nat.mul_ne_zero hb (Nat.ne_of_gt (Nat.two_pow_pos _))
      exact (Nat.le_log2 hn).2 (Nat.le_trans (Nat.log2_self_le (Nat.mul_ne_zero ha (Nat.ne_of_gt (Nat.two_pow_pos _)))) hu)
    have la : (mX x).log2 < 24 := (Nat.log2_lt ha).2 (m_lt x)
    have lb : (mX y).log2 < 24 := (Nat.log2_lt hb).2 (m_lt y)
    generalize hi : (eX x + 149).toNat = i at *
    generalize hj : (eX y + 149).toNat = j at *
    rw [show eX x = (i : Int) - 149 by omega, show eX y = (j : Int) - 149 by omega]
    generalize mX x = a at *
    generalize mX y = b at *
    obtain ⟨k, hk⟩ : ∃ k, 25 + b.log2 - a.log2 = k := ⟨_, rfl⟩
    rw [hk, Nat.shiftLeft_eq]
    obtain ⟨p, hp⟩ : ∃ p, j + k = i + p := ⟨j + k - i, by omega⟩
    have hq : a * 2 ^ k ≤ b * 2 ^ p := by
      have h1 : a * 2 ^ i * 2 ^ k ≤ b * 2 ^ j * 2 ^ k := Nat.mul_le_mul_right _ hu
      rw [Nat.mul_assoc b, ← Nat.pow_add, hp, Nat.pow_add, Nat.mul_right_comm a, ← Nat.mul_assoc b, Nat.mul_right_comm b] at h1
      exact Nat.le_of_mul_le_mul_right h1 (Nat.two_pow_pos _)
    have hA0 : a * 2 ^ k ≠ 0 := Nat.mul_ne_zero ha (Nat.ne_of_gt (Nat.two_pow_pos _))
    generalize a * 2 ^ k = A at *
    have hA := Nat.div_add_mod A b
    have hbp : 0 < b := Nat.pos_of_ne_zero hb
    have hM := Nat.mod_lt A hbp
    have h2 : A / b ≤ 2 ^ p := (Nat.div_le_iff_le_mul_add_pred hbp).2 (by omega)
    have h3 : 2 * (A / b) + (A % b != 0).toNat ≤ 2 ^ (p + 1) := by
      rw [Nat.pow_succ]
      have hc : (A % b != 0).toNat ≤ 1 := Bool.toNat_le _
      by_cases h4 : A / b = 2 ^ p
      · rw [h4] at hA
        have h5 : A % b = 0 := by omega
        rw [h5, h4]
        show 2 * 2 ^ p + 0 ≤ _
        omega
      · omega
    have e : (i : Int) - 149 - ((j : Int) - 149) - (k : Int) - 1 = -((p + 1 : Nat) : Int) := by omega
    rw [e]
    have hr := rung_mono _ _ (-((p + 1 : Nat) : Int)) h3
    have e1 := nearest_scale false 1 (p + 1) 0
    rw [Nat.one_mul, nearest_rung false (2 ^ (p + 1)) _ (Nat.ne_of_gt (Nat.two_pow_pos _)), show (0 : Int) - ((p + 1 : Nat) : Int) = -((p + 1 : Nat) : Int) by omega, show single.nearest false 1 0 = 1065353216 by decide +kernel, word_false] at e1
    have hne : 2 * (A / b) + (A % b != 0).toNat ≠ 0 := by
      intro h6
      have h7 : A / b = 0 := by omega
      have h8 : A < b := by
        rcases Nat.lt_or_ge A b with h | h
        · exact h
        · have := Nat.div_pos h hbp
          omega
      have h9 : A % b = A := Nat.mod_eq_of_lt h8
      have h10 : (A % b != 0).toNat = 0 := by omega
      have h11 : A % b = 0 := by
        by_cases h12 : A % b = 0
        · exact h12
        · have : (A % b != 0) = true := by simpa using h12
          rw [this] at h10
          exact absurd h10 (by decide)
      omega
    refine ⟨min (rung (2 * (A / b) + (A % b != 0).toNat) (-((p + 1 : Nat) : Int))) 2139095040, by omega, congrArg some (nearest_rung _ _ _ hne), fun h => absurd h h0⟩
theorem whole_units (x : Nat) (fx : x % 2147483648 < 2139095040) : wholeN x = units (x % 2147483648) / 2 ^ 149 := by
  unfold wholeN
  obtain ⟨i0, i1⟩ := e_in x fx
  rw [← units_is x fx]
  by_cases h : 0 ≤ eX x
  · obtain ⟨n, hn⟩ : ∃ n : Nat, eX x = n := ⟨(eX x).toNat, by omega⟩
    rw [hn, show (-(n : Int)).toNat = 0 by omega, show ((n : Int) + 149).toNat = n + 149 by omega, Nat.pow_zero, Nat.div_one, Nat.pow_add, ← Nat.mul_assoc, Nat.mul_div_cancel _ (Nat.two_pow_pos _)]
    rfl
  · obtain ⟨n, hn⟩ : ∃ n : Nat, eX x = -(n : Int) := ⟨(-eX x).toNat, by omega⟩
    obtain ⟨q, hq⟩ : ∃ q, 149 = q + n := ⟨149 - n, by omega⟩
    rw [hn, show (-(n : Int)).toNat = 0 by omega, show (-(n : Int) + 149).toNat = q by omega, show (-(-(n : Int))).toNat = n by omega, Nat.pow_zero, Nat.mul_one, hq, Nat.pow_add, Nat.mul_comm (2 ^ q), Nat.mul_div_mul_right _ _ (Nat.two_pow_pos _)]
theorem units_le (a b : Nat) (h : a ≤ b) : units a ≤ units b := by
  rcases Nat.lt_or_ge a b with h1 | h1
  · exact Nat.le_of_lt (units_lt _ _ h1)
  · rw [show a = b by omega]; exact Nat.le_refl _
theorem whole_le (x y : Nat) (fy : y % 2147483648 < 2139095040) (h : x % 2147483648 ≤ y % 2147483648) : wholeN x ≤ wholeN y := by
  rw [whole_units x (by omega), whole_units y fy]
  exact Nat.div_le_div_right (units_le _ _ h)
end Go.Proofs.Ytfhgomcfpmbhnaa.F
end

-- Part 4 of the texts of the claim CS (wrote by programs: words of the kit's print.sh, printed functions; and my own texts; joined by wip/tools/pack.py).
import Derived.Test.YtfhgomcfpmbhnaaCS3
import Derived.Laws.FloatBits

section
namespace Go.Proofs.Ytfhgomcfpmbhnaa.F
open Go.Proofs.Ytfhgomcfpmbhnaa.Y Go.Proofs.Ytfhgomcfpmbhnaa.PS Ieee
set_option linter.unusedVariables false
set_option linter.unusedSimpArgs false
def cutE (n d : Nat) : Nat := n / 2 ^ d + if 2 ^ d < 2 * (n % 2 ^ d) ∨ (2 ^ d = 2 * (n % 2 ^ d) ∧ n / 2 ^ d % 2 = 1) then 1 else 0
theorem shl_one (d : Nat) : 1 <<< d = 2 ^ d := by rw [Nat.shiftLeft_eq, Nat.one_mul]
theorem cut_even (neg : Bool) (n d : Nat) : Toward.even.cut neg n d = cutE n d := by
  unfold Toward.cut cutE
  simp only [shl_one]
  have hlt := Nat.lt_log2_self (n := n)
  by_cases h : d ≤ n.log2 + 2
  · rw [Nat.min_eq_left h]
    congr 1
    by_cases h1 : 2 ^ d < 2 * (n % 2 ^ d)
    · simp [h1]
    · by_cases h2 : 2 ^ d = 2 * (n % 2 ^ d)
      · by_cases h3 : n / 2 ^ d % 2 = 1
        · simp [h1, ← h2, h3]
        · simp [h1, ← h2, h3]
      · simp [h1, h2]
  · have hle : n.log2 + 2 ≤ d := by omega
    rw [Nat.min_eq_right hle]
    have e1 : 2 ^ (n.log2 + 2) = 2 * 2 ^ (n.log2 + 1) := by rw [show n.log2 + 2 = (n.log2 + 1) + 1 from rfl, Nat.pow_succ, Nat.mul_comm]
    have e2 : 2 ^ (n.log2 + 2) ≤ 2 ^ d := Nat.pow_le_pow_right (by decide) hle
    have a1 : n / 2 ^ (n.log2 + 2) = 0 := Nat.div_eq_of_lt (by omega)
    have a2 : n % 2 ^ (n.log2 + 2) = n := Nat.mod_eq_of_lt (by omega)
    have a3 : n / 2 ^ d = 0 := Nat.div_eq_of_lt (by omega)
    have a4 : n % 2 ^ d = n := Nat.mod_eq_of_lt (by omega)
    rw [a1, a2, a3, a4]
    have h1 : ¬ 2 ^ (n.log2 + 2) < 2 * n := by omega
    have h2 : ¬ 2 ^ (n.log2 + 2) = 2 * n := by omega
    have h3 : ¬ 2 ^ d < 2 * n := by omega
    have h4 : ¬ 2 ^ d = 2 * n := by omega
    simp [h1, h3, h4]
theorem cutE_zero (n : Nat) : cutE n 0 = n := by
  unfold cutE
  simp [Nat.mod_one]
def lastP (m : Nat) (e : Int) : Int := max (e + m.log2 - 23) (-149)
def keptN (m : Nat) (e : Int) : Nat := cutE (m * 2 ^ (e - lastP m e).toNat) (lastP m e - e).toNat
theorem nearest_is (s : Bool) (m : Nat) (e : Int) (hm : m ≠ 0) : single.nearest s m e = single.word s (min ((lastP m e + 149).toNat * 8388608 + keptN m e) 2139095040) := by
  unfold Format.nearest
  rw [if_neg hm]
  simp only [cut_even, Nat.shiftLeft_eq]
  have h1 : single.leastPlace = -149 := by decide
  have h2 : single.binade = 8388608 := by decide
  have h3 : single.infRung = 2139095040 := by decide
  have h4 : (single.fractionBits : Int) = 23 := by decide
  rw [h1, h2, h3, h4]
  unfold keptN lastP
  rw [show ∀ x : Int, x - -149 = x + 149 from fun x => by omega]
end Go.Proofs.Ytfhgomcfpmbhnaa.F
end

section
namespace Go.Proofs.Ytfhgomcfpmbhnaa.F
open Go.Proofs.Ytfhgomcfpmbhnaa.Y Go.Proofs.Ytfhgomcfpmbhnaa.PS Ieee
set_option linter.unusedVariables false
set_option linter.unusedSimpArgs false
theorem sg_word (s : Bool) (b : Nat) : sgS s (b : Int) = ((single.word s b : Nat) : Int) := by
  unfold sgS Format.word
  have : single.signWeight = 2147483648 := by decide
  rw [this]
  cases s <;> simp
  omega
theorem gS_word (s : Bool) (m1 : Nat) (L : Int) (h : m1 ≤ 16777216) (hL : -149 ≤ L) (hs : m1 < 8388608 → L = -149) :
    gS s (m1 : Int) L = ((single.word s (min ((L + 149).toNat * 8388608 + m1) 2139095040) : Nat) : Int) := by
  rw [← sg_word]
  unfold gS fS
  by_cases h1 : (m1 : Int) = 16777216
  · rw [if_pos h1, if_neg (by decide)]
    by_cases h2 : L + 1 + 150 ≥ 255
    · rw [if_pos h2]; congr 1; omega
    · rw [if_neg h2]; congr 1; omega
  · rw [if_neg h1]
    by_cases h2 : (m1 : Int) < 8388608
    · rw [if_pos h2]; have := hs (by omega); congr 1; omega
    · rw [if_neg h2]
      by_cases h3 : L + 150 ≥ 255
      · rw [if_pos h3]; congr 1; omega
      · rw [if_neg h3]; congr 1; omega
theorem pow_cast (k : Nat) : (2 : Int) ^ k = ((2 ^ k : Nat) : Int) := by simp
theorem up_false (m k : Nat) (hk : 1 ≤ k) : upS (m : Int) (2 ^ k) false = decide (2 ^ k < 2 * (m % 2 ^ k) ∨ (2 ^ k = 2 * (m % 2 ^ k) ∧ m / 2 ^ k % 2 = 1)) := by
  obtain ⟨j, rfl⟩ : ∃ j, k = j + 1 := ⟨k - 1, by omega⟩
  have e0 : 2 ^ (j + 1) = 2 * 2 ^ j := by rw [Nat.pow_succ, Nat.mul_comm]
  unfold upS
  rw [pow_cast]
  have hr : (m : Int) % ((2 ^ (j + 1) : Nat) : Int) = ((m % 2 ^ (j + 1) : Nat) : Int) := (Int.natCast_emod _ _).symm
  have hq : (m : Int) / ((2 ^ (j + 1) : Nat) : Int) = ((m / 2 ^ (j + 1) : Nat) : Int) := (Int.natCast_ediv _ _).symm
  rw [hr, hq]
  generalize m % 2 ^ (j + 1) = r
  generalize m / 2 ^ (j + 1) = q
  rw [e0]
  generalize 2 ^ j = H
  rw [Bool.eq_iff_iff]
  simp only [Bool.or_eq_true, Bool.and_eq_true, decide_eq_true_eq, beq_iff_eq, Bool.false_or]
  omega
theorem bl_nat (m : Nat) (hm : m ≠ 0) : bl (m : Int) = m.log2 + 1 := by
  unfold bl
  have : ¬ (m : Int) = 0 := by omega
  simp [this, hm]
theorem sh_last (m : Nat) (e : Int) (hm : m ≠ 0) : shS (bl m) e = lastP m e - e := by
  have hb := bl_nat m hm
  rw [hb]
  unfold shS lastP
  split <;> omega
theorem m1_false (m : Nat) (e : Int) (hm : m ≠ 0) : m1S m (lastP m e - e) false = ((keptN m e : Nat) : Int) := by
  unfold m1S keptN
  by_cases h : 0 < lastP m e - e
  · rw [if_pos h, up_false m _ (by omega), show (e - lastP m e).toNat = 0 by omega, Nat.pow_zero, Nat.mul_one]
    unfold cutE
    rw [pow_cast, ← Int.natCast_ediv]
    by_cases hc : 2 ^ (lastP m e - e).toNat < 2 * (m % 2 ^ (lastP m e - e).toNat) ∨ (2 ^ (lastP m e - e).toNat = 2 * (m % 2 ^ (lastP m e - e).toNat) ∧ m / 2 ^ (lastP m e - e).toNat % 2 = 1)
    · rw [if_pos (decide_eq_true hc), if_pos hc]; push_cast; rfl
    · rw [if_neg (by rw [decide_eq_false hc]; decide), if_neg hc]; push_cast; omega
  · rw [if_neg h, show (lastP m e - e).toNat = 0 by omega, cutE_zero, show -(lastP m e - e) = e - lastP m e by omega, pow_cast]
    push_cast; rfl
theorem kept_le (m : Nat) (e : Int) (hm : m ≠ 0) : keptN m e ≤ 16777216 ∧ (keptN m e < 8388608 → lastP m e = -149) ∧ -149 ≤ lastP m e := by
  have hlt := Nat.lt_log2_self (n := m)
  have hle := Nat.log2_self_le hm
  have hL1 : e + m.log2 - 23 ≤ lastP m e := by unfold lastP; omega
  have hL2 : lastP m e = -149 ∨ lastP m e = e + m.log2 - 23 := by unfold lastP; omega
  have hL3 : -149 ≤ lastP m e := by unfold lastP; omega
  unfold keptN
  generalize lastP m e = L at *
  by_cases h : e ≤ L
  · obtain ⟨d, hd⟩ : ∃ d : Nat, L - e = d := ⟨(L - e).toNat, by omega⟩
    rw [show (e - L).toNat = 0 by omega, Nat.pow_zero, Nat.mul_one, show (L - e).toNat = d by omega]
    have h2 : m < 16777216 * 2 ^ d := by
      have : 2 ^ (m.log2 + 1) ≤ 2 ^ (24 + d) := Nat.pow_le_pow_right (by decide) (by omega)
      rw [Nat.pow_add 2 24 d] at this
      omega
    have h3 : m / 2 ^ d < 16777216 := Nat.div_lt_of_lt_mul (by rw [Nat.mul_comm]; exact h2)
    refine ⟨?_, fun hk => ?_, hL3⟩
    · have : ∀ p : Prop, [Decidable p] → (if p then 1 else 0 : Nat) ≤ 1 := fun p _ => by split <;> omega
      unfold cutE
      exact Nat.le_trans (Nat.add_le_add_left (this _) _) h3
    · rcases hL2 with h4 | h4
      · exact h4
      · exfalso
        have h5 : 2 ^ (23 + d) ≤ m := Nat.le_trans (Nat.pow_le_pow_right (by decide) (by omega)) hle
        rw [Nat.pow_add] at h5
        have h6 : 8388608 ≤ m / 2 ^ d := (Nat.le_div_iff_mul_le (Nat.pow_pos (by decide))).2 h5
        unfold cutE at hk
        omega
  · obtain ⟨d, hd⟩ : ∃ d : Nat, e - L = d := ⟨(e - L).toNat, by omega⟩
    rw [show (e - L).toNat = d by omega, show (L - e).toNat = 0 by omega, cutE_zero]
    refine ⟨?_, fun hk => ?_, hL3⟩
    · have h2 : m * 2 ^ d ≤ 2 ^ (m.log2 + 1) * 2 ^ d := Nat.mul_le_mul_right _ (by omega)
      rw [← Nat.pow_add] at h2
      exact Nat.le_trans h2 (Nat.le_trans (Nat.pow_le_pow_right (by decide) (by omega : m.log2 + 1 + d ≤ 24)) (by decide))
    · rcases hL2 with h4 | h4
      · exact h4
      · exfalso
        have h5 : 2 ^ m.log2 * 2 ^ d ≤ m * 2 ^ d := Nat.mul_le_mul_right _ hle
        rw [← Nat.pow_add, show m.log2 + d = 23 by omega] at h5
        omega
theorem rr_false (s : Bool) (m : Nat) (e : Int) : rrS s m e (bl m) false = ((single.nearest s m e : Nat) : Int) := by
  by_cases hm : m = 0
  · subst hm
    have hb : bl ((0 : Nat) : Int) = 0 := rfl
    unfold rrS
    rw [hb]
    have hn : single.nearest s 0 e = single.word s 0 := by simp [Format.nearest]
    rw [hn, ← sg_word]
    by_cases h : 0 < shS 0 e
    · rw [if_pos h]; rfl
    · rw [if_neg h]
      have : m1S ((0 : Nat) : Int) (shS 0 e) false = 0 := by unfold m1S; rw [if_neg h]; simp
      rw [this]
      rfl
  · obtain ⟨k1, k2, k3⟩ := kept_le m e hm
    rw [nearest_is s m e hm]
    unfold rrS
    rw [sh_last m e hm]
    by_cases h : bl m < lastP m e - e
    · rw [if_pos h]
      have hlt := Nat.lt_log2_self (n := m)
      have hb := bl_nat m hm
      rw [hb] at h
      have h2 : lastP m e = -149 := by unfold lastP at h ⊢; omega
      have h0 : keptN m e = 0 := by
        unfold keptN
        rw [show (e - lastP m e).toNat = 0 by omega, Nat.pow_zero, Nat.mul_one]
        obtain ⟨d, hd⟩ : ∃ d : Nat, lastP m e - e = d + 1 := ⟨(lastP m e - e).toNat - 1, by omega⟩
        rw [show (lastP m e - e).toNat = d + 1 by omega]
        have h3 : 2 ^ (m.log2 + 1) ≤ 2 ^ d := Nat.pow_le_pow_right (by decide) (by omega)
        have h4 : 2 ^ (d + 1) = 2 * 2 ^ d := by rw [Nat.pow_succ, Nat.mul_comm]
        unfold cutE
        rw [Nat.div_eq_of_lt (by omega), Nat.mod_eq_of_lt (by omega), if_neg (by omega)]
      rw [h0, h2, ← sg_word]
      rfl
    · rw [if_neg h, m1_false m e hm, show e + (lastP m e - e) = lastP m e by omega]
      exact gS_word s _ _ k1 k3 k2
end Go.Proofs.Ytfhgomcfpmbhnaa.F
end

section
namespace Go.Proofs.Ytfhgomcfpmbhnaa.F
open Go.Proofs.Ytfhgomcfpmbhnaa.Y Go.Proofs.Ytfhgomcfpmbhnaa.PS Ieee
open Go.RowKit Go.Proofs.YtfhgomcfpmbhnaaW.PrintWords Go.Proofs.YtfhgomcfpmbhnaaW.PrintMore
set_option linter.unusedVariables false
set_option linter.unusedSimpArgs false
def sX (x : Nat) : Bool := decide (2147483648 ≤ x)
def mX (x : Nat) : Nat := if x % 2147483648 / 8388608 = 0 then x % 8388608 else x % 8388608 + 8388608
def eX (x : Nat) : Int := if x % 2147483648 / 8388608 = 0 then -149 else ((x % 2147483648 / 8388608 : Nat) : Int) - 150
theorem k1 : single.signWeight = 2147483648 := by decide
theorem k2 : single.binade = 8388608 := by decide
theorem k3 : single.infRung = 2139095040 := by decide
theorem k4 : single.leastPlace = -149 := by decide
theorem sX_is (x : Nat) (h : x < 4294967296) : (x / 2147483648 % 2 == 1) = sX x := by
  unfold sX
  rw [Bool.eq_iff_iff]
  simp only [beq_iff_eq, decide_eq_true_eq]
  omega
theorem read_fin (x : Nat) (h : x < 4294967296) (hf : x % 2147483648 < 2139095040) : single.read x = .number (sX x) (mX x) (eX x) := by
  unfold Format.read
  rw [k1, k2, k3, k4, sX_is x h]
  simp only []
  by_cases h1 : x % 2147483648 < 8388608
  · rw [if_pos h1]
    have : x % 2147483648 / 8388608 = 0 := by omega
    unfold mX eX
    rw [if_pos this, if_pos this]
    congr 1; omega
  · rw [if_neg h1, if_pos hf]
    have : ¬ x % 2147483648 / 8388608 = 0 := by omega
    unfold mX eX
    rw [if_neg this, if_neg this]
    congr 1
    · omega
    · omega
theorem read_inf (x : Nat) (h : x < 4294967296) (hf : x % 2147483648 = 2139095040) : single.read x = .infinity (sX x) := by
  unfold Format.read
  rw [k1, k2, k3, k4, sX_is x h]
  simp only []
  rw [if_neg (by omega), if_neg (by omega), if_pos hf]
theorem read_nan (x : Nat) (h : x < 4294967296) (hf : 2139095040 < x % 2147483648) : single.read x = .nan (sX x) (x % 2147483648 - 2139095040) := by
  unfold Format.read
  rw [k1, k2, k3, k4, sX_is x h]
  simp only []
  rw [if_neg (by omega), if_neg (by omega), if_neg (by omega)]
theorem e_in (x : Nat) (hf : x % 2147483648 < 2139095040) : -149 ≤ eX x ∧ eX x ≤ 104 := by unfold eX; split <;> omega
theorem nan_is (x : Nat) : levyref17_NaN.f (x : Int) = some (decide (2139095040 < x % 2147483648)) := by
  unfold levyref17_NaN.f
  rw [Int.tmod_eq_emod_of_nonneg (by omega)]
  refine congrArg some ?_
  rw [Bool.eq_iff_iff]; simp only [decide_eq_true_eq]; omega
theorem rounded_whole (s : Bool) (m : Nat) (h : m ≤ 9223372036854775808) : levyref17_rounded.f s (m : Int) 0 false = some ((single.nearest s m 0 : Nat) : Int) := by
  unfold levyref17_rounded.f
  rw [if_pos ⟨by omega, by omega, by decide, by decide, .inr (by decide)⟩, rr_false]
end Go.Proofs.Ytfhgomcfpmbhnaa.F
end

section
namespace Go.Proofs.Ytfhgomcfpmbhnaa.F
open Go.RowKit Go.Proofs.Ytfhgomcfpmbhnaa.Y Go.Proofs.Ytfhgomcfpmbhnaa.PS Ieee
open Go.Proofs.YtfhgomcfpmbhnaaW.PrintWords Go.Proofs.YtfhgomcfpmbhnaaW.PrintMore
set_option linter.unusedVariables false
set_option linter.unusedSimpArgs false
theorem bind_some {α : Type} (o : Option α) : (o.bind fun x => some x) = o := by cases o <;> rfl
theorem whole_is (n : Int) (h0 : -9223372036854775808 ≤ n) (h1 : n < 9223372036854775808) : levyref17_Whole.f n = some ((FloatKind.f32.nearest n : Nat) : Int) := by
  unfold levyref17_Whole.f
  simp only [bind_some]
  have hf : FloatKind.f32.nearest n = single.nearest (decide (n < 0)) n.natAbs 0 := rfl
  rw [hf]
  by_cases h : n < 0
  · rw [if_pos h, decide_eq_true h]
    have e1 : IntKind.u64.wrap (IntKind.u64.wrap (wrap64 (-(wrap64 (n + 1)))) + 1) = ((n.natAbs : Nat) : Int) := by
      rw [show wrap64 (n + 1) = n + 1 by unfold wrap64; omega, show wrap64 (-(n + 1)) = -(n + 1) by unfold wrap64; omega, u64_id (-(n + 1)) (by omega) (by omega), u64_id _ (by omega) (by omega)]
      omega
    rw [e1, rounded_whole true _ (by omega)]
  · rw [if_neg h, decide_eq_false h]
    have e1 : IntKind.u64.wrap n = ((n.natAbs : Nat) : Int) := by
      rw [u64_id _ (by omega) (by omega)]
      omega
    rw [e1, rounded_whole false _ (by omega)]
end Go.Proofs.Ytfhgomcfpmbhnaa.F
end

section
namespace Go.Proofs.Ytfhgomcfpmbhnaa.F
open Go.RowKit Go.Proofs.Ytfhgomcfpmbhnaa.Y Go.Proofs.Ytfhgomcfpmbhnaa.PS Ieee
open Go.Proofs.YtfhgomcfpmbhnaaW.PrintWords Go.Proofs.YtfhgomcfpmbhnaaW.PrintMore
set_option linter.unusedVariables false
set_option linter.unusedSimpArgs false
def units (r : Nat) : Nat := if r / 8388608 = 0 then r % 8388608 else (r % 8388608 + 8388608) * 2 ^ (r / 8388608 - 1)
theorem units_lt (a b : Nat) (h : a < b) : units a < units b := by
  unfold units
  by_cases hb : b / 8388608 = 0
  · have ha : a / 8388608 = 0 := by omega
    rw [if_pos ha, if_pos hb]; omega
  · rw [if_neg hb]
    have hp : 0 < 2 ^ (b / 8388608 - 1) := Nat.pow_pos (by decide)
    have h1 : 8388608 * 2 ^ (b / 8388608 - 1) ≤ (b % 8388608 + 8388608) * 2 ^ (b / 8388608 - 1) := Nat.mul_le_mul_right _ (by omega)
    by_cases ha : a / 8388608 = 0
    · rw [if_pos ha]; omega
    · rw [if_neg ha]
      by_cases he : a / 8388608 = b / 8388608
      · rw [he]
        exact Nat.mul_lt_mul_of_pos_right (by omega) hp
      · have h2 : (a % 8388608 + 8388608) * 2 ^ (a / 8388608 - 1) < 16777216 * 2 ^ (a / 8388608 - 1) := Nat.mul_lt_mul_of_pos_right (by omega) (Nat.pow_pos (by decide))
        have h3 : 2 ^ (a / 8388608 - 1 + 1) ≤ 2 ^ (b / 8388608 - 1) := Nat.pow_le_pow_right (by decide) (by omega)
        rw [Nat.pow_succ] at h3
        omega
theorem units_iff (a b : Nat) : units a < units b ↔ a < b := by
  refine ⟨fun h => ?_, units_lt a b⟩
  rcases Nat.lt_trichotomy a b with h1 | h1 | h1
  · exact h1
  · subst h1; omega
  · have := units_lt b a h1; omega
theorem units_zero (a : Nat) : 0 < units a ↔ 0 < a := by
  have := units_iff 0 a
  have h0 : units 0 = 0 := by decide
  rwa [h0] at this
theorem units_is (x : Nat) (hf : x % 2147483648 < 2139095040) : mX x * 2 ^ (eX x + 149).toNat = units (x % 2147483648) := by
  unfold mX eX units
  have h1 : x % 2147483648 % 8388608 = x % 8388608 := by omega
  by_cases h : x % 2147483648 / 8388608 = 0
  · rw [if_pos h, if_pos h, if_pos h, h1]; simp
  · rw [if_neg h, if_neg h, if_neg h, h1]
    congr 2; omega
def ordI (x : Nat) : Int := if 2147483648 ≤ x then -((x : Int) - 2147483648) else x
def pm (s : Bool) (v : Nat) : Int := if s then -(v : Int) else v
theorem pm_lt (s t : Bool) (a b : Nat) : pm s (units a) < pm t (units b) ↔ pm s a < pm t b := by
  have h1 := units_iff a b
  have h2 := units_iff b a
  have h3 := units_zero a
  have h4 := units_zero b
  generalize units a = u at *
  generalize units b = v at *
  cases s <;> cases t <;> simp only [pm, if_true, if_false, Bool.false_eq_true] <;> omega
theorem pm_mul (s : Bool) (a k : Nat) : pm s a * ((2 ^ k : Nat) : Int) = pm s (a * 2 ^ k) := by
  cases s <;> simp [pm, Int.neg_mul]
theorem pm_scale (s t : Bool) (a b k : Nat) : pm s a < pm t b ↔ pm s (a * 2 ^ k) < pm t (b * 2 ^ k) := by
  have hp : (0 : Int) < ((2 ^ k : Nat) : Int) := by have : 0 < 2 ^ k := Nat.pow_pos (by decide); omega
  rw [← pm_mul, ← pm_mul]
  exact (Int.mul_lt_mul_right hp).symm
theorem signed_pm (s : Bool) (a k : Nat) : signed s a k = pm s (a * 2 ^ k) := by
  unfold signed pm
  rw [Nat.shiftLeft_eq]
theorem ordI_pm (x : Nat) (hx : x < 4294967296) : ordI x = pm (sX x) (x % 2147483648) := by
  unfold ordI pm sX
  by_cases h : 2147483648 ≤ x
  · rw [if_pos h, decide_eq_true h, if_pos rfl]; omega
  · rw [if_neg h, decide_eq_false h, if_neg (by decide)]; omega
theorem order_f (x : Nat) (hx : x < 4294967296) : levyref17_order.f (x : Int) = some (ordI x) := by
  unfold levyref17_order.f ordI
  by_cases h : 2147483648 ≤ x
  · rw [if_pos (by omega), if_pos h]; refine congrArg some ?_; omega
  · rw [if_neg (by omega), if_neg h]; refine congrArg some ?_; unfold wrap64; omega
theorem cmp_of (a b c d : Int) (h : a < b ↔ c < d) (h' : b < a ↔ d < c) : compare a b = compare c d := by
  show compareOfLessAndEq a b = compareOfLessAndEq c d
  unfold compareOfLessAndEq
  by_cases h1 : a < b
  · rw [if_pos h1, if_pos (h.1 h1)]
  · rw [if_neg h1, if_neg (fun x => h1 (h.2 x))]
    by_cases h2 : a = b
    · rw [if_pos h2, if_pos (by omega)]
    · rw [if_neg h2, if_neg (by omega)]
theorem order_num (s t : Bool) (a b : Nat) (i j : Int) : (Datum.number s a i).order (Datum.number t b j) = some (compare (signed s a (i - min i j).toNat) (signed t b (j - min i j).toNat)) := rfl
theorem order_fin (x y : Nat) (hx : x < 4294967296) (hy : y < 4294967296) (fx : x % 2147483648 < 2139095040) (fy : y % 2147483648 < 2139095040) : single.order x y = some (compare (ordI x) (ordI y)) := by
  unfold Format.order
  rw [read_fin x hx fx, read_fin y hy fy, order_num, ordI_pm x hx, ordI_pm y hy, signed_pm, signed_pm]
  obtain ⟨i0, i1⟩ := e_in x fx
  obtain ⟨j0, j1⟩ := e_in y fy
  have ux := units_is x fx
  have uy := units_is y fy
  have hk : ∀ k : Nat, k = (min (eX x) (eX y) + 149).toNat → ∀ (s t : Bool), (pm s (mX x * 2 ^ (eX x - min (eX x) (eX y)).toNat) < pm t (mX y * 2 ^ (eX y - min (eX x) (eX y)).toNat) ↔ pm s (x % 2147483648) < pm t (y % 2147483648)) ∧ (pm t (mX y * 2 ^ (eX y - min (eX x) (eX y)).toNat) < pm s (mX x * 2 ^ (eX x - min (eX x) (eX y)).toNat) ↔ pm t (y % 2147483648) < pm s (x % 2147483648)) := by
    intro k hk s t
    have hp : (0 : Int) < ((2 ^ k : Nat) : Int) := by have : 0 < 2 ^ k := Nat.pow_pos (by decide); omega
    have ex : mX x * 2 ^ (eX x - min (eX x) (eX y)).toNat * 2 ^ k = units (x % 2147483648) := by
      rw [Nat.mul_assoc, ← Nat.pow_add, ← ux]; congr 2; omega
    have ey : mX y * 2 ^ (eX y - min (eX x) (eX y)).toNat * 2 ^ k = units (y % 2147483648) := by
      rw [Nat.mul_assoc, ← Nat.pow_add, ← uy]; congr 2; omega
    rw [← pm_lt s t (x % 2147483648) (y % 2147483648), ← pm_lt t s (y % 2147483648) (x % 2147483648), ← ex, ← ey]
    exact ⟨pm_scale _ _ _ _ k, pm_scale _ _ _ _ k⟩
  exact congrArg some (cmp_of _ _ _ _ (hk _ rfl _ _).1 (hk _ rfl _ _).2)
theorem order_is (x y : Nat) (hx : x < 4294967296) (hy : y < 4294967296) (nx : x % 2147483648 ≤ 2139095040) (ny : y % 2147483648 ≤ 2139095040) : single.order x y = some (compare (ordI x) (ordI y)) := by
  by_cases fx : x % 2147483648 < 2139095040
  · by_cases fy : y % 2147483648 < 2139095040
    · exact order_fin x y hx hy fx fy
    · have hi : y % 2147483648 = 2139095040 := by omega
      unfold Format.order
      rw [read_fin x hx fx, read_inf y hy hi, ordI_pm x hx, ordI_pm y hy, hi]
      generalize sX y = t
      show some (if t then Ordering.gt else .lt) = _
      refine congrArg some ?_
      generalize x % 2147483648 = r at *
      show _ = compareOfLessAndEq (pm (sX x) r) (pm t 2139095040)
      generalize sX x = s
      unfold compareOfLessAndEq
      cases s <;> cases t <;> simp only [pm, if_true, if_false, Bool.false_eq_true]
      · rw [if_pos (by omega)]
      · rw [if_neg (by omega), if_neg (by omega)]
      · rw [if_pos (by omega)]
      · rw [if_neg (by omega), if_neg (by omega)]
  · have hi : x % 2147483648 = 2139095040 := by omega
    by_cases fy : y % 2147483648 < 2139095040
    · unfold Format.order
      rw [read_inf x hx hi, read_fin y hy fy, ordI_pm x hx, ordI_pm y hy, hi]
      generalize sX x = t
      show some (if t then Ordering.lt else .gt) = _
      refine congrArg some ?_
      generalize y % 2147483648 = r at *
      generalize sX y = s
      show _ = compareOfLessAndEq (pm t 2139095040) (pm s r)
      unfold compareOfLessAndEq
      cases s <;> cases t <;> simp only [pm, if_true, if_false, Bool.false_eq_true]
      · rw [if_neg (by omega), if_neg (by omega)]
      · rw [if_pos (by omega)]
      · rw [if_neg (by omega), if_neg (by omega)]
      · rw [if_pos (by omega)]
    · have hi2 : y % 2147483648 = 2139095040 := by omega
      unfold Format.order
      rw [read_inf x hx hi, read_inf y hy hi2, ordI_pm x hx, ordI_pm y hy, hi, hi2]
      generalize sX x = s
      generalize sX y = t
      cases s <;> cases t <;> rfl
theorem order_nan (x y : Nat) (hx : x < 4294967296) (hy : y < 4294967296) (h : 2139095040 < x % 2147483648 ∨ 2139095040 < y % 2147483648) : single.order x y = none := by
  unfold Format.order
  rcases h with h | h
  · rw [read_nan x hx h]; cases single.read y <;> rfl
  · rw [read_nan y hy h]; cases single.read x <;> rfl
theorem same_is (x y : Nat) (hx : x < 4294967296) (hy : y < 4294967296) : levyref17_Same.f (x : Int) (y : Int) = some (single.order x y == some Ordering.eq) := by
  unfold levyref17_Same.f
  rw [nan_is, nan_is, order_f x hx, order_f y hy]
  simp only [Option.bind_some, decide_eq_true_eq]
  by_cases n1 : 2139095040 < x % 2147483648
  · rw [if_pos n1, order_nan x y hx hy (.inl n1)]; rfl
  · by_cases n2 : 2139095040 < y % 2147483648
    · rw [if_neg n1, if_pos n2, order_nan x y hx hy (.inr n2)]; rfl
    · rw [if_neg n1, if_neg n2, order_is x y hx hy (by omega) (by omega)]
      refine congrArg some ?_
      generalize ordI x = a
      generalize ordI y = b
      show _ = (some (compareOfLessAndEq a b) == some Ordering.eq)
      unfold compareOfLessAndEq
      by_cases h1 : a < b
      · rw [if_pos h1, beq_eq_false_iff_ne.2 (by omega)]; rfl
      · rw [if_neg h1]; by_cases h2 : a = b
        · rw [if_pos h2, h2, beq_self_eq_true]; rfl
        · rw [if_neg h2, beq_eq_false_iff_ne.2 h2]; rfl
end Go.Proofs.Ytfhgomcfpmbhnaa.F
end

section
namespace Go.Proofs.Ytfhgomcfpmbhnaa.F
open Go.RowKit Go.Proofs.Ytfhgomcfpmbhnaa.Y Go.Proofs.Ytfhgomcfpmbhnaa.PS Ieee
open Go.Proofs.YtfhgomcfpmbhnaaW.PrintWords Go.Proofs.YtfhgomcfpmbhnaaW.PrintMore
set_option linter.unusedVariables false
set_option linter.unusedSimpArgs false
theorem nearest_mid (s : Bool) (m : Nat) (e : Int) (hm : m ≠ 0) (h0 : -126 ≤ e + m.log2) (h1 : e + m.log2 ≤ 126) : ∃ r : Nat, single.nearest s m e = single.word s r ∧ (e + m.log2 + 127) * 8388608 ≤ r ∧ (r : Int) ≤ (e + m.log2 + 128) * 8388608 := by
  obtain ⟨k1, k2, k3⟩ := kept_le m e hm
  have hL : lastP m e = e + m.log2 - 23 := by unfold lastP; omega
  have hle := Nat.log2_self_le hm
  have hk : 8388608 ≤ keptN m e := by
    unfold keptN
    rw [hL]
    by_cases h : e ≤ e + m.log2 - 23
    · obtain ⟨d, hd⟩ : ∃ d : Nat, (m.log2 : Int) - 23 = d := ⟨((m.log2 : Int) - 23).toNat, by omega⟩
      rw [show (e - (e + m.log2 - 23)).toNat = 0 by omega, Nat.pow_zero, Nat.mul_one, show (e + m.log2 - 23 - e).toNat = d by omega]
      have h5 : 2 ^ (23 + d) ≤ m := Nat.le_trans (Nat.pow_le_pow_right (by decide) (by omega)) hle
      rw [Nat.pow_add] at h5
      have h6 : 8388608 ≤ m / 2 ^ d := (Nat.le_div_iff_mul_le (Nat.pow_pos (by decide))).2 h5
      unfold cutE
      exact Nat.le_trans h6 (Nat.le_add_right _ _)
    · obtain ⟨d, hd⟩ : ∃ d : Nat, 23 - (m.log2 : Int) = d := ⟨(23 - (m.log2 : Int)).toNat, by omega⟩
      rw [show (e - (e + m.log2 - 23)).toNat = d by omega, show (e + m.log2 - 23 - e).toNat = 0 by omega, cutE_zero]
      have h5 : 2 ^ m.log2 * 2 ^ d ≤ m * 2 ^ d := Nat.mul_le_mul_right _ hle
      rw [← Nat.pow_add, show m.log2 + d = 23 by omega] at h5
      omega
  rw [nearest_is s m e hm, hL]
  refine ⟨_, rfl, ?_, ?_⟩
  · generalize keptN m e = z at *
    omega
  · generalize keptN m e = z at *
    omega
theorem word_parts (s : Bool) (r : Nat) (h0 : 8388608 ≤ r) (h1 : r < 2139095040) : single.word s r < 4294967296 ∧ single.word s r % 2147483648 = r ∧ sX (single.word s r) = s ∧ mX (single.word s r) = r % 8388608 + 8388608 ∧ eX (single.word s r) = ((r / 8388608 : Nat) : Int) - 150 := by
  have hw : single.word s r = (if s then 2147483648 + r else r) := by unfold Format.word; rw [k1]
  have hm : single.word s r % 2147483648 = r := by rw [hw]; split <;> omega
  refine ⟨by rw [hw]; split <;> omega, hm, ?_, ?_, ?_⟩
  · rw [hw]; unfold sX; cases s
    · rw [if_neg (by decide)]; exact decide_eq_false (by omega)
    · rw [if_pos rfl]; exact decide_eq_true (by omega)
  · unfold mX; rw [hm, if_neg (by omega)]
    have : single.word s r % 8388608 = r % 8388608 := by rw [hw]; split <;> omega
    omega
  · unfold eX; rw [hm, if_neg (by omega)]
end Go.Proofs.Ytfhgomcfpmbhnaa.F
end

section
namespace Go.Proofs.Ytfhgomcfpmbhnaa.F
open Go.RowKit Go.Proofs.Ytfhgomcfpmbhnaa.Y Go.Proofs.Ytfhgomcfpmbhnaa.PS Ieee
open Go.Proofs.YtfhgomcfpmbhnaaW.PrintWords Go.Proofs.YtfhgomcfpmbhnaaW.PrintMore
set_option linter.unusedVariables false
set_option linter.unusedSimpArgs false
def isNum (x : Nat) : Prop := x < 4294967296 ∧ x % 2147483648 ≤ 2139095040
theorem near_same (t : Nat) (h : isNum t) : levylaw17_near.f t (t : Int) = some true := by
  unfold levylaw17_near.f
  rw [nan_is, same_is t t h.1 h.1, order_is t t h.1 h.1 h.2 h.2]
  simp only [Option.bind_some, decide_eq_true_eq]
  have := h.2
  rw [if_neg (by omega)]
  refine congrArg some ?_
  generalize ordI t = a
  show (some (compareOfLessAndEq a a) == some Ordering.eq) = true
  unfold compareOfLessAndEq
  rw [if_neg (by omega), if_pos rfl]
  rfl
end Go.Proofs.Ytfhgomcfpmbhnaa.F
end

section
namespace Go.Proofs.Ytfhgomcfpmbhnaa.PS
open Go.RowKit Go.Proofs.YtfhgomcfpmbhnaaW.PrintWords Go.Proofs.YtfhgomcfpmbhnaaW.PrintMore
attribute [local go_sem] frun_add frun_sub frun_mul frun_quo frun_neg frun_of frun_same frun_store frun_bits frun_from
set_option linter.unusedVariables false
def tb (k : Nat) : Nat := if k = 0 then 1317011456 else if k = 1 then 1568669696 else if k = 2 then 2071986176 else 2139095040
theorem tb_ok (k : Nat) (h : k < 3) : fk_mul (tb k) (tb k) = true ∧ fl_mul (tb k) (tb k) = tb (k + 1) := by
  obtain rfl | rfl | rfl : k = 0 ∨ k = 1 ∨ k = 2 := by omega
  all_goals exact ⟨by kernel_rfl, by kernel_rfl⟩
set_option maxRecDepth 100000 in
set_option maxHeartbeats 4000000 in
theorem infinite_any (w : World) : Calls Try.prog 70 #[] w fun e w' => e = .returned (.float .f32 2139095040) ∧ Drawn0 w w' := by
  go_enter Try.func70, Try.ntmps70
  go_wp2
  go_loop [1, 2] (fun x i => ∃ k : Nat, k ≤ 3 ∧ i = .int .i64 k ∧ x = .float .f32 (tb k)) (fun _ i => 3 - (intOf i).toNat)
  case atStart => exact ⟨0, by omega, rfl, rfl⟩
  case round =>
    obtain ⟨k, hk, rfl, rfl⟩ := hrel
    by_cases hlt : k < 3
    · obtain ⟨hm, hv⟩ := tb_ok k hlt
      have HV := Aside0.mk hv
      clear hv
      go_wp2
      go_round
      case rel => exact ⟨k + 1, by omega, by go_num, by rw [HV.out]⟩
      case measure => simp [intOf]; omega
    · obtain rfl : k = 3 := by omega
      go_wp2
      go_ret
      exact ⟨rfl, Drawn0.refl _⟩
def fFin (x : Nat) : Bool := (FloatKind.f32.format.order x (fl_neg 2139095040) == some Ordering.gt) && (FloatKind.f32.format.order x 2139095040 == some Ordering.lt)
def curve_finite.f (a0 : Nat) : Option Bool := some (fFin a0)
set_option maxRecDepth 100000 in
set_option maxHeartbeats 4000000 in
theorem curve_finite.calls (a0 : Nat) (r : Bool) (w : World) (h : curve_finite.f a0 = some r) : Calls Try.prog 50 #[.float .f32 a0] w fun e w' => e = .returned (.bool r) ∧ Drawn0 w w' := by
  unfold curve_finite.f at h
  cases h
  unfold fFin
  cases h1 : (FloatKind.f32.format.order a0 (fl_neg 2139095040) == some Ordering.gt) with
  | true =>
    go_enter Try.func50, Try.ntmps50
    go_wp2_with (first | (go_at_call 70; refine (infinite_any _).mono ?_; rintro e w1 ⟨rfl, ⟨nd, rfl⟩⟩))
    go_ret
    exact ⟨by simp, by repeat (first | exact Drawn0.refl _ | apply Drawn0.step)⟩
  | false =>
    go_enter Try.func50, Try.ntmps50
    go_wp2_with (first | (go_at_call 70; refine (infinite_any _).mono ?_; rintro e w1 ⟨rfl, ⟨nd, rfl⟩⟩))
    go_ret
    exact ⟨by simp, by repeat (first | exact Drawn0.refl _ | apply Drawn0.step)⟩
end Go.Proofs.Ytfhgomcfpmbhnaa.PS
end

section
namespace Go.Proofs.Ytfhgomcfpmbhnaa.F
open Go.RowKit Go.Proofs.Ytfhgomcfpmbhnaa.Y Go.Proofs.Ytfhgomcfpmbhnaa.PS Ieee
open Go.Proofs.YtfhgomcfpmbhnaaW.PrintWords Go.Proofs.YtfhgomcfpmbhnaaW.PrintMore
set_option linter.unusedVariables false
set_option linter.unusedSimpArgs false
def dP (d : S73) : S58 := ⟨d.f0, d.f1.toNat⟩
def dB (d : S73) : S38 := ⟨d.f0, d.f1⟩
def Good (l : List S73) : Prop := l.length < 4611686018427387904 ∧ ∀ d ∈ l, (0 ≤ d.f1 ∧ d.f1 < 4294967296) ∧ -9223372036854775808 ≤ d.f0 ∧ d.f0 ≤ 9223372036854775807
theorem rd_P (l : List S73) (i : Int) : rd_T58 (l.map dP) i = dP (rd_T73 l i) := by
  unfold rd_T58 rd_T73
  rw [List.getD_eq_getElem?_getD, List.getD_eq_getElem?_getD, List.getElem?_map]
  cases l[i.toNat]? <;> rfl
theorem rd_B (l : List S73) (i : Int) : rd_T38 (l.map dB) i = dB (rd_T73 l i) := by
  unfold rd_T38 rd_T73
  rw [List.getD_eq_getElem?_getD, List.getD_eq_getElem?_getD, List.getElem?_map]
  cases l[i.toNat]? <;> rfl
theorem Good.at {l : List S73} (h : Good l) (i : Int) : (0 ≤ (rd_T73 l i).f1 ∧ (rd_T73 l i).f1 < 4294967296) ∧ -9223372036854775808 ≤ (rd_T73 l i).f0 ∧ (rd_T73 l i).f0 ≤ 9223372036854775807 := by
  unfold rd_T73
  rw [List.getD_eq_getElem?_getD]
  cases hc : l[i.toNat]? with
  | none => exact ⟨⟨by decide, by decide⟩, by decide, by decide⟩
  | some d => exact h.2 d (List.mem_of_getElem? hc)
def hB (l : List S73) (i : Int) : Nat := (rd_T73 l i).f1.toNat
def InOrd (l : List S73) (n : Int) : Prop := ∀ i : Int, 0 ≤ i → i < n → hB l i % 2147483648 < 2139095040 ∧ -9999999999999 ≤ (rd_T73 l i).f0 ∧ (rd_T73 l i).f0 ≤ 9999999999999 ∧ (0 < i → (rd_T73 l (i - 1)).f0 < (rd_T73 l i).f0)
end Go.Proofs.Ytfhgomcfpmbhnaa.F
end

/- The plain law of MoneyScales: the program's wide division, where the divisor is at most a thousand million, is the whole numbers'. -/
import Derived.Test.YtnjhjaifmgjljaaDoorPMx0
import Derived.Test.YtnjhjaifmgjljaaDoorPMx7
import Derived.Test.YtnjhjaifmgjljaaDoorPMx12
import Derived.Test.YtnjhjaifmgjljaaDoorPMx13
import Derived.Test.YtnjhjaifmgjljaaDoorPMx37
import Derived.Test.YtnjhjaifmgjljaaDoorPMx38
import Derived.Test.YtnjhjaifmgjljaaDoorPMx42
import Derived.Test.YtnjhjaifmgjljaaDoorPMx43
import Derived.Test.YtnjhjaifmgjljaaDoorPMx50
import Derived.Test.YtnjhjaifmgjljaaDoorPMx56
import Derived.Test.YtnjhjaifmgjljaaDoorPMx57
import Derived.Test.YtnjhjaifmgjljaaDoorPMx58
import Derived.Test.YtnjhjaifmgjljaaDoorPMx59
import Derived.Test.YtnjhjaifmgjljaaDoorPMx60
import Derived.Test.YtnjhjaifmgjljaaDoorQi2
import Derived.Laws.Bits64b
set_option linter.unusedSimpArgs false
namespace Go.Proofs.YtnjhjaifmgjljaaDoor.Pure
open Go.RowKit Go.Proofs.YtnjhjaifmgjljaaDoor.PM Go.Proofs.YtnjhjaifmgjljaaDoor.Q Go.Proofs.YtnjhjaifmgjljaaDoorW.PrintWords Go.Proofs.YtnjhjaifmgjljaaDoorW.PrintLast Go.Proofs.YtnjhjaifmgjljaaDoorW.PrintMore

theorem aux_lt : ∀ (f x : Nat), x < 2 ^ f → x < 2 ^ Lib.bitLenAux f x
  | 0, x, h => by simpa [Lib.bitLenAux] using h
  | f + 1, x, h => by
    unfold Lib.bitLenAux
    by_cases hx : x = 0
    · rw [if_pos hx]; simp [hx]
    · rw [if_neg hx, Nat.add_comm, Nat.pow_succ]
      have := aux_lt f (x / 2) (by rw [Nat.pow_succ] at h; omega)
      omega
theorem bitLen_lt (x : Nat) (h : x < 2 ^ 64) : x < 2 ^ Lib.bitLen x := aux_lt 64 x h

/-- The long division in two steps, in whole numbers. -/
theorem knuth (hi lo y P P' H : Int) (hy : 0 < y) (hP' : 0 < P') (hP : P = P' * 4294967296) (hH : 0 < H) (hPH : P * H = 18446744073709551616) (hyH : y < H) (h0 : 0 ≤ hi) (h1 : hi < y) (l0 : 0 ≤ lo) (l1 : lo < 18446744073709551616)
    (U Y1 Z q1 r1 z1 z0 U21 q0 r0 R : Int) (eU : U = hi * P + lo / H) (eY : Y1 = y * P') (eZ : Z = (lo % H) * P) (eq1 : q1 = U / Y1) (er1 : r1 = U % Y1) (ez1 : z1 = Z / 4294967296) (ez0 : z0 = Z % 4294967296)
    (eU21 : U21 = r1 * 4294967296 + z1) (eq0 : q0 = U21 / Y1) (er0 : r0 = U21 % Y1) (eR : R = r0 * 4294967296 + z0) :
    (hi * 18446744073709551616 + lo) / y = q1 * 4294967296 + q0 ∧ (hi * 18446744073709551616 + lo) % y = R / P ∧ 0 < Y1 ∧ Y1 < 4294967296 ∧ 0 ≤ U ∧ U < Y1 * 4294967296 ∧ 0 ≤ q1 ∧ q1 < 4294967296 ∧ 0 ≤ r1 ∧ r1 < Y1 ∧
      0 ≤ Z ∧ Z < 18446744073709551616 ∧ 0 ≤ U21 ∧ U21 < Y1 * 4294967296 ∧ 0 ≤ q0 ∧ q0 < 4294967296 ∧ 0 ≤ r0 ∧ r0 < Y1 ∧ 0 ≤ lo / H ∧ lo / H < P ∧ U = q1 * Y1 + r1 ∧ U21 = q0 * Y1 + r0 ∧ y * P = Y1 * 4294967296 ∧ y * P < 18446744073709551616 := by
  have hPp : 0 < P := by omega
  have hY1 : 0 < Y1 := by rw [eY]; exact Int.mul_pos hy hP'
  have hYP : y * P = Y1 * 4294967296 := by rw [hP, eY, Int.mul_assoc]
  have hyP : y * P < 18446744073709551616 := by
    have := Int.mul_lt_mul_of_pos_right hyH hPp
    rw [Int.mul_comm H P, hPH] at this; exact this
  have hlq0 : 0 ≤ lo / H := Int.ediv_nonneg l0 (by omega)
  have hlq1 : lo / H < P := Int.ediv_lt_of_lt_mul hH (by rw [hPH]; exact l1)
  have hlr0 := Int.emod_nonneg lo (show H ≠ 0 by omega)
  have hlr1 := Int.emod_lt_of_pos lo hH
  have hZ0 : 0 ≤ Z := by rw [eZ]; exact Int.mul_nonneg hlr0 (by omega)
  have hZ1 : Z < 18446744073709551616 := by
    rw [eZ]
    have := Int.mul_lt_mul_of_pos_right hlr1 hPp
    rw [Int.mul_comm H P, hPH] at this; exact this
  have hhP : 0 ≤ hi * P := Int.mul_nonneg h0 (by omega)
  have hhP1 : hi * P + P ≤ y * P := by
    have : (hi + 1) * P ≤ y * P := Int.mul_le_mul_of_nonneg_right (by omega) (by omega)
    rw [Int.add_mul, Int.one_mul] at this; exact this
  have hU0 : 0 ≤ U := by omega
  have hU1 : U < Y1 * 4294967296 := by omega
  have hq1a : 0 ≤ q1 := by rw [eq1]; exact Int.ediv_nonneg hU0 (by omega)
  have hq1b : q1 < 4294967296 := by rw [eq1]; exact Int.ediv_lt_of_lt_mul hY1 (by omega)
  have hr1a : 0 ≤ r1 := by rw [er1]; exact Int.emod_nonneg _ (by omega)
  have hr1b : r1 < Y1 := by rw [er1]; exact Int.emod_lt_of_pos _ hY1
  have hUs : U = q1 * Y1 + r1 := by rw [eq1, er1]; have := Int.emod_add_mul_ediv U Y1; rw [Int.mul_comm (U / Y1) Y1]; omega
  have hU21a : 0 ≤ U21 := by omega
  have hU21b : U21 < Y1 * 4294967296 := by omega
  have hq0a : 0 ≤ q0 := by rw [eq0]; exact Int.ediv_nonneg hU21a (by omega)
  have hq0b : q0 < 4294967296 := by rw [eq0]; exact Int.ediv_lt_of_lt_mul hY1 (by omega)
  have hr0a : 0 ≤ r0 := by rw [er0]; exact Int.emod_nonneg _ (by omega)
  have hr0b : r0 < Y1 := by rw [er0]; exact Int.emod_lt_of_pos _ hY1
  have hU21s : U21 = q0 * Y1 + r0 := by rw [eq0, er0]; have := Int.emod_add_mul_ediv U21 Y1; rw [Int.mul_comm (U21 / Y1) Y1]; omega
  have hMP : (hi * 18446744073709551616 + lo) * P = U * 18446744073709551616 + Z := by
    have e1 : lo = H * (lo / H) + lo % H := by have := Int.emod_add_mul_ediv lo H; omega
    have e2 : lo * P = (lo / H) * 18446744073709551616 + Z := by
      calc lo * P = (H * (lo / H) + lo % H) * P := by rw [← e1]
        _ = H * (lo / H) * P + lo % H * P := Int.add_mul _ _ _
        _ = (lo / H) * (P * H) + lo % H * P := by rw [Int.mul_comm H (lo / H), Int.mul_assoc, Int.mul_comm H P]
        _ = (lo / H) * 18446744073709551616 + Z := by rw [hPH, ← eZ]
    rw [Int.add_mul, e2, eU, Int.mul_right_comm]
    omega
  have hR : R < y * P := by omega
  have hR0 : 0 ≤ R := by omega
  have hD : ((hi * 18446744073709551616 + lo) - (q1 * 4294967296 + q0) * y) * P = R := by
    have e3 : (q1 * 4294967296 + q0) * y * P = (q1 * Y1) * 18446744073709551616 + (q0 * Y1) * 4294967296 := by
      rw [Int.mul_assoc, hYP, Int.add_mul, ← Int.mul_assoc q0 Y1, ← Int.mul_assoc (q1 * 4294967296) Y1, Int.mul_right_comm q1 4294967296 Y1]
      omega
    rw [Int.sub_mul, hMP, e3]
    omega
  generalize hDD : (hi * 18446744073709551616 + lo) - (q1 * 4294967296 + q0) * y = D at hD
  have hD0 : 0 ≤ D := by
    by_cases h : 0 ≤ D
    · exact h
    · have : D * P < 0 := Int.mul_neg_of_neg_of_pos (by omega) hPp
      omega
  have hD1 : D < y := by
    by_cases h : D < y
    · exact h
    · have : y * P ≤ D * P := Int.mul_le_mul_of_nonneg_right (by omega) (by omega)
      omega
  have hM : hi * 18446744073709551616 + lo = D + y * (q1 * 4294967296 + q0) := by rw [Int.mul_comm y]; omega
  refine ⟨?_, ?_, hY1, by omega, hU0, hU1, hq1a, hq1b, hr1a, hr1b, hZ0, hZ1, hU21a, hU21b, hq0a, hq0b, hr0a, hr0b, hlq0, hlq1, hUs, hU21s, hYP, hyP⟩
  · rw [hM, Int.add_mul_ediv_left _ _ (by omega), Int.ediv_eq_zero_of_lt hD0 hD1]; omega
  · rw [hM, Int.add_mul_emod_self_left, Int.emod_eq_of_lt hD0 hD1, ← hD, Int.mul_ediv_cancel _ (by omega)]
theorem wraps_u64 (n : Int) (h0 : 0 ≤ n) (h1 : n < 2 ^ 64) : IntKind.u64.wrap n = n := u64 h0 (by omega)
theorem wu (n : Int) : IntKind.u64.wrap n = n % 18446744073709551616 := rfl
theorem div64_is (hi lo y : Int) (h0 : 0 ≤ hi) (h1 : hi < y) (hy : y ≤ 1000000000) (l0 : 0 ≤ lo) (l1 : lo < 18446744073709551616) :
    Ev (fun k => bits_Div64.f k hi lo y) ((hi * 18446744073709551616 + lo) / y, (hi * 18446744073709551616 + lo) % y) := by
  have hy0 : 0 < y := by omega
  by_cases hz : hi = 0
  · subst hz
    refine Ev.congr (fun k => ?_) (Ev.now _)
    have := Int.ediv_le_self y l0
    unfold bits_Div64.f
    rw [if_neg (by omega), if_neg (by omega), if_pos rfl, Int.tdiv_eq_ediv_of_nonneg l0, Int.tmod_eq_emod_of_nonneg l0, u64 (x := lo / y) (Int.ediv_nonneg l0 (by omega)) (by omega)]
    simp
  · -- the shift
    have hbl := bitLen_lt y.toNat (by omega)
    have hbl30 : Lib.bitLen y.toNat ≤ 30 := Lib.bitLen_le y.toNat 30 (by omega) (by omega)
    generalize hL : Lib.bitLen y.toNat = L at *
    have hyH : y < (2 : Int) ^ L := by
      have : ((y.toNat : Nat) : Int) < ((2 ^ L : Nat) : Int) := by exact_mod_cast hbl
      rw [Int.toNat_of_nonneg (by omega)] at this
      simpa using this
    have hPH : (2 : Int) ^ (64 - L) * 2 ^ L = 18446744073709551616 := by
      rw [← Int.pow_add, show 64 - L + L = 64 by omega]; rfl
    have hPs : (2 : Int) ^ (64 - L) = 2 ^ (64 - L - 32) * 4294967296 := by
      rw [show (4294967296 : Int) = 2 ^ 32 from rfl, ← Int.pow_add, show 64 - L - 32 + 32 = 64 - L by omega]
    have hH : (0 : Int) < 2 ^ L := Int.pow_pos (by decide)
    have hP' : (0 : Int) < 2 ^ (64 - L - 32) := Int.pow_pos (by decide)
    have hn1 : (64 - (L : Int)).toNat = 64 - L := by omega
    have e64 : IntKind.u64.wrap (64 - (L : Int)) = 64 - (L : Int) := u64 (by omega) (by omega)
    have eback : (64 - (64 - (L : Int))) = (L : Int) := by omega
    have eL : IntKind.u64.wrap (64 - (64 - (L : Int))) = (L : Int) := by rw [eback]; exact u64 (by omega) (by omega)
    have hsh : ∀ x : Int, shl .u64 x (64 - (L : Int)) = IntKind.u64.wrap (x * 2 ^ (64 - L)) := by
      intro x; unfold shl; rw [hn1, Nat.min_eq_left (show 64 - L ≤ IntKind.u64.bits by show 64 - L ≤ 64; omega)]
    have hsr : ∀ x : Int, shr .u64 x (L : Int) = x / 2 ^ L := by
      intro x; unfold shr; rw [Int.toNat_natCast, Nat.min_eq_left (show L ≤ IntKind.u64.bits by show L ≤ 64; omega)]
    have hsr2 : ∀ x : Int, shr .u64 x (64 - (L : Int)) = x / 2 ^ (64 - L) := by
      intro x; unfold shr; rw [hn1, Nat.min_eq_left (show 64 - L ≤ IntKind.u64.bits by show 64 - L ≤ 64; omega)]
    obtain ⟨k1, k2, hY0, hY1, hU0, hU1, hq1a, hq1b, hr1a, hr1b, hZ0, hZ1, hV0, hV1, hq0a, hq0b, hr0a, hr0b, hl0, hl1, hUs, hVs, hYP, hyP⟩ :=
      knuth hi lo y (2 ^ (64 - L)) (2 ^ (64 - L - 32)) (2 ^ L) hy0 hP' hPs hH hPH hyH h0 h1 l0 l1 _ _ _ _ _ _ _ _ _ _ _ rfl rfl rfl rfl rfl rfl rfl rfl rfl rfl rfl
    have hhP : 0 ≤ hi * 2 ^ (64 - L) := Int.mul_nonneg h0 (by omega)
    have hlo : IntKind.u64.wrap (lo * 2 ^ (64 - L)) = (lo % 2 ^ L) * 2 ^ (64 - L) := by
      have e1 : lo = 2 ^ L * (lo / 2 ^ L) + lo % 2 ^ L := by have := Int.emod_add_mul_ediv lo (2 ^ L); omega
      have e2 : lo * 2 ^ (64 - L) = (lo % 2 ^ L) * 2 ^ (64 - L) + (lo / 2 ^ L) * 18446744073709551616 := by
        have e3 : lo * 2 ^ (64 - L) = (2 ^ L * (lo / 2 ^ L) + lo % 2 ^ L) * 2 ^ (64 - L) := by rw [← e1]
        rw [e3, Int.add_mul, Int.mul_comm (2 ^ L) (lo / 2 ^ L), Int.mul_assoc, Int.mul_comm (2 ^ L) (2 ^ (64 - L)), hPH]; omega
      rw [wu, e2]; omega
    have hhi : IntKind.u64.wrap (hi * 2 ^ (64 - L)) = hi * 2 ^ (64 - L) := u64 hhP (by omega)
    have hyy : IntKind.u64.wrap (y * 2 ^ (64 - L)) = y * 2 ^ (64 - L) := u64 (by rw [hYP]; omega) (by omega)
    have hor : Go.bits .or .u64 (hi * 2 ^ (64 - L)) (lo / 2 ^ L) = hi * 2 ^ (64 - L) + lo / 2 ^ L :=
      bits_join .u64 64 (by decide) wraps_u64 (64 - L) _ _ hhP (Int.mul_emod_left _ _) (by omega) hl0 hl1 (by omega)
    have hand : ∀ x : Int, 0 ≤ x → x < 18446744073709551616 → Go.bits .and .u64 x 4294967295 = x % 4294967296 := fun x a b => bits_mask .u64 64 (by decide) wraps_u64 32 (by decide) x a (by omega)
    have hyn1 : y * 2 ^ (64 - L) / 4294967296 = y * 2 ^ (64 - L - 32) := by rw [hYP]; omega
    have hyn0 : Go.bits .and .u64 (y * 2 ^ (64 - L)) 4294967295 = 0 := by rw [hand _ (by rw [hYP]; omega) hyP, hYP]; omega
    generalize eU : hi * 2 ^ (64 - L) + lo / 2 ^ L = U at *
    generalize eZ : (lo % 2 ^ L) * 2 ^ (64 - L) = Z at *
    generalize eY : y * (2 : Int) ^ (64 - L - 32) = Y1 at *
    generalize eq1 : U / Y1 = q1 at *
    generalize er1 : U % Y1 = r1 at *
    generalize eV : r1 * 4294967296 + Z / 4294967296 = V at *
    generalize eq0 : V / Y1 = q0 at *
    generalize er0 : V % Y1 = r0 at *
    generalize eyP : y * (2 : Int) ^ (64 - L) = YP at *
    have hA : q1 * YP = (q1 * Y1) * 4294967296 := by rw [hYP, Int.mul_assoc]
    have hB : q0 * YP = (q0 * Y1) * 4294967296 := by rw [hYP, Int.mul_assoc]
    have hqY : 0 ≤ q1 * Y1 := Int.mul_nonneg hq1a (by omega)
    have hqY0 : 0 ≤ q0 * Y1 := Int.mul_nonneg hq0a (by omega)
    rw [k1, k2]
    -- the second half
    have second : Ev (fun k => bits_Div64.l1 k YP (64 - (L : Int)) Y1 0 (Z % 4294967296) q1 r0 V q0) (q1 * 4294967296 + q0, (r0 * 4294967296 + Z % 4294967296) / 2 ^ (64 - L)) := by
      refine Ev.step (f := fun k => bits_Div64.j4 k YP (64 - (L : Int)) Y1 0 (Z % 4294967296) q1 r0 V q0 false) (fun k => ?_) (Ev.one fun k => ?_)
      · simp only [bits_Div64.l1]
        rw [if_neg (by omega)]
        congr 1
        refine decide_eq_false ?_
        rw [Int.mul_zero, wu 0, wu (4294967296 * r0)]
        rw [wu]
        omega
      · simp only [bits_Div64.j4]
        rw [if_neg (by simp), if_pos (by omega), u64 (x := q1 * 4294967296) (by omega) (by omega), u64 (x := q1 * 4294967296 + q0) (by omega) (by omega)]
        congr 2
        rw [hsr2]
        congr 1
        rw [hB, wu (V * 4294967296), wu (q0 * Y1 * 4294967296), wu, wu]
        omega
    unfold bits_Div64.f
    simp only [if_neg (show ¬ y = 0 by omega), if_neg (show ¬ y ≤ hi by omega), if_neg hz]
    have hlz : bits_LeadingZeros64.f y = some (64 - (L : Int)) := by
      unfold bits_LeadingZeros64.f; rw [if_pos (by omega), if_pos (by omega), hL]
    rw [hlz]
    simp only [Option.bind_some, e64, eL, hsh, hsr, eyP, hyy, hhi, hlo, hor, hyn0, hyn1]
    simp only [if_pos (show (0 : Int) ≤ 64 - (L : Int) by omega), if_pos (show (0 : Int) ≤ (L : Int) by omega), if_neg (show ¬ Y1 = 0 by omega)]
    rw [hand Z hZ0 hZ1, Int.tdiv_eq_ediv_of_nonneg hU0, eq1, u64 (x := q1) hq1a (by omega), u64 (x := q1 * Y1) hqY (by omega), u64 (x := U - q1 * Y1) (by omega) (by omega)]
    refine Ev.step (f := fun k => bits_Div64.j1 k YP (64 - (L : Int)) Y1 0 U (Z / 4294967296) (Z % 4294967296) q1 (U - q1 * Y1) false) (fun k => ?_)
      (Ev.step (f := fun k => bits_Div64.j2 k YP (64 - (L : Int)) Y1 0 U (Z / 4294967296) (Z % 4294967296) q1) (fun k => ?_) (Ev.step (fun k => ?_) second))
    · simp only [bits_Div64.l0]
      rw [if_neg (by omega)]
      congr 1
      refine decide_eq_false ?_
      rw [Int.mul_zero, wu 0, wu (4294967296 * (U - q1 * Y1))]
      rw [wu]
      omega
    · simp only [bits_Div64.j1]
      rw [if_neg (by simp)]
    · simp only [bits_Div64.j2]
      have hV : IntKind.u64.wrap (IntKind.u64.wrap (IntKind.u64.wrap (U * 4294967296) + Z / 4294967296) - IntKind.u64.wrap (q1 * YP)) = V := by
        rw [hA, wu (U * 4294967296), wu (q1 * Y1 * 4294967296), wu, wu]
        omega
      rw [hV, if_neg (by omega), Int.tdiv_eq_ediv_of_nonneg hV0, eq0, u64 (x := q0) hq0a (by omega), u64 (x := q0 * Y1) hqY0 (by omega), u64 (x := V - q0 * Y1) (by omega) (by omega)]
      rw [show V - q0 * Y1 = r0 by omega]
/-- What Scale answers. -/
def scaleS (a b num den m : Int) : Int × Int :=
  match flt [⟨a, b⟩] with
  | some v => v
  | none => if a = 1 ∧ -1000000000 ≤ num ∧ num ≤ 1000000000 ∧ 1 ≤ den ∧ den ≤ 1000000000 ∧ 1 ≤ m ∧ m ≤ 5 then
      boundS 1 (rnd m (decide (b < 0) != decide (num < 0)) (min (aabs b * aabs num / den) most) (aabs b * aabs num % den) den) else (6, 5)
theorem scale_bad (x y z u v : Int) : Ev (fun k => money_Scale.j0 k x y z true u v) (6, 5) := Ev.one fun k => by simp [money_Scale.j0, money_fault.f]
theorem scale_good (num den m a b : Int) (hb : -10000000000000 < b ∧ b < 10000000000000) (hn : -1000000000 ≤ num ∧ num ≤ 1000000000) (hd : 1 ≤ den ∧ den ≤ 1000000000) :
    Ev (fun k => money_Scale.j0 k num den m false a b) (boundS 1 (rnd m (decide (b < 0) != decide (num < 0)) (min (aabs b * aabs num / den) most) (aabs b * aabs num % den) den)) := by
  have h1 := aabs_range b hb.1 hb.2
  have h2 := aabs_range num (by omega) (by omega)
  have hm := mul_range b num hb hn
  refine Ev.step (f := fun k => if aabs b * aabs num / 18446744073709551616 ≥ den then some (6, 1) else (bits_Div64.f k (aabs b * aabs num / 18446744073709551616) (aabs b * aabs num % 18446744073709551616) den).bind fun q =>
      (money_rounded.f k q.1 q.2 den (decide (b < 0) != decide (num < 0)) m).bind fun n => if n.2 = true then (money_cents.f n.1).bind fun c => some (c.1, c.2) else some (6, 1)) (fun k => ?_) ?_
  · simp only [money_Scale.j0]
    rw [if_neg (by simp), amount_is b hb.1 hb.2, amount_is num (by omega) (by omega)]
    simp only [Option.bind_some]
    rw [mul64_is (aabs b) (aabs num) (by omega) (by omega), u64 (x := den) (by omega) (by omega)]
    simp only [Option.bind_some, money_fault.f]
  · generalize aabs b * aabs num = X at *
    have hq0 : 0 ≤ X / den := Int.ediv_nonneg hm.1 (by omega)
    have hr0 := Int.emod_nonneg X (show den ≠ 0 by omega)
    have hr1 := Int.emod_lt_of_pos X (show 0 < den by omega)
    have hX : X = X / 18446744073709551616 * 18446744073709551616 + X % 18446744073709551616 := by omega
    by_cases hhi : X / 18446744073709551616 ≥ den
    · simp only [if_pos hhi]
      have hbig : 18446744073709551616 ≤ X / den := by
        rw [Int.le_ediv_iff_mul_le (by omega)]
        omega
      rw [over_far _ _ _ _ _ (by unfold most; omega)]
      exact Ev.now _
    · simp only [if_neg hhi]
      have hdv := div64_is (X / 18446744073709551616) (X % 18446744073709551616) den (by omega) (by omega) (by omega) (by omega) (by omega)
      rw [← hX] at hdv
      have hlt : X / den < 18446744073709551616 := by
        refine Int.ediv_lt_of_lt_mul (by omega) ?_
        omega
      have h := rounded_is m (decide (b < 0) != decide (num < 0)) (X / den) (X % den) den hq0 (by omega) hr0 hr1 (by omega)
      refine Ev.bind hdv (Ev.bind h ?_)
      by_cases hq : X / den > 4611686018427387904
      · simp only [if_pos hq]
        rw [over_far _ _ _ _ _ (by unfold most; omega)]
        exact Ev.congr (fun k => by simp) (Ev.now _)
      · simp only [if_neg hq, if_true, cents_is, Option.bind_some]
        by_cases hmm : X / den ≤ most
        · rw [Int.min_eq_left hmm]; exact Ev.now _
        · rw [Int.min_eq_right (by omega), over_far _ _ most _ _ (by unfold most; omega), over_far _ _ (X / den) _ _ (by unfold most at hmm; omega)]; exact Ev.now _
theorem scale_is (a b num den m : Int) : Ev (fun k => money_Scale.f k a b num den m) (scaleS a b num den m) := by
  unfold money_Scale.f scaleS
  refine Ev.bind (Ev.seen [⟨a, b⟩] (by simp)) ?_
  cases hf : flt [⟨a, b⟩] with
  | some v => simp only [seenR]; exact Ev.congr (fun k => by simp) (Ev.now v)
  | none =>
    have hb : -10000000000000 < b ∧ b < 10000000000000 ∨ a ≠ 1 := by
      by_cases ha : a = 1
      · subst ha; exact Or.inl (vld_cents (flt_none hf ⟨1, b⟩ (by simp)).2.2)
      · exact Or.inr ha
    simp only [seenR, if_true]
    by_cases ha : a = 1
    · have hb := hb.resolve_right (fun h => h ha)
      simp only [if_pos ha]
      by_cases c1 : num < -1000000000
      · simp only [if_pos c1]; rw [if_neg (by omega)]; exact scale_bad _ _ _ _ _
      · by_cases c2 : num > 1000000000
        · simp only [if_neg c1, if_pos c2]; rw [if_neg (by omega)]; exact scale_bad _ _ _ _ _
        · by_cases c3 : den < 1
          · simp only [if_neg c1, if_neg c2, if_pos c3]; rw [if_neg (by omega)]; exact scale_bad _ _ _ _ _
          · by_cases c4 : den > 1000000000
            · simp only [if_neg c1, if_neg c2, if_neg c3, if_pos c4]; rw [if_neg (by omega)]; exact scale_bad _ _ _ _ _
            · simp only [if_neg c1, if_neg c2, if_neg c3, if_neg c4, modes_is, Option.bind_some]
              by_cases hm : 1 ≤ m ∧ m ≤ 5
              · rw [if_pos ⟨ha, by omega, by omega, by omega, by omega, hm.1, hm.2⟩]
                simp only [decide_eq_true hm, Bool.not_true]
                exact scale_good num den m a b hb (by omega) (by omega)
              · rw [if_neg (by omega)]
                simp only [decide_eq_false hm, Bool.not_false]
                exact scale_bad _ _ _ _ _
    · simp only [if_neg ha]
      rw [if_neg (fun h => ha h.1)]
      exact scale_bad _ _ _ _ _
theorem ref_scale_is (a b num den m : Int) : Ev (fun k => levyref1_Scale.f k a b num den m) (scaleS a b num den m) := by
  unfold levyref1_Scale.f scaleS
  refine Ev.bind (Ev.looked [⟨a, b⟩] (by simp)) ?_
  have bad : ∀ x y z u v, Ev (fun k => levyref1_Scale.j0 k x y z true u v) (6, 5) := fun x y z u v => Ev.one fun k => by simp [levyref1_Scale.j0, levyref1_bad.f]
  cases hf : flt [⟨a, b⟩] with
  | some v => simp only [lookR]; exact Ev.congr (fun k => by simp) (Ev.now v)
  | none =>
    simp only [lookR, within, isMode_is, Option.bind_some]
    try simp only [show ¬ (false = true) by decide, if_false]
    by_cases ha : a = 1
    · subst ha
      have hb : -10000000000000 < b ∧ b < 10000000000000 := vld_cents (flt_none hf ⟨1, b⟩ (by simp)).2.2
      simp only [if_true]
      by_cases c1 : -1000000000 ≤ num ∧ num ≤ 1000000000
      · by_cases c2 : 1 ≤ den ∧ den ≤ 1000000000
        · simp only [decide_eq_true c1, decide_eq_true c2, if_true]
          by_cases hm : 1 ≤ m ∧ m ≤ 5
          · rw [if_pos ⟨by simp, c1.1, c1.2, c2.1, c2.2, hm.1, hm.2⟩]
            simp only [decide_eq_true hm, Bool.not_true]
            have h1 := aabs_range b hb.1 hb.2
            have h2 := aabs_range num (by omega) (by omega)
            obtain ⟨r, hr, hv, hs, hl⟩ := digits_is (aabs b) h1.1 (by omega)
            obtain ⟨r2, hr2, hv2, hs2, hl2⟩ := digits_is (aabs num) h2.1 (by omega)
            obtain ⟨p, hp, hvp, hsp, hlp⟩ := product_is r r2 hs hs2 hl hl2
            have h := ref_rounded_is m (decide (b < 0) != decide (num < 0)) p den (by omega) (by omega) (small_mono hsp (by decide)) (by omega)
            rw [hvp, hv, hv2] at h
            refine Ev.step (f := fun k => (levyref1_digits.f k (aabs b)).bind fun t => (levyref1_digits.f k (aabs num)).bind fun t2 => (levyref1_product.f k t t2).bind fun x => (levyref1_rounded.f k x (decide (b < 0) != decide (num < 0)) den m).bind fun q => (levyref1_bounded.f 1 q).bind fun c => some (c.1, c.2)) (fun k => ?_)
              (Ev.bind hr (Ev.bind hr2 (Ev.bind hp (Ev.bind h (Ev.congr (fun k => ?_) (Ev.now _))))))
            · simp only [levyref1_Scale.j0]
              rw [if_neg (by simp), size_is b hb.1 hb.2, size_is num (by omega) (by omega)]; rfl
            · rw [bounded_is]; rfl
          · rw [if_neg (by omega)]
            simp only [decide_eq_false hm, Bool.not_false]
            exact bad _ _ _ _ _
        · rw [if_neg (by omega)]
          simp only [decide_eq_true c1, decide_eq_false c2, if_true]
          exact Ev.congr (fun k => by simp) (bad num den m 1 b)
      · rw [if_neg (by omega)]
        simp only [decide_eq_false c1]
        exact Ev.congr (fun k => by simp) (bad num den m 1 b)
    · simp only [if_neg ha]
      rw [if_neg (fun h => ha h.1)]
      exact bad _ _ _ _ _
theorem MoneyScales (x0 : S23) (num den m : Int) : ∃ k, levylaw1_MoneyScales.f k x0.f0 x0.f1 num den m = some true := by
  refine Ev.rounds ?_
  unfold levylaw1_MoneyScales.f
  exact Ev.bind (scale_is _ _ _ _ _) (Ev.bind (ref_scale_is _ _ _ _ _) (Ev.congr (fun k => by rw [same_pair]) (Ev.now true)))
end Go.Proofs.YtnjhjaifmgjljaaDoor.Pure

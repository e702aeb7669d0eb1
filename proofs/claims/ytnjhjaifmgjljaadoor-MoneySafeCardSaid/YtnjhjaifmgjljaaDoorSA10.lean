-- Part 10 of the texts of the claim SA (wrote by programs: words of the kit's print.sh, printed functions; and my own texts; joined by wip/tools/pack.py).
import Derived.Test.YtnjhjaifmgjljaaDoorSA9
import Derived.Laws.Bits64b

section
set_option linter.unusedSimpArgs false
namespace Go.Proofs.YtnjhjaifmgjljaaDoor.Pure
open Go.RowKit Go.Proofs.YtnjhjaifmgjljaaDoor.PM Go.Proofs.YtnjhjaifmgjljaaDoor.Q Go.Proofs.YtnjhjaifmgjljaaDoorW.PrintWords Go.Proofs.YtnjhjaifmgjljaaDoorW.PrintLast Go.Proofs.YtnjhjaifmgjljaaDoorW.PrintMore
theorem aux_lt : ∀ (f x : Nat), x < 2 ^ f → x < 2 ^ Lib.bitLenAux f x
  | 0, x, h => by simpa [Lib.bitLenAux] using h
  | f + 1, x, h => by
    unfold Lib.bitLenAux
    by_cases hx : x = 0
    · rw [if_pos hx]; simp [hx]
    · rw [if_neg hx, Nat.add_comm, Nat.pow_succ]
      have := aux_lt f (x / 2) (by rw [Nat.pow_succ] at h; omega)
      omega
theorem bitLen_lt (x : Nat) (h : x < 2 ^ 64) : x < 2 ^ Lib.bitLen x := aux_lt 64 x h
theorem knuth (hi lo y P P' H : Int) (hy : 0 < y) (hP' : 0 < P') (hP : P = P' * 4294967296) (hH : 0 < H) (hPH : P * H = 18446744073709551616) (hyH : y < H) (h0 : 0 ≤ hi) (h1 : hi < y) (l0 : 0 ≤ lo) (l1 : lo < 18446744073709551616)
    (U Y1 Z q1 r1 z1 z0 U21 q0 r0 R : Int) (eU : U = hi * P + lo / H) (eY : Y1 = y * P') (eZ : Z = (lo % H) * P) (eq1 : q1 = U / Y1) (er1 : r1 = U % Y1) (ez1 : z1 = Z / 4294967296) (ez0 : z0 = Z % 4294967296)
    (eU21 : U21 = r1 * 4294967296 + z1) (eq0 : q0 = U21 / Y1) (er0 : r0 = U21 % Y1) (eR : R = r0 * 4294967296 + z0) :
    (hi * 18446744073709551616 + lo) / y = q1 * 4294967296 + q0 ∧ (hi * 18446744073709551616 + lo) % y = R / P ∧ 0 < Y1 ∧ Y1 < 4294967296 ∧ 0 ≤ U ∧ U < Y1 * 4294967296 ∧ 0 ≤ q1 ∧ q1 < 4294967296 ∧ 0 ≤ r1 ∧ r1 < Y1 ∧
      0 ≤ Z ∧ Z < 18446744073709551616 ∧ 0 ≤ U21 ∧ U21 < Y1 * 4294967296 ∧ 0 ≤ q0 ∧ q0 < 4294967296 ∧ 0 ≤ r0 ∧ r0 < Y1 ∧ 0 ≤ lo / H ∧ lo / H < P ∧ U = q1 * Y1 + r1 ∧ U21 = q0 * Y1 + r0 ∧ y * P = Y1 * 4294967296 ∧ y * P < 18446744073709551616 := by
  have hPp : 0 < P := by omega
  have hY1 : 0 < Y1 := by rw [eY]; exact Int.mul_pos hy hP'
  have hYP : y * P = Y1 * 4294967296 := by rw [hP, eY, Int.mul_assoc]
  have hyP : y * P < 18446744073709551616 := by
    have := Int.mul_lt_mul_of_pos_right hyH hPp
    rw [Int.mul_comm H P, hPH] at this; exact this
  have hlq0 : 0 ≤ lo / H := Int.ediv_nonneg l0 (by omega)
  have hlq1 : lo / H < P := Int.ediv_lt_of_lt_mul hH (by rw [hPH]; exact l1)
  have hlr0 := Int.emod_nonneg lo (show H ≠ 0 by omega)
  have hlr1 := Int.emod_lt_of_pos lo hH
  have hZ0 : 0 ≤ Z := by rw [eZ]; exact Int.mul_nonneg hlr0 (by omega)
  have hZ1 : Z < 18446744073709551616 := by
    rw [eZ]
    have := Int.mul_lt_mul_of_pos_right hlr1 hPp
    rw [Int.mul_comm H P, hPH] at this; exact this
  have hhP : 0 ≤ hi * P := Int.mul_nonneg h0 (by omega)
  have hhP1 : hi * P + P ≤ y * P := by
    have : (hi + 1) * P ≤ y * P := Int.mul_le_mul_of_nonneg_right (by omega) (by omega)
    rw [Int.add_mul, Int.one_mul] at this; exact this
  have hU0 : 0 ≤ U := by omega
  have hU1 : U < Y1 * 4294967296 := by omega
  have hq1a : 0 ≤ q1 := by rw [eq1]; exact Int.ediv_nonneg hU0 (by omega)
  have hq1b : q1 < 4294967296 := by rw [eq1]; exact Int.ediv_lt_of_lt_mul hY1 (by omega)
  have hr1a : 0 ≤ r1 := by rw [er1]; exact Int.emod_nonneg _ (by omega)
  have hr1b : r1 < Y1 := by rw [er1]; exact Int.emod_lt_of_pos _ hY1
  have hUs : U = q1 * Y1 + r1 := by rw [eq1, er1]; have := Int.emod_add_mul_ediv U Y1; rw [Int.mul_comm (U / Y1) Y1]; omega
  have hU21a : 0 ≤ U21 := by omega
  have hU21b : U21 < Y1 * 4294967296 := by omega
  have hq0a : 0 ≤ q0 := by rw [eq0]; exact Int.ediv_nonneg hU21a (by omega)
  have hq0b : q0 < 4294967296 := by rw [eq0]; exact Int.ediv_lt_of_lt_mul hY1 (by omega)
  have hr0a : 0 ≤ r0 := by rw [er0]; exact Int.emod_nonneg _ (by omega)
  have hr0b : r0 < Y1 := by rw [er0]; exact Int.emod_lt_of_pos _ hY1
  have hU21s : U21 = q0 * Y1 + r0 := by rw [eq0, er0]; have := Int.emod_add_mul_ediv U21 Y1; rw [Int.mul_comm (U21 / Y1) Y1]; omega
  have hMP : (hi * 18446744073709551616 + lo) * P = U * 18446744073709551616 + Z := by
    have e1 : lo = H * (lo / H) + lo % H := by have := Int.emod_add_mul_ediv lo H; omega
    have e2 : lo * P = (lo / H) * 18446744073709551616 + Z := by
      calc lo * P = (H * (lo / H) + lo % H) * P := by rw [← e1]
        _ = H * (lo / H) * P + lo % H * P := Int.add_mul _ _ _
        _ = (lo / H) * (P * H) + lo % H * P := by rw [Int.mul_comm H (lo / H), Int.mul_assoc, Int.mul_comm H P]
        _ = (lo / H) * 18446744073709551616 + Z := by rw [hPH, ← eZ]
    rw [Int.add_mul, e2, eU, Int.mul_right_comm]
    omega
  have hR : R < y * P := by omega
  have hR0 : 0 ≤ R := by omega
  have hD : ((hi * 18446744073709551616 + lo) - (q1 * 4294967296 + q0) * y) * P = R := by
    have e3 : (q1 * 4294967296 + q0) * y * P = (q1 * Y1) * 18446744073709551616 + (q0 * Y1) * 4294967296 := by
      rw [Int.mul_assoc, hYP, Int.add_mul, ← Int.mul_assoc q0 Y1, ← Int.mul_assoc (q1 * 4294967296) Y1, Int.mul_right_comm q1 4294967296 Y1]
      omega
    rw [Int.sub_mul, hMP, e3]
    omega
  generalize hDD : (hi * 18446744073709551616 + lo) - (q1 * 4294967296 + q0) * y = D at hD
  have hD0 : 0 ≤ D := by
    by_cases h : 0 ≤ D
    · exact h
    · have : D * P < 0 := Int.mul_neg_of_neg_of_pos (by omega) hPp
      omega
  have hD1 : D < y := by
    by_cases h : D < y
    · exact h
    · have : y * P ≤ D * P := Int.mul_le_mul_of_nonneg_right (by omega) (by omega)
      omega
  have hM : hi * 18446744073709551616 + lo = D + y * (q1 * 4294967296 + q0) := by rw [Int.mul_comm y]; omega
  refine ⟨?_, ?_, hY1, by omega, hU0, hU1, hq1a, hq1b, hr1a, hr1b, hZ0, hZ1, hU21a, hU21b, hq0a, hq0b, hr0a, hr0b, hlq0, hlq1, hUs, hU21s, hYP, hyP⟩
  · rw [hM, Int.add_mul_ediv_left _ _ (by omega), Int.ediv_eq_zero_of_lt hD0 hD1]; omega
  · rw [hM, Int.add_mul_emod_self_left, Int.emod_eq_of_lt hD0 hD1, ← hD, Int.mul_ediv_cancel _ (by omega)]
theorem wraps_u64 (n : Int) (h0 : 0 ≤ n) (h1 : n < 2 ^ 64) : IntKind.u64.wrap n = n := u64 h0 (by omega)
theorem wu (n : Int) : IntKind.u64.wrap n = n % 18446744073709551616 := rfl
theorem div64_is (hi lo y : Int) (h0 : 0 ≤ hi) (h1 : hi < y) (hy : y ≤ 1000000000) (l0 : 0 ≤ lo) (l1 : lo < 18446744073709551616) :
    Ev (fun k => bits_Div64.f k hi lo y) ((hi * 18446744073709551616 + lo) / y, (hi * 18446744073709551616 + lo) % y) := by
  have hy0 : 0 < y := by omega
  by_cases hz : hi = 0
  · subst hz
    refine Ev.congr (fun k => ?_) (Ev.now _)
    have := Int.ediv_le_self y l0
    unfold bits_Div64.f
    rw [if_neg (by omega), if_neg (by omega), if_pos rfl, Int.tdiv_eq_ediv_of_nonneg l0, Int.tmod_eq_emod_of_nonneg l0, u64 (x := lo / y) (Int.ediv_nonneg l0 (by omega)) (by omega)]
    simp
  ·
    have hbl := bitLen_lt y.toNat (by omega)
    have hbl30 : Lib.bitLen y.toNat ≤ 30 := Lib.bitLen_le y.toNat 30 (by omega) (by omega)
    generalize hL : Lib.bitLen y.toNat = L at *
    have hyH : y < (2 : Int) ^ L := by
      have : ((y.toNat : Nat) : Int) < ((2 ^ L : Nat) : Int) := by exact_mod_cast hbl
      rw [Int.toNat_of_nonneg (by omega)] at this
      simpa using this
    have hPH : (2 : Int) ^ (64 - L) * 2 ^ L = 18446744073709551616 := by
      rw [← Int.pow_add, show 64 - L + L = 64 by omega]; rfl
    have hPs : (2 : Int) ^ (64 - L) = 2 ^ (64 - L - 32) * 4294967296 := by
      rw [show (4294967296 : Int) = 2 ^ 32 from rfl, ← Int.pow_add, show 64 - L - 32 + 32 = 64 - L by omega]
    have hH : (0 : Int) < 2 ^ L := Int.pow_pos (by decide)
    have hP' : (0 : Int) < 2 ^ (64 - L - 32) := Int.pow_pos (by decide)
    have hn1 : (64 - (L : Int)).toNat = 64 - L := by omega
    have e64 : IntKind.u64.wrap (64 - (L : Int)) = 64 - (L : Int) := u64 (by omega) (by omega)
    have eback : (64 - (64 - (L : Int))) = (L : Int) := by omega
    have eL : IntKind.u64.wrap (64 - (64 - (L : Int))) = (L : Int) := by rw [eback]; exact u64 (by omega) (by omega)
    have hsh : ∀ x : Int, shl .u64 x (64 - (L : Int)) = IntKind.u64.wrap (x * 2 ^ (64 - L)) := by
      intro x; unfold shl; rw [hn1, Nat.min_eq_left (show 64 - L ≤ IntKind.u64.bits by show 64 - L ≤ 64; omega)]
    have hsr : ∀ x : Int, shr .u64 x (L : Int) = x / 2 ^ L := by
      intro x; unfold shr; rw [Int.toNat_natCast, Nat.min_eq_left (show L ≤ IntKind.u64.bits by show L ≤ 64; omega)]
    have hsr2 : ∀ x : Int, shr .u64 x (64 - (L : Int)) = x / 2 ^ (64 - L) := by
      intro x; unfold shr; rw [hn1, Nat.min_eq_left (show 64 - L ≤ IntKind.u64.bits by show 64 - L ≤ 64; omega)]
    obtain ⟨k1, k2, hY0, hY1, hU0, hU1, hq1a, hq1b, hr1a, hr1b, hZ0, hZ1, hV0, hV1, hq0a, hq0b, hr0a, hr0b, hl0, hl1, hUs, hVs, hYP, hyP⟩ :=
      knuth hi lo y (2 ^ (64 - L)) (2 ^ (64 - L - 32)) (2 ^ L) hy0 hP' hPs hH hPH hyH h0 h1 l0 l1 _ _ _ _ _ _ _ _ _ _ _ rfl rfl rfl rfl rfl rfl rfl rfl rfl rfl rfl
    have hhP : 0 ≤ hi * 2 ^ (64 - L) := Int.mul_nonneg h0 (by omega)
    have hlo : IntKind.u64.wrap (lo * 2 ^ (64 - L)) = (lo % 2 ^ L) * 2 ^ (64 - L) := by
      have e1 : lo = 2 ^ L * (lo / 2 ^ L) + lo % 2 ^ L := by have := Int.emod_add_mul_ediv lo (2 ^ L); omega
      have e2 : lo * 2 ^ (64 - L) = (lo % 2 ^ L) * 2 ^ (64 - L) + (lo / 2 ^ L) * 18446744073709551616 := by
        have e3 : lo * 2 ^ (64 - L) = (2 ^ L * (lo / 2 ^ L) + lo % 2 ^ L) * 2 ^ (64 - L) := by rw [← e1]
        rw [e3, Int.add_mul, Int.mul_comm (2 ^ L) (lo / 2 ^ L), Int.mul_assoc, Int.mul_comm (2 ^ L) (2 ^ (64 - L)), hPH]; omega
      rw [wu, e2]; omega
    have hhi : IntKind.u64.wrap (hi * 2 ^ (64 - L)) = hi * 2 ^ (64 - L) := u64 hhP (by omega)
    have hyy : IntKind.u64.wrap (y * 2 ^ (64 - L)) = y * 2 ^ (64 - L) := u64 (by rw [hYP]; omega) (by omega)
    have hor : Go.bits .or .u64 (hi * 2 ^ (64 - L)) (lo / 2 ^ L) = hi * 2 ^ (64 - L) + lo / 2 ^ L :=
      bits_join .u64 64 (by decide) wraps_u64 (64 - L) _ _ hhP (Int.mul_emod_left _ _) (by omega) hl0 hl1 (by omega)
    have hand : ∀ x : Int, 0 ≤ x → x < 18446744073709551616 → Go.bits .and .u64 x 4294967295 = x % 4294967296 := fun x a b => bits_mask .u64 64 (by decide) wraps_u64 32 (by decide) x a (by omega)
    have hyn1 : y * 2 ^ (64 - L) / 4294967296 = y * 2 ^ (64 - L - 32) := by rw [hYP]; omega
    have hyn0 : Go.bits .and .u64 (y * 2 ^ (64 - L)) 4294967295 = 0 := by rw [hand _ (by rw [hYP]; omega) hyP, hYP]; omega
    generalize eU : hi * 2 ^ (64 - L) + lo / 2 ^ L = U at *
    generalize eZ : (lo % 2 ^ L) * 2 ^ (64 - L) = Z at *
    generalize eY : y * (2 : Int) ^ (64 - L - 32) = Y1 at *
    generalize eq1 : U / Y1 = q1 at *
    generalize er1 : U % Y1 = r1 at *
    generalize eV : r1 * 4294967296 + Z / 4294967296 = V at *
    generalize eq0 : V / Y1 = q0 at *
    generalize er0 : V % Y1 = r0 at *
    generalize eyP : y * (2 : Int) ^ (64 - L) = YP at *
    have hA : q1 * YP = (q1 * Y1) * 4294967296 := by rw [hYP, Int.mul_assoc]
    have hB : q0 * YP = (q0 * Y1) * 4294967296 := by rw [hYP, Int.mul_assoc]
    have hqY : 0 ≤ q1 * Y1 := Int.mul_nonneg hq1a (by omega)
    have hqY0 : 0 ≤ q0 * Y1 := Int.mul_nonneg hq0a (by omega)
    rw [k1, k2]

    have second : Ev (fun k => bits_Div64.l1 k YP (64 - (L : Int)) Y1 0 (Z % 4294967296) q1 r0 V q0) (q1 * 4294967296 + q0, (r0 * 4294967296 + Z % 4294967296) / 2 ^ (64 - L)) := by
      refine Ev.step (f := fun k => bits_Div64.j4 k YP (64 - (L : Int)) Y1 0 (Z % 4294967296) q1 r0 V q0 false) (fun k => ?_) (Ev.one fun k => ?_)
      · simp only [bits_Div64.l1]
        rw [if_neg (by omega)]
        congr 1
        refine decide_eq_false ?_
        rw [Int.mul_zero, wu 0, wu (4294967296 * r0)]
        rw [wu]
        omega
      · simp only [bits_Div64.j4]
        rw [if_neg (by simp), if_pos (by omega), u64 (x := q1 * 4294967296) (by omega) (by omega), u64 (x := q1 * 4294967296 + q0) (by omega) (by omega)]
        congr 2
        rw [hsr2]
        congr 1
        rw [hB, wu (V * 4294967296), wu (q0 * Y1 * 4294967296), wu, wu]
        omega
    unfold bits_Div64.f
    simp only [if_neg (show ¬ y = 0 by omega), if_neg (show ¬ y ≤ hi by omega), if_neg hz]
    have hlz : bits_LeadingZeros64.f y = some (64 - (L : Int)) := by
      unfold bits_LeadingZeros64.f; rw [if_pos (by omega), if_pos (by omega), hL]
    rw [hlz]
    simp only [Option.bind_some, e64, eL, hsh, hsr, eyP, hyy, hhi, hlo, hor, hyn0, hyn1]
    simp only [if_pos (show (0 : Int) ≤ 64 - (L : Int) by omega), if_pos (show (0 : Int) ≤ (L : Int) by omega), if_neg (show ¬ Y1 = 0 by omega)]
    rw [hand Z hZ0 hZ1, Int.tdiv_eq_ediv_of_nonneg hU0, eq1, u64 (x := q1) hq1a (by omega), u64 (x := q1 * Y1) hqY (by omega), u64 (x := U - q1 * Y1) (by omega) (by omega)]
    refine Ev.step (f := fun k => bits_Div64.j1 k YP (64 - (L : Int)) Y1 0 U (Z / 4294967296) (Z % 4294967296) q1 (U - q1 * Y1) false) (fun k => ?_)
      (Ev.step (f := fun k => bits_Div64.j2 k YP (64 - (L : Int)) Y1 0 U (Z / 4294967296) (Z % 4294967296) q1) (fun k => ?_) (Ev.step (fun k => ?_) second))
    · simp only [bits_Div64.l0]
      rw [if_neg (by omega)]
      congr 1
      refine decide_eq_false ?_
      rw [Int.mul_zero, wu 0, wu (4294967296 * (U - q1 * Y1))]
      rw [wu]
      omega
    · simp only [bits_Div64.j1]
      rw [if_neg (by simp)]
    · simp only [bits_Div64.j2]
      have hV : IntKind.u64.wrap (IntKind.u64.wrap (IntKind.u64.wrap (U * 4294967296) + Z / 4294967296) - IntKind.u64.wrap (q1 * YP)) = V := by
        rw [hA, wu (U * 4294967296), wu (q1 * Y1 * 4294967296), wu, wu]
        omega
      rw [hV, if_neg (by omega), Int.tdiv_eq_ediv_of_nonneg hV0, eq0, u64 (x := q0) hq0a (by omega), u64 (x := q0 * Y1) hqY0 (by omega), u64 (x := V - q0 * Y1) (by omega) (by omega)]
      rw [show V - q0 * Y1 = r0 by omega]
def scaleS (a b num den m : Int) : Int × Int :=
  match flt [⟨a, b⟩] with
  | some v => v
  | none => if a = 1 ∧ -1000000000 ≤ num ∧ num ≤ 1000000000 ∧ 1 ≤ den ∧ den ≤ 1000000000 ∧ 1 ≤ m ∧ m ≤ 5 then
      boundS 1 (rnd m (decide (b < 0) != decide (num < 0)) (min (aabs b * aabs num / den) most) (aabs b * aabs num % den) den) else (6, 5)
theorem scale_bad (x y z u v : Int) : Ev (fun k => money_Scale.j0 k x y z true u v) (6, 5) := Ev.one fun k => by simp [money_Scale.j0, money_fault.f]
theorem scale_good (num den m a b : Int) (hb : -10000000000000 < b ∧ b < 10000000000000) (hn : -1000000000 ≤ num ∧ num ≤ 1000000000) (hd : 1 ≤ den ∧ den ≤ 1000000000) :
    Ev (fun k => money_Scale.j0 k num den m false a b) (boundS 1 (rnd m (decide (b < 0) != decide (num < 0)) (min (aabs b * aabs num / den) most) (aabs b * aabs num % den) den)) := by
  have h1 := aabs_range b hb.1 hb.2
  have h2 := aabs_range num (by omega) (by omega)
  have hm := mul_range b num hb hn
  refine Ev.step (f := fun k => if aabs b * aabs num / 18446744073709551616 ≥ den then some (6, 1) else (bits_Div64.f k (aabs b * aabs num / 18446744073709551616) (aabs b * aabs num % 18446744073709551616) den).bind fun q =>
      (money_rounded.f k q.1 q.2 den (decide (b < 0) != decide (num < 0)) m).bind fun n => if n.2 = true then (money_cents.f n.1).bind fun c => some (c.1, c.2) else some (6, 1)) (fun k => ?_) ?_
  · simp only [money_Scale.j0]
    rw [if_neg (by simp), amount_is b hb.1 hb.2, amount_is num (by omega) (by omega)]
    simp only [Option.bind_some]
    rw [mul64_is (aabs b) (aabs num) (by omega) (by omega), u64 (x := den) (by omega) (by omega)]
    simp only [Option.bind_some, money_fault.f]
  · generalize aabs b * aabs num = X at *
    have hq0 : 0 ≤ X / den := Int.ediv_nonneg hm.1 (by omega)
    have hr0 := Int.emod_nonneg X (show den ≠ 0 by omega)
    have hr1 := Int.emod_lt_of_pos X (show 0 < den by omega)
    have hX : X = X / 18446744073709551616 * 18446744073709551616 + X % 18446744073709551616 := by omega
    by_cases hhi : X / 18446744073709551616 ≥ den
    · simp only [if_pos hhi]
      have hbig : 18446744073709551616 ≤ X / den := by
        rw [Int.le_ediv_iff_mul_le (by omega)]
        omega
      rw [over_far _ _ _ _ _ (by unfold most; omega)]
      exact Ev.now _
    · simp only [if_neg hhi]
      have hdv := div64_is (X / 18446744073709551616) (X % 18446744073709551616) den (by omega) (by omega) (by omega) (by omega) (by omega)
      rw [← hX] at hdv
      have hlt : X / den < 18446744073709551616 := by
        refine Int.ediv_lt_of_lt_mul (by omega) ?_
        omega
      have h := rounded_is m (decide (b < 0) != decide (num < 0)) (X / den) (X % den) den hq0 (by omega) hr0 hr1 (by omega)
      refine Ev.bind hdv (Ev.bind h ?_)
      by_cases hq : X / den > 4611686018427387904
      · simp only [if_pos hq]
        rw [over_far _ _ _ _ _ (by unfold most; omega)]
        exact Ev.congr (fun k => by simp) (Ev.now _)
      · simp only [if_neg hq, if_true, cents_is, Option.bind_some]
        by_cases hmm : X / den ≤ most
        · rw [Int.min_eq_left hmm]; exact Ev.now _
        · rw [Int.min_eq_right (by omega), over_far _ _ most _ _ (by unfold most; omega), over_far _ _ (X / den) _ _ (by unfold most at hmm; omega)]; exact Ev.now _
theorem scale_is (a b num den m : Int) : Ev (fun k => money_Scale.f k a b num den m) (scaleS a b num den m) := by
  unfold money_Scale.f scaleS
  refine Ev.bind (Ev.seen [⟨a, b⟩] (by simp)) ?_
  cases hf : flt [⟨a, b⟩] with
  | some v => simp only [seenR]; exact Ev.congr (fun k => by simp) (Ev.now v)
  | none =>
    have hb : -10000000000000 < b ∧ b < 10000000000000 ∨ a ≠ 1 := by
      by_cases ha : a = 1
      · subst ha; exact Or.inl (vld_cents (flt_none hf ⟨1, b⟩ (by simp)).2.2)
      · exact Or.inr ha
    simp only [seenR, if_true]
    by_cases ha : a = 1
    · have hb := hb.resolve_right (fun h => h ha)
      simp only [if_pos ha]
      by_cases c1 : num < -1000000000
      · simp only [if_pos c1]; rw [if_neg (by omega)]; exact scale_bad _ _ _ _ _
      · by_cases c2 : num > 1000000000
        · simp only [if_neg c1, if_pos c2]; rw [if_neg (by omega)]; exact scale_bad _ _ _ _ _
        · by_cases c3 : den < 1
          · simp only [if_neg c1, if_neg c2, if_pos c3]; rw [if_neg (by omega)]; exact scale_bad _ _ _ _ _
          · by_cases c4 : den > 1000000000
            · simp only [if_neg c1, if_neg c2, if_neg c3, if_pos c4]; rw [if_neg (by omega)]; exact scale_bad _ _ _ _ _
            · simp only [if_neg c1, if_neg c2, if_neg c3, if_neg c4, modes_is, Option.bind_some]
              by_cases hm : 1 ≤ m ∧ m ≤ 5
              · rw [if_pos ⟨ha, by omega, by omega, by omega, by omega, hm.1, hm.2⟩]
                simp only [decide_eq_true hm, Bool.not_true]
                exact scale_good num den m a b hb (by omega) (by omega)
              · rw [if_neg (by omega)]
                simp only [decide_eq_false hm, Bool.not_false]
                exact scale_bad _ _ _ _ _
    · simp only [if_neg ha]
      rw [if_neg (fun h => ha h.1)]
      exact scale_bad _ _ _ _ _
end Go.Proofs.YtnjhjaifmgjljaaDoor.Pure
end

section
set_option linter.unusedSimpArgs false
set_option linter.unusedVariables false
namespace Go.Proofs.YtnjhjaifmgjljaaDoor.Pure
open Go.RowKit Go.Proofs.YtnjhjaifmgjljaaDoor.PM Go.Proofs.YtnjhjaifmgjljaaDoor.Q Go.Proofs.YtnjhjaifmgjljaaDoor.Y Go.Proofs.YtnjhjaifmgjljaaDoorW.PrintWords Go.Proofs.YtnjhjaifmgjljaaDoorW.PrintLast Go.Proofs.YtnjhjaifmgjljaaDoorW.PrintMore
def good (v : Int × Int) : Prop := vld v.1 v.2 = true ∧ v.1 ≠ 0
theorem flt_good : ∀ (l : List S23) (v : Int × Int), flt l = some v → good v
  | [], v, h => by simp [flt] at h
  | x :: l, v, h => by
    simp only [flt] at h
    by_cases c1 : vld x.f0 x.f1 = false
    · rw [if_pos c1] at h; cases h; exact ⟨by decide, by decide⟩
    · rw [if_neg c1] at h
      by_cases c2 : x.f0 = 6
      · rw [if_pos c2] at h; cases h; exact ⟨by simpa using c1, by show x.f0 ≠ 0; omega⟩
      · rw [if_neg c2] at h
        by_cases c3 : x.f0 = 0
        · rw [if_pos c3] at h; cases h; exact ⟨by decide, by decide⟩
        · rw [if_neg c3] at h; exact flt_good l v h
theorem bound_good (a n : Int) (h : a ≠ 0) : good (boundS a n) := by
  unfold boundS
  by_cases c : vld a n = true
  · rw [if_pos c]; exact ⟨c, h⟩
  · rw [if_neg c]; exact ⟨by decide, by decide⟩
theorem wrong_good : good (6, 5) := ⟨by decide, by decide⟩
theorem flt_none {x : S23} {l : List S23} (h : flt (x :: l) = none) : x.f0 ≠ 0 := by
  simp only [flt] at h
  intro h0
  by_cases c1 : vld x.f0 x.f1 = false
  · rw [if_pos c1] at h; cases h
  · rw [if_neg c1, if_neg (by rw [h0]; decide), if_pos h0] at h; cases h
theorem flt_fault {x : S23} {l : List S23} (h6 : x.f0 = 6) (hv : vld x.f0 x.f1 = true) : flt (x :: l) = some (x.f0, x.f1) := by
  simp only [flt]
  rw [if_neg (by rw [hv]; decide), if_pos h6]
def Keeps (a b : Int) (v : Int × Int) : Prop := good v ∧ (a = 6 → vld a b = true → v = (a, b))
theorem chosen_keeps (call : Int) (x : S23) (l : List S23) (n : Int) : Keeps x.f0 x.f1 (chosenS call (x :: l) n) := by
  constructor
  · unfold chosenS
    cases hf : flt (x :: l) with
    | some v => exact flt_good _ _ hf
    | none =>
      simp only
      split
      · exact bound_good _ _ (by simpa [rd_T23] using flt_none hf)
      · exact wrong_good
  · intro h6 hv
    unfold chosenS
    rw [flt_fault h6 hv]
theorem flag_good (op b d : Int) : good (flag op b d) := by
  unfold flag
  repeat' split
  all_goals exact ⟨by decide, by decide⟩
theorem compare_keeps (op : Int) (x : S23) (l : List S23) (b d : Int) : Keeps x.f0 x.f1 (compareS op (x :: l) b d) := by
  constructor
  · unfold compareS
    cases hf : flt (x :: l) with
    | some v => exact flt_good _ _ hf
    | none =>
      simp only
      by_cases hc : same (if op = 25 ∨ op = 26 then 4 else 2) (rd_T23 (x :: l) 0).f0 (x :: l) = true
      · rw [if_pos hc]; exact flag_good _ _ _
      · rw [if_neg hc]; exact wrong_good
  · intro h6 hv
    unfold compareS
    rw [flt_fault h6 hv]
theorem some_keeps (x : S23) (l : List S23) (r : Int × Int) (hr : flt (x :: l) = none → good r) : Keeps x.f0 x.f1 (match flt (x :: l) with | some v => v | none => r) := by
  constructor
  · cases hf : flt (x :: l) with
    | some v => exact flt_good _ _ hf
    | none => exact hr hf
  · intro h6 hv
    rw [flt_fault h6 hv]
theorem round_keeps (a b u m : Int) : Keeps a b (roundS a b u m) := by
  refine some_keeps ⟨a, b⟩ [] _ (fun _ => ?_)
  split
  · exact bound_good _ _ (by decide)
  · exact wrong_good
theorem times_keeps (a b c d : Int) : Keeps a b (timesS a b c d) := by
  refine some_keeps ⟨a, b⟩ [⟨c, d⟩] _ (fun _ => ?_)
  split
  · exact bound_good _ _ (by decide)
  · exact wrong_good
theorem split_keeps (a b c d m : Int) : Keeps a b (splitS a b c d m) := by
  refine some_keeps ⟨a, b⟩ [⟨c, d⟩] _ (fun _ => ?_)
  repeat' split
  all_goals first | exact wrong_good | exact bound_good _ _ (by decide) | exact ⟨by decide, by decide⟩
theorem scale_keeps (a b num den m : Int) : Keeps a b (scaleS a b num den m) := by
  refine some_keeps ⟨a, b⟩ [] _ (fun _ => ?_)
  split
  · exact bound_good _ _ (by decide)
  · exact wrong_good
theorem tk_good (kind : Int) (hk : kind ≠ 0) : ∀ (l : List S23) (s : Int) (k : Nat), good (tk kind l s k).1
  | [], s, k => bound_good _ _ hk
  | v :: l, s, k => by
    simp only [tk]
    by_cases c1 : vld v.f0 v.f1 = false
    · rw [if_pos c1]; exact wrong_good
    · rw [if_neg c1]
      by_cases c2 : v.f0 = 6
      · rw [if_pos c2]; exact ⟨by simpa using c1, by show v.f0 ≠ 0; omega⟩
      · rw [if_neg c2]
        by_cases c3 : v.f0 = 0
        · rw [if_pos c3]; exact tk_good kind hk l s (k + 1)
        · rw [if_neg c3]
          by_cases c4 : v.f0 = kind
          · rw [if_neg (fun h => h c4)]; exact tk_good kind hk l _ (k + 1)
          · rw [if_pos c4]; exact wrong_good
theorem tkA_good (kind : Int) (l : List S23) : good (tkA kind l).1 := by
  unfold tkA
  by_cases h : kind = 1 ∨ kind = 2
  · rw [if_pos h]; exact tk_good kind (by omega) l 0 0
  · rw [if_neg h]; exact wrong_good
theorem table_any (l : List S72) (hl : l.length ≤ 9223372036854775807) : ∀ (d i : Nat), i + d = l.length → ∃ b, Ev (fun k => money_table.l0 k l l (l.length : Int) (i : Int)) b
  | 0, i, hi => by
    by_cases h : (l.length : Int) ≥ 1
    · exact ⟨_, Ev.step (f := fun _ => some (decide ((l.length : Int) ≤ 8))) (fun k => by simp only [money_table.l0]; rw [if_neg (by omega), if_pos h]) (Ev.now _)⟩
    · exact ⟨false, Ev.step (f := fun _ => some false) (fun k => by simp only [money_table.l0]; rw [if_neg (by omega), if_neg h]) (Ev.now _)⟩
  | d + 1, i, hi => by
    obtain ⟨b, hb⟩ := table_any l hl d (i + 1) (by omega)
    have hw : wrap64 ((i : Int) + 1) = ((i + 1 : Nat) : Int) := by unfold wrap64; omega
    have hw1 : 0 < i → wrap64 ((i : Int) - 1) = (i : Int) - 1 := fun h => by unfold wrap64; omega
    generalize h1 : rd_T72 l (i : Int) = v
    have step : ∃ b', Ev (fun k => if v.f0 > 9999999999999 then some false else if v.f1 < 0 then some false else if v.f1 > 1000000 then some false else money_table.l0 k l l (l.length : Int) ((i + 1 : Nat) : Int)) b' := by
      by_cases c1 : v.f0 > 9999999999999
      · exact ⟨false, Ev.congr (fun k => if_pos c1) (Ev.now _)⟩
      · by_cases c2 : v.f1 < 0
        · exact ⟨false, Ev.congr (fun k => by rw [if_neg c1, if_pos c2]) (Ev.now _)⟩
        · by_cases c3 : v.f1 > 1000000
          · exact ⟨false, Ev.congr (fun k => by rw [if_neg c1, if_neg c2, if_pos c3]) (Ev.now _)⟩
          · exact ⟨b, Ev.congr (fun k => by rw [if_neg c1, if_neg c2, if_neg c3]) hb⟩
    obtain ⟨b', hs⟩ := step
    by_cases h0 : i = 0
    · subst h0
      by_cases hz : v.f0 = 0
      · refine ⟨b', Ev.step (fun k => ?_) hs⟩
        simp only [money_table.l0, h1, hw]
        rw [if_pos (by omega), if_pos (by omega), if_pos (by omega), if_pos (by omega), if_pos hz, if_neg (by omega)]
      · refine ⟨false, Ev.step (f := fun _ => some false) (fun k => ?_) (Ev.now _)⟩
        simp only [money_table.l0, h1, hw]
        rw [if_pos (by omega), if_pos (by omega), if_pos (by omega), if_pos (by omega), if_neg hz]
    · by_cases hz : v.f0 ≤ (rd_T72 l ((i : Int) - 1)).f0
      · refine ⟨false, Ev.step (f := fun _ => some false) (fun k => ?_) (Ev.now _)⟩
        simp only [money_table.l0, h1, hw, hw1 (by omega)]
        rw [if_pos (by omega), if_pos (by omega), if_pos (by omega), if_neg (by omega), if_pos (by omega), if_pos (by omega), if_pos (by omega), if_pos hz]
      · refine ⟨b', Ev.step (fun k => ?_) hs⟩
        simp only [money_table.l0, h1, hw, hw1 (by omega)]
        rw [if_pos (by omega), if_pos (by omega), if_pos (by omega), if_neg (by omega), if_pos (by omega), if_pos (by omega), if_pos (by omega), if_neg hz]
theorem u64_range (x : Int) : 0 ≤ IntKind.u64.wrap x ∧ IntKind.u64.wrap x ≤ 18446744073709551615 := by
  have : IntKind.u64.wrap x = x % 18446744073709551616 := rfl
  omega
theorem taken_any (l : List S72) (hl : l.length ≤ 9223372036854775807) (x : Int) : ∀ (d i : Nat) (acc : Int), i + d = l.length → 0 ≤ acc → acc ≤ 18446744073709551615 → ∃ v, Ev (fun k => money_Bracket.l0 k l acc l (l.length : Int) (i : Int) 1 x) v ∧ good v
  | 0, i, acc, hi, h0, h1 => by
    have h := rounded_half acc h0 h1
    refine ⟨boundS 1 (half acc), Ev.step (f := fun k => (money_rounded.f k (acc / 1000000) (acc % 1000000) 1000000 false 4).bind fun b => (money_cents.f b.1).bind fun c => some (c.1, c.2)) (fun k => ?_) (Ev.bind h (Ev.congr (fun k => ?_) (Ev.now _))), bound_good _ _ (by decide)⟩
    · simp only [money_Bracket.l0]
      rw [if_neg (by omega), Int.tdiv_eq_ediv_of_nonneg h0, Int.tmod_eq_emod_of_nonneg h0, u64 (by omega) (by omega)]
    · rw [cents_is]; rfl
  | d + 1, i, acc, hi, h0, h1 => by
    have hw : wrap64 ((i : Int) + 1) = ((i + 1 : Nat) : Int) := by unfold wrap64; omega
    have step : ∀ top : Int, ∃ v, Ev (fun k => if top > (rd_T72 l i).f0 then money_Bracket.l0 k l (IntKind.u64.wrap (acc + (IntKind.u64.wrap ((IntKind.u64.wrap (wrap64 (top - (rd_T72 l i).f0))) * (IntKind.u64.wrap ((rd_T72 l i).f1)))))) l (l.length : Int) ((i + 1 : Nat) : Int) 1 x
        else money_Bracket.l0 k l acc l (l.length : Int) ((i + 1 : Nat) : Int) 1 x) v ∧ good v := by
      intro top
      by_cases hc : top > (rd_T72 l i).f0
      · have hr := u64_range (acc + (IntKind.u64.wrap ((IntKind.u64.wrap (wrap64 (top - (rd_T72 l i).f0))) * (IntKind.u64.wrap ((rd_T72 l i).f1)))))
        obtain ⟨v, hv, hg⟩ := taken_any l hl x d (i + 1) _ (by omega) hr.1 hr.2
        exact ⟨v, Ev.congr (fun k => if_pos hc) hv, hg⟩
      · obtain ⟨v, hv, hg⟩ := taken_any l hl x d (i + 1) acc (by omega) h0 h1
        exact ⟨v, Ev.congr (fun k => if_neg hc) hv, hg⟩
    by_cases hn : i + 1 < l.length
    · obtain ⟨v, hv, hg⟩ := step (mn x (rd_T72 l ((i + 1 : Nat) : Int)).f0)
      refine ⟨v, Ev.step (fun k => ?_) hv, hg⟩
      simp only [money_Bracket.l0, hw]
      rw [if_pos (by omega), if_pos (by omega), if_pos (by omega), if_pos (by omega), if_pos (by omega)]
    · obtain ⟨v, hv, hg⟩ := step x
      refine ⟨v, Ev.step (fun k => ?_) hv, hg⟩
      simp only [money_Bracket.l0, hw]
      rw [if_pos (by omega), if_pos (by omega), if_pos (by omega), if_neg (by omega)]
theorem bracket_keeps (l : List S72) (hl : l.length ≤ 9223372036854775807) (a b : Int) : ∃ v, Ev (fun k => money_Bracket.f k l a b) v ∧ Keeps a b v := by
  unfold money_Bracket.f
  cases hf : flt [⟨a, b⟩] with
  | some v =>
    refine ⟨v, Ev.bind (Ev.seen [⟨a, b⟩] (by simp)) ?_, flt_good _ _ hf, fun h6 hv => ?_⟩
    · rw [hf]; exact Ev.congr (fun k => by simp [seenR]) (Ev.now _)
    · have := flt_fault (x := ⟨a, b⟩) (l := []) h6 hv
      rw [hf] at this; simpa using this
  | none =>
    have hk : ∀ v, good v → Keeps a b v := fun v hg => ⟨hg, fun h6 hv => by
      have := flt_fault (x := ⟨a, b⟩) (l := []) h6 hv
      rw [hf] at this; cases this⟩
    by_cases ha : a = 1
    · subst ha
      obtain ⟨t, ht⟩ := table_any l hl l.length 0 (by omega)
      cases t with
      | false =>
        refine ⟨(6, 5), Ev.bind (Ev.seen [⟨1, b⟩] (by simp)) ?_, hk _ wrong_good⟩
        rw [hf]
        refine Ev.congr (f := fun k => (money_table.f k l).bind fun t => money_Bracket.j0 k l (!t) 1 b) (fun k => by simp [seenR]) (Ev.bind ht ?_)
        exact Ev.step (f := fun _ => some (6, 5)) (fun k => by simp [money_Bracket.j0, money_fault.f]) (Ev.now _)
      | true =>
        obtain ⟨v, hv, hg⟩ := taken_any l hl b l.length 0 0 (by omega) (by omega) (by omega)
        refine ⟨v, Ev.bind (Ev.seen [⟨1, b⟩] (by simp)) ?_, hk _ hg⟩
        rw [hf]
        refine Ev.congr (f := fun k => (money_table.f k l).bind fun t => money_Bracket.j0 k l (!t) 1 b) (fun k => by simp [seenR]) (Ev.bind ht ?_)
        exact Ev.step (fun k => by simp [money_Bracket.j0]) hv
    · refine ⟨(6, 5), Ev.bind (Ev.seen [⟨a, b⟩] (by simp)) ?_, hk _ wrong_good⟩
      rw [hf]
      refine Ev.congr (f := fun k => money_Bracket.j0 k l true a b) (fun k => by simp [seenR, ha]) ?_
      exact Ev.step (f := fun _ => some (6, 5)) (fun k => by simp [money_Bracket.j0, money_fault.f]) (Ev.now _)
theorem does_good (o a b c d e f g h m : Int) (l : List S72) (hl : l.length ≤ 9223372036854775807) (s : List S23) (hs : s.length ≤ 20000) : ∃ v, Ev (fun k => levylaw1_does.f k o a b c d e f g h m l s) v ∧ good v ∧ (1 ≤ o → o ≤ 13 → a = 6 → vld a b = true → v = (a, b)) := by
  by_cases e1 : o = 1
  · subst e1
    have hk : Keeps a b (chosenS 1 [⟨a, b⟩, ⟨c, d⟩] (wrap64 (b + d))) := chosen_keeps 1 ⟨a, b⟩ [⟨c, d⟩] _
    exact ⟨_, Ev.congr (fun k => by unfold levylaw1_does.f; rw [if_pos rfl]) (⟨13, fun k hk => sides 1 (by simp) ⟨a, b⟩ [⟨c, d⟩] (by simp) _ k (by omega)⟩ : Ev (fun k => money_Add.f k a b c d) (chosenS 1 [⟨a, b⟩, ⟨c, d⟩] (wrap64 (b + d)))), hk.1, fun _ _ => hk.2⟩
  by_cases e2 : o = 2
  · subst e2
    have hk : Keeps a b (chosenS 1 [⟨a, b⟩, ⟨c, d⟩] (wrap64 (b - d))) := chosen_keeps 1 ⟨a, b⟩ [⟨c, d⟩] _
    exact ⟨_, Ev.congr (fun k => by unfold levylaw1_does.f; rw [if_neg (by omega), if_pos rfl]) (⟨13, fun k hk => sides 1 (by simp) ⟨a, b⟩ [⟨c, d⟩] (by simp) _ k (by omega)⟩ : Ev (fun k => money_Sub.f k a b c d) (chosenS 1 [⟨a, b⟩, ⟨c, d⟩] (wrap64 (b - d)))), hk.1, fun _ _ => hk.2⟩
  by_cases e3 : o = 3
  · subst e3
    have hk : Keeps a b (chosenS 1 [⟨a, b⟩] (wrap64 (-b))) := chosen_keeps 1 ⟨a, b⟩ [] _
    exact ⟨_, Ev.congr (fun k => by unfold levylaw1_does.f; rw [if_neg (by omega), if_neg (by omega), if_pos rfl]) (⟨13, fun k hk => sides 1 (by simp) ⟨a, b⟩ [] (by simp) _ k (by omega)⟩ : Ev (fun k => money_Neg.f k a b) (chosenS 1 [⟨a, b⟩] (wrap64 (-b)))), hk.1, fun _ _ => hk.2⟩
  by_cases e4 : o = 4
  · subst e4
    have hk : Keeps a b (chosenS 1 [⟨a, b⟩] (mx b (wrap64 (-b)))) := chosen_keeps 1 ⟨a, b⟩ [] _
    exact ⟨_, Ev.congr (fun k => by unfold levylaw1_does.f; rw [if_neg (by omega), if_neg (by omega), if_neg (by omega), if_pos rfl]) (⟨13, fun k hk => sides 1 (by simp) ⟨a, b⟩ [] (by simp) _ k (by omega)⟩ : Ev (fun k => money_Abs.f k a b) (chosenS 1 [⟨a, b⟩] (mx b (wrap64 (-b))))), hk.1, fun _ _ => hk.2⟩
  by_cases e5 : o = 5
  · subst e5
    have hk : Keeps a b (chosenS 2 [⟨a, b⟩, ⟨c, d⟩] (mn b d)) := chosen_keeps 2 ⟨a, b⟩ [⟨c, d⟩] _
    exact ⟨_, Ev.congr (fun k => by unfold levylaw1_does.f; rw [if_neg (by omega), if_neg (by omega), if_neg (by omega), if_neg (by omega), if_pos rfl]) (⟨13, fun k hk => sides 2 (by simp) ⟨a, b⟩ [⟨c, d⟩] (by simp) _ k (by omega)⟩ : Ev (fun k => money_Min.f k a b c d) (chosenS 2 [⟨a, b⟩, ⟨c, d⟩] (mn b d))), hk.1, fun _ _ => hk.2⟩
  by_cases e6 : o = 6
  · subst e6
    have hk : Keeps a b (chosenS 2 [⟨a, b⟩, ⟨c, d⟩] (mx b d)) := chosen_keeps 2 ⟨a, b⟩ [⟨c, d⟩] _
    exact ⟨_, Ev.congr (fun k => by unfold levylaw1_does.f; rw [if_neg (by omega), if_neg (by omega), if_neg (by omega), if_neg (by omega), if_neg (by omega), if_pos rfl]) (⟨13, fun k hk => sides 2 (by simp) ⟨a, b⟩ [⟨c, d⟩] (by simp) _ k (by omega)⟩ : Ev (fun k => money_Max.f k a b c d) (chosenS 2 [⟨a, b⟩, ⟨c, d⟩] (mx b d))), hk.1, fun _ _ => hk.2⟩
  by_cases e7 : o = 7
  · subst e7
    have hk : Keeps a b (chosenS 2 [⟨a, b⟩, ⟨c, d⟩, ⟨e, f⟩] (clampN b d f)) := chosen_keeps 2 ⟨a, b⟩ [⟨c, d⟩, ⟨e, f⟩] _
    exact ⟨_, Ev.congr (fun k => by unfold levylaw1_does.f; rw [if_neg (by omega), if_neg (by omega), if_neg (by omega), if_neg (by omega), if_neg (by omega), if_neg (by omega), if_pos rfl]) (⟨13, fun k hk => clamp_is k (by omega) a b c d e f⟩ : Ev (fun k => money_Clamp.f k a b c d e f) (chosenS 2 [⟨a, b⟩, ⟨c, d⟩, ⟨e, f⟩] (clampN b d f))), hk.1, fun _ _ => hk.2⟩
  by_cases e8 : o = 8
  · subst e8
    have hk : Keeps a b (scaleS a b g h m) := scale_keeps _ _ _ _ _
    exact ⟨_, Ev.congr (fun k => by unfold levylaw1_does.f; rw [if_neg (by omega), if_neg (by omega), if_neg (by omega), if_neg (by omega), if_neg (by omega), if_neg (by omega), if_neg (by omega), if_pos rfl]) (scale_is a b g h m : Ev (fun k => money_Scale.f k a b g h m) (scaleS a b g h m)), hk.1, fun _ _ => hk.2⟩
  by_cases e9 : o = 9
  · subst e9
    have hk : Keeps a b (timesS a b c d) := times_keeps _ _ _ _
    exact ⟨_, Ev.congr (fun k => by unfold levylaw1_does.f; rw [if_neg (by omega), if_neg (by omega), if_neg (by omega), if_neg (by omega), if_neg (by omega), if_neg (by omega), if_neg (by omega), if_neg (by omega), if_pos rfl]) (times_is a b c d : Ev (fun k => money_Times.f k a b c d) (timesS a b c d)), hk.1, fun _ _ => hk.2⟩
  by_cases e10 : o = 10
  · subst e10
    have hk : Keeps a b (splitS a b c d m) := split_keeps _ _ _ _ _
    exact ⟨_, Ev.congr (fun k => by unfold levylaw1_does.f; rw [if_neg (by omega), if_neg (by omega), if_neg (by omega), if_neg (by omega), if_neg (by omega), if_neg (by omega), if_neg (by omega), if_neg (by omega), if_neg (by omega), if_pos rfl]) (split_is a b c d m : Ev (fun k => money_Split.f k a b c d m) (splitS a b c d m)), hk.1, fun _ _ => hk.2⟩
  by_cases e11 : o = 11
  · subst e11
    have hk : Keeps a b (roundS a b g m) := round_keeps _ _ _ _
    exact ⟨_, Ev.congr (fun k => by unfold levylaw1_does.f; rw [if_neg (by omega), if_neg (by omega), if_neg (by omega), if_neg (by omega), if_neg (by omega), if_neg (by omega), if_neg (by omega), if_neg (by omega), if_neg (by omega), if_neg (by omega), if_pos rfl]) (round_is a b g m : Ev (fun k => money_Round.f k a b g m) (roundS a b g m)), hk.1, fun _ _ => hk.2⟩
  by_cases e12 : o = 12
  · subst e12
    have hk : Keeps a b (compareS m [⟨a, b⟩, ⟨c, d⟩] b d) := compare_keeps m ⟨a, b⟩ [⟨c, d⟩] _ _
    exact ⟨_, Ev.congr (fun k => by unfold levylaw1_does.f; rw [if_neg (by omega), if_neg (by omega), if_neg (by omega), if_neg (by omega), if_neg (by omega), if_neg (by omega), if_neg (by omega), if_neg (by omega), if_neg (by omega), if_neg (by omega), if_neg (by omega), if_pos rfl]) (⟨15, fun k hk => compare_is k (by omega) m a b c d⟩ : Ev (fun k => money_Compare.f k m a b c d) (compareS m [⟨a, b⟩, ⟨c, d⟩] b d)), hk.1, fun _ _ => hk.2⟩
  by_cases e13 : o = 13
  · subst e13
    obtain ⟨v, hv, hk⟩ := bracket_keeps l hl a b
    exact ⟨v, Ev.congr (fun k => by unfold levylaw1_does.f; rw [if_neg (by omega), if_neg (by omega), if_neg (by omega), if_neg (by omega), if_neg (by omega), if_neg (by omega), if_neg (by omega), if_neg (by omega), if_neg (by omega), if_neg (by omega), if_neg (by omega), if_neg (by omega), if_pos rfl]) hv, hk.1, fun _ _ => hk.2⟩
  by_cases e14 : o = 14
  · subst e14
    exact ⟨_, Ev.congr (fun k => by unfold levylaw1_does.f; rw [if_neg (by omega), if_neg (by omega), if_neg (by omega), if_neg (by omega), if_neg (by omega), if_neg (by omega), if_neg (by omega), if_neg (by omega), if_neg (by omega), if_neg (by omega), if_neg (by omega), if_neg (by omega), if_neg (by omega), if_pos rfl, if_pos hs]) (Ev.now (tkA m s).1), tkA_good m s, fun _ h => by omega⟩
  refine ⟨if vld a b = true then (3, 1) else (3, 0), Ev.congr (fun k => by unfold levylaw1_does.f; rw [if_neg e1, if_neg e2, if_neg e3, if_neg e4, if_neg e5, if_neg e6, if_neg e7, if_neg e8, if_neg e9, if_neg e10, if_neg e11, if_neg e12, if_neg e13, if_neg e14, money_valid]) ?_, ?_, fun h1 h2 => by omega⟩
  · by_cases hv : vld a b = true
    · rw [if_pos hv]; exact Ev.congr (fun k => by simp [hv]) (Ev.now _)
    · rw [if_neg hv]; exact Ev.congr (fun k => by simp [hv]) (Ev.now _)
  · by_cases hv : vld a b = true
    · rw [if_pos hv]; exact ⟨by decide, by decide⟩
    · rw [if_neg hv]; exact ⟨by decide, by decide⟩
theorem safe_step (l : List S83) (i : Nat) (ih : ∀ a b, Ev (fun k => levylaw1_MoneySafe.l0 k l (wrap64 ((i : Int) + 1)) a b) true) (o a b c d e f g h m : Int) (bl : List S72) (hbl : bl.length ≤ 9223372036854775807) (sl : List S23) (hs : sl.length ≤ 20000) :
    Ev (fun k => levylaw1_MoneySafe.j2 k l (i : Int) o a b c d e f g h m bl sl) true := by
  obtain ⟨v, hv, ⟨g1, g2⟩, hf⟩ := does_good o a b c d e f g h m bl hbl sl hs
  have h3 : Ev (fun k => levylaw1_MoneySafe.j3 k l (i : Int) (v.1 == 0) o a b c d e f g h m bl sl v.1 v.2) true := by
    have hz : (v.1 == 0) = false := beq_eq_false_iff_ne.mpr g2
    rw [hz]
    by_cases c1 : o ≥ 1 ∧ o ≤ 13 ∧ a = 6 ∧ vld a b = true
    · have hva := hf c1.1 c1.2.1 c1.2.2.1 c1.2.2.2
      refine Ev.step (f := fun k => levylaw1_MoneySafe.l0 k l (wrap64 ((i : Int) + 1)) v.1 v.2) (fun k => ?_) (ih _ _)
      simp only [levylaw1_MoneySafe.j3]
      rw [if_neg (by decide), if_pos c1.1, if_pos c1.2.1, if_pos c1.2.2.1, money_valid, c1.2.2.2]
      simp only [Option.bind_some]
      rw [if_pos trivial, if_neg (by rw [hva]; simp)]
    · refine Ev.step (f := fun k => levylaw1_MoneySafe.l0 k l (wrap64 ((i : Int) + 1)) v.1 v.2) (fun k => ?_) (ih _ _)
      simp only [levylaw1_MoneySafe.j3]
      rw [if_neg (by decide)]
      by_cases d1 : o ≥ 1
      · rw [if_pos d1]
        by_cases d2 : o ≤ 13
        · rw [if_pos d2]
          by_cases d3 : a = 6
          · rw [if_pos d3, money_valid]
            simp only [Option.bind_some]
            rw [if_neg (fun hv => c1 ⟨d1, d2, d3, hv⟩)]
          · rw [if_neg d3]
        · rw [if_neg d2]
      · rw [if_neg d1]
  refine Ev.step (fun k => ?_) (Ev.bind (f := fun k bt => (money_Valid.f bt.1 bt.2).bind fun t => if t = true then levylaw1_MoneySafe.j3 k l (i : Int) (bt.1 == 0) o a b c d e f g h m bl sl bt.1 bt.2 else levylaw1_MoneySafe.j3 k l (i : Int) true o a b c d e f g h m bl sl bt.1 bt.2) hv ?_)
  · simp only [levylaw1_MoneySafe.j2]
  · refine Ev.congr (fun k => ?_) h3
    rw [money_valid, g1]
    simp only [Option.bind_some]
    rw [if_pos trivial]
theorem safe_from (l : List S83) (hok : ∀ x ∈ l, x.f7.length ≤ 9223372036854775807) : ∀ (d i : Nat) (a b : Int), i + d = 60 → Ev (fun k => levylaw1_MoneySafe.l0 k l (i : Int) a b) true
  | 0, i, a, b, hi => by
    have hd : decide ((i : Int) < 60) = false := decide_eq_false (by omega)
    have h1 : Ev (fun k => levylaw1_MoneySafe.j1 k l (i : Int) false a b) true := Ev.step (f := fun _ => some true) (fun k => by simp [levylaw1_MoneySafe.j1]) (Ev.now _)
    refine Ev.step (fun k => ?_) h1
    simp only [levylaw1_MoneySafe.l0, hd]
    split <;> rfl
  | d + 1, i, a, b, hi => by
    by_cases hlt : (i : Int) < (l.length : Int)
    · have hd : decide ((i : Int) < 60) = true := decide_eq_true (by omega)
      have hw : wrap64 ((i : Int) + 1) = ((i + 1 : Nat) : Int) := by unfold wrap64; omega
      have ih : ∀ a b, Ev (fun k => levylaw1_MoneySafe.l0 k l (wrap64 ((i : Int) + 1)) a b) true := fun a b => by rw [hw]; exact safe_from l hok d (i + 1) a b (by omega)
      have hmem : rd_T83 l (i : Int) ∈ l := by
        have : rd_T83 l (i : Int) = l[i]'(by omega) := by simp [rd_T83, List.getD_eq_getElem?_getD, List.getElem?_eq_getElem (by omega : i < l.length)]
        rw [this]; exact List.getElem_mem _
      have hb := hok _ hmem
      have h1 : Ev (fun k => levylaw1_MoneySafe.j1 k l (i : Int) true a b) true := by
        generalize rd_T83 l (i : Int) = x at hb
        by_cases c1 : ((rd_T83 l (i : Int)).f8.length : Int) > 16384
        · refine Ev.step (f := fun _ => some true) (fun k => ?_) (Ev.now _)
          simp only [levylaw1_MoneySafe.j1]
          rw [if_pos trivial, if_pos (by omega), if_pos hlt, if_pos c1]
        · have hb' := hok _ hmem
          by_cases c2 : (rd_T83 l (i : Int)).f0 = 0
          · refine Ev.step (fun k => ?_) (safe_step l i ih (wrap64 (1 + (wrap64 (Int.tmod (IntKind.u64.wrap ((rd_T83 l i).f4)) 13)))) a b ((rd_T83 l i).f2.f0) ((rd_T83 l i).f2.f1) ((rd_T83 l i).f3.f0) ((rd_T83 l i).f3.f1) ((rd_T83 l i).f4) ((rd_T83 l i).f5) ((rd_T83 l i).f6) ((rd_T83 l i).f7) hb' ((rd_T83 l i).f8) (by omega))
            simp only [levylaw1_MoneySafe.j1]
            rw [if_pos trivial, if_pos (by omega), if_pos hlt, if_neg c1, if_pos c2]
          · refine Ev.step (fun k => ?_) (safe_step l i ih ((rd_T83 l i).f0) ((rd_T83 l i).f1.f0) ((rd_T83 l i).f1.f1) ((rd_T83 l i).f2.f0) ((rd_T83 l i).f2.f1) ((rd_T83 l i).f3.f0) ((rd_T83 l i).f3.f1) ((rd_T83 l i).f4) ((rd_T83 l i).f5) ((rd_T83 l i).f6) ((rd_T83 l i).f7) hb' ((rd_T83 l i).f8) (by omega))
            simp only [levylaw1_MoneySafe.j1]
            rw [if_pos trivial, if_pos (by omega), if_pos hlt, if_neg c1, if_neg c2]
      refine Ev.step (fun k => ?_) h1
      simp only [levylaw1_MoneySafe.l0, hd]
      rw [if_pos hlt]
    · refine Ev.step (f := fun k => levylaw1_MoneySafe.j1 k l (i : Int) false a b) (fun k => ?_) (Ev.step (f := fun _ => some true) (fun k => by simp [levylaw1_MoneySafe.j1]) (Ev.now _))
      simp only [levylaw1_MoneySafe.l0]
      rw [if_neg hlt]
theorem known_holds : Ev (fun k => levylaw1_known.f k) true := Ev.of (fun k => levylaw1_known.mono k) (k := 100) (by kernel_rfl)
theorem MoneySafe (x0 : List S83) (ok0 : ∀ x ∈ x0, x.f7.length ≤ 9223372036854775807) : ∃ k, levylaw1_MoneySafe.f k x0 = some true := by
  refine Ev.rounds ?_
  unfold levylaw1_MoneySafe.f
  refine Ev.bind known_holds ?_
  refine Ev.congr (f := fun k => (levylaw1_c.f 1).bind fun bt => levylaw1_MoneySafe.l0 k x0 0 bt.1 bt.2) (fun k => by rw [if_pos rfl]) ?_
  exact Ev.bind (g := fun _ => levylaw1_c.f 1) (a := (1, 1)) ⟨0, fun _ _ => by simp [levylaw1_c.f]⟩ (safe_from x0 ok0 60 0 1 1 (by omega))
end Go.Proofs.YtnjhjaifmgjljaaDoor.Pure
end

/- Plain: the reference's reckoning digit by digit comes to whole numbers' product, quotient and rest. -/
import Derived.Test.YtnjhjaifmgjljaaDoorPMx0
import Derived.Test.YtnjhjaifmgjljaaDoorPMx41
import Derived.Test.YtnjhjaifmgjljaaDoorPMx43
import Derived.Test.YtnjhjaifmgjljaaDoorPMx50
namespace Go.Proofs.YtnjhjaifmgjljaaDoor.Q
open Go.RowKit Go.Proofs.YtnjhjaifmgjljaaDoor.PM Go.Proofs.YtnjhjaifmgjljaaDoorW.PrintWords Go.Proofs.YtnjhjaifmgjljaaDoorW.PrintLast Go.Proofs.YtnjhjaifmgjljaaDoorW.PrintMore

theorem w64 {x : Int} (h0 : -9223372036854775808 ≤ x) (h1 : x ≤ 9223372036854775807) : wrap64 x = x := by unfold wrap64; omega
theorem mn_min (a b : Int) : mn a b = min a b := by unfold mn; omega

/-- The number that digits (the lowest first) tell. -/
def val : List Int → Int
  | [] => 0
  | d :: l => d + 10 * val l
/-- Each digit from 0 to B. -/
def small (B : Int) (l : List Int) : Prop := ∀ x ∈ l, 0 ≤ x ∧ x ≤ B
theorem val_append (a b : List Int) : val (a ++ b) = val a + 10 ^ a.length * val b := by
  induction a with
  | nil => simp [val]
  | cons d a ih => simp only [List.cons_append, val, ih, List.length_cons, Int.pow_succ]; rw [Int.mul_add, ← Int.mul_assoc, Int.mul_comm (10 ^ a.length) 10]; omega
theorem val_nonneg {B : Int} {l : List Int} (h : small B l) : 0 ≤ val l := by
  induction l with
  | nil => simp [val]
  | cons d l ih =>
    have h0 := (h d (by simp)).1
    have := ih (fun x hx => h x (by simp [hx]))
    simp only [val]; omega

theorem digits_from : ∀ (d : Nat) (n : Int) (acc : List Int), 0 ≤ n → n ≤ 9223372036854775807 → n < 10 ^ d → acc.length + d ≤ 1000 →
    ∃ r, Ev (fun k => levyref1_digits.l0 k n acc) (acc ++ r) ∧ val r = n ∧ small 9 r ∧ r.length ≤ d
  | 0, n, acc, h0, _, h1, _ => by
    have hn : n = 0 := by simp at h1; omega
    subst hn
    refine ⟨[], Ev.step (f := fun _ => some acc) (fun k => ?_) (by simpa using Ev.now acc), rfl, by simp [small], by simp⟩
    simp [levyref1_digits.l0]
  | d + 1, n, acc, h0, hm, h1, hl => by
    by_cases hn : n > 0
    · have h2 : n / 10 < 10 ^ d := by
        rw [Int.pow_succ] at h1
        exact Int.ediv_lt_of_lt_mul (by decide) h1
      obtain ⟨r, hr, hv, hs, hlen⟩ := digits_from d (n / 10) (acc ++ [n % 10]) (by omega) (by omega) h2 (by simp; omega)
      refine ⟨n % 10 :: r, Ev.step (f := fun k => levyref1_digits.l0 k (n / 10) (acc ++ [n % 10])) (fun k => ?_) (by simpa using hr), by simp only [val, hv]; omega, ?_, by simp; omega⟩
      · simp only [levyref1_digits.l0]
        rw [if_pos hn, if_pos (by omega), Int.tdiv_eq_ediv_of_nonneg h0, Int.tmod_eq_emod_of_nonneg h0, w64 (by omega) (by omega)]
      · intro x hx
        rcases List.mem_cons.1 hx with rfl | hx
        · omega
        · exact hs x hx
    · have hn : n = 0 := by omega
      subst hn
      refine ⟨[], Ev.step (f := fun _ => some acc) (fun k => ?_) (by simpa using Ev.now acc), rfl, by simp [small], by simp⟩
      simp [levyref1_digits.l0]
theorem digits_is (n : Int) (h0 : 0 ≤ n) (h1 : n < 100000000000000) : ∃ r, Ev (fun k => levyref1_digits.f k n) r ∧ val r = n ∧ small 9 r ∧ r.length ≤ 14 := by
  obtain ⟨r, hr, hv, hs, hl⟩ := digits_from 14 n [] h0 (by omega) (by simpa using h1) (by decide)
  exact ⟨r, by simpa [levyref1_digits.f] using hr, hv, hs, hl⟩

def most : Int := 100000000000000
theorem val_drop {l : List Int} {i : Nat} (h : i < l.length) : val (l.drop i) = rd l (i : Int) + 10 * val (l.drop (i + 1)) := by
  rw [List.drop_eq_getElem_cons h]
  simp [val, rd, List.getD_eq_getElem?_getD, List.getElem?_eq_getElem h]
theorem rd_small {B : Int} {l : List Int} (hs : small B l) {i : Nat} (h : i < l.length) : 0 ≤ rd l (i : Int) ∧ rd l (i : Int) ≤ B := by
  have : rd l (i : Int) = l[i] := by simp [rd, List.getD_eq_getElem?_getD, List.getElem?_eq_getElem h]
  rw [this]; exact hs _ (List.getElem_mem h)
theorem small_drop {B : Int} {l : List Int} (hs : small B l) (i : Nat) : small B (l.drop i) := fun x hx => hs x (List.mem_of_mem_drop hx)

theorem divided_from (l : List Int) (n : Int) (hn0 : 0 < n) (hn : n < 100000000000000) (hs : small 100000 l) (hl : l.length ≤ 1000) :
    ∀ (j : Nat), j ≤ l.length → Ev (fun k => levyref1_divided.l0 k l n (min (val (l.drop j) / n) most) (val (l.drop j) % n) ((j : Int) - 1)) (min (val l / n) most, val l % n)
  | 0, _ => by
    refine Ev.step (f := fun _ => some (min (val l / n) most, val l % n)) (fun k => ?_) (Ev.now _)
    simp only [levyref1_divided.l0]
    rw [if_neg (by omega)]; simp
  | j + 1, hj => by
    have ih := divided_from l n hn0 hn hs hl j (by omega)
    refine Ev.step (fun k => ?_) ih
    simp only [levyref1_divided.l0]
    have hd := rd_small hs (i := j) (by omega)
    have hV0 := val_nonneg (small_drop hs (j + 1))
    have hv := val_drop (l := l) (i := j) (by omega)
    generalize hV : val (l.drop (j + 1)) = V at *
    have e1 : (((j + 1 : Nat) : Int) - 1) = (j : Int) := by omega
    rw [hv, e1]
    generalize rd l (j : Int) = d at *
    have hr0 := Int.emod_nonneg V (show n ≠ 0 by omega)
    have hr1 := Int.emod_lt_of_pos V hn0
    have hq0 : 0 ≤ V / n := Int.ediv_nonneg hV0 (by omega)
    have hsplit : d + 10 * V = (10 * (V % n) + d) + n * (10 * (V / n)) := by
      have h3 := Int.emod_add_mul_ediv V n
      have h4 : n * (10 * (V / n)) = 10 * (n * (V / n)) := by rw [← Int.mul_assoc, Int.mul_comm n 10, Int.mul_assoc]
      rw [h4]; omega
    have hdiv : (d + 10 * V) / n = (10 * (V % n) + d) / n + 10 * (V / n) := by rw [hsplit, Int.add_mul_ediv_left _ _ (by omega)]
    have hmod : (d + 10 * V) % n = (10 * (V % n) + d) % n := by rw [hsplit, Int.add_mul_emod_self_left]
    have hc0 : 0 ≤ (10 * (V % n) + d) / n := Int.ediv_nonneg (by omega) (by omega)
    have hc1 : (10 * (V % n) + d) / n ≤ 10 * (V % n) + d := Int.ediv_le_self _ (by omega)
    have hm0 := Int.emod_nonneg (10 * (V % n) + d) (show n ≠ 0 by omega)
    have hm1 := Int.emod_lt_of_pos (10 * (V % n) + d) hn0
    have hmq : min (V / n) most ≤ most := Int.min_le_right _ _
    have hmq0 : 0 ≤ min (V / n) most := by unfold most; omega
    rw [if_pos (show (j : Int) ≥ 0 by omega), if_pos (by omega), if_pos (by omega), if_neg (by omega)]
    have hmost : most = 100000000000000 := rfl
    rw [w64 (x := 10 * (V % n)) (by omega) (by omega), w64 (x := 10 * (V % n) + d) (by omega) (by omega), Int.tdiv_eq_ediv_of_nonneg (by omega), Int.tmod_eq_emod_of_nonneg (by omega),
      w64 (x := (10 * (V % n) + d) / n) (by omega) (by omega), w64 (x := 10 * min (V / n) most) (by omega) (by omega), w64 (x := 10 * min (V / n) most + (10 * (V % n) + d) / n) (by omega) (by omega), w64 (x := (j : Int) - 1) (by omega) (by omega), mn_min, hdiv, hmod]
    congr 1
    omega

theorem divided_is (l : List Int) (n : Int) (hn0 : 0 < n) (hn : n < 100000000000000) (hs : small 100000 l) (hl : l.length ≤ 1000) : Ev (fun k => levyref1_divided.f k l n) (min (val l / n) most, val l % n) := by
  have h := divided_from l n hn0 hn hs hl l.length (Nat.le_refl _)
  rw [List.drop_length] at h
  have e0 : min (val [] / n) most = 0 := by rw [show val [] = 0 from rfl, Int.zero_ediv]; rfl
  have e1 : val [] % n = 0 := by simp [val]
  rw [e0, e1] at h
  refine Ev.congr (fun k => ?_) h
  unfold levyref1_divided.f
  rw [w64 (by omega) (by omega)]

/-! the product -/
theorem val_set : ∀ (l : List Int) (p : Nat) (c : Int), p < l.length → val (l.set p (rd l (p : Int) + c)) = val l + c * 10 ^ p
  | d :: l, 0, c, _ => by simp [val, rd]; omega
  | d :: l, p + 1, c, h => by
    have ih := val_set l p c (by simpa using h)
    have e : rd (d :: l) ((p + 1 : Nat) : Int) = rd l (p : Int) := by simp [rd]
    rw [e, List.set_cons_succ]
    simp only [val, ih, Int.pow_succ]
    rw [Int.mul_add, Int.mul_comm (10 ^ p : Int) 10, ← Int.mul_assoc, Int.mul_comm 10 c, Int.mul_assoc]; omega
  | [], _, _, h => by simp at h
theorem small_set {B : Int} {l : List Int} (hs : small B l) (p : Nat) (v : Int) (h0 : 0 ≤ v) (h1 : v ≤ B) : small B (l.set p v) := by
  intro x hx
  rcases List.mem_or_eq_of_mem_set hx with h | rfl
  · exact hs x h
  · exact ⟨h0, h1⟩
theorem small_mono {B B' : Int} {l : List Int} (hs : small B l) (h : B ≤ B') : small B' l := fun x hx => ⟨(hs x hx).1, by have := (hs x hx).2; omega⟩

theorem inner_from (a b : List Int) (ha : small 9 a) (hb : small 9 b) (hla : a.length ≤ 14) (hlb : b.length ≤ 14) (i : Nat) (hi : i < a.length) :
    ∀ (d j : Nat) (x : List Int), j + d = b.length → x.length = a.length + b.length + 1 → small (81 * (i * b.length + j : Nat)) x →
      ∃ x' : List Int, x'.length = a.length + b.length + 1 ∧ small (81 * ((i + 1) * b.length : Nat)) x' ∧ val x' = val x + rd a (i : Int) * 10 ^ (i + j) * val (b.drop j) ∧
        ∀ r, Ev (fun k => levyref1_product.l0 k a b x' ((i + 1 : Nat) : Int)) r → Ev (fun k => levyref1_product.l1 k a b x (i : Int) (j : Int)) r
  | 0, j, x, hd, hx, hs => by
    refine ⟨x, hx, small_mono hs (by rw [show i * b.length + j = (i + 1) * b.length from by rw [Nat.add_mul]; omega]; exact Int.le_refl _), by rw [List.drop_of_length_le (by omega)]; simp [val], fun r hr => Ev.step (fun k => ?_) hr⟩
    simp only [levyref1_product.l1]
    rw [if_neg (by omega), w64 (by omega) (by omega)]; rfl
  | d + 1, j, x, hd, hx, hs => by
    have hai := rd_small ha (i := i) hi
    have hbj := rd_small hb (i := j) (by omega)
    have hxp := rd_small hs (i := i + j) (by omega)
    have hmul0 : 0 ≤ rd a (i : Int) * rd b (j : Int) := Int.mul_nonneg hai.1 hbj.1
    have hmul1 : rd a (i : Int) * rd b (j : Int) ≤ 9 * 9 := Int.mul_le_mul hai.2 hbj.2 hbj.1 (by decide)
    have hij : i * b.length ≤ 14 * 14 := Nat.mul_le_mul (by omega) hlb
    have hbound : (81 * (i * b.length + j : Nat) : Int) + 81 = 81 * (i * b.length + (j + 1) : Nat) := by omega
    obtain ⟨x', hl', hs', hv', hr'⟩ := inner_from a b ha hb hla hlb i hi d (j + 1) (x.set (i + j) (rd x ((i + j : Nat) : Int) + rd a (i : Int) * rd b (j : Int))) (by omega) (by simpa using hx)
      (small_set (small_mono hs (by omega)) _ _ (by omega) (by omega))
    refine ⟨x', hl', hs', ?_, fun r hr => Ev.step (fun k => ?_) (hr' r hr)⟩
    · rw [hv', val_set x (i + j) _ (by omega), val_drop (l := b) (i := j) (by omega)]
      rw [show i + (j + 1) = (i + j) + 1 by omega, Int.pow_succ]
      generalize rd a (i : Int) = A
      generalize rd b (j : Int) = C
      generalize (10 : Int) ^ (i + j) = T
      generalize val (b.drop (j + 1)) = V
      have : A * T * (C + 10 * V) = A * C * T + A * (T * 10) * V := by
        rw [Int.mul_add]; congr 1
        · rw [Int.mul_assoc, Int.mul_comm T C, ← Int.mul_assoc]
        · rw [← Int.mul_assoc, Int.mul_assoc A T 10]
      omega
    · simp only [levyref1_product.l1]
      rw [if_pos (by omega), w64 (x := (i : Int) + (j : Int)) (by omega) (by omega), if_pos (by omega), if_pos (by omega), if_pos (by omega), if_pos (by omega), if_pos (by omega), w64 (x := rd a (i : Int) * rd b (j : Int)) (by omega) (by omega)]
      have e2 : ((i : Int) + (j : Int)) = ((i + j : Nat) : Int) := by omega
      rw [e2, w64 (x := rd x ((i + j : Nat) : Int) + rd a (i : Int) * rd b (j : Int)) (by omega) (by omega), w64 (x := (j : Int) + 1) (by omega) (by omega)]
      rfl

theorem outer_from (a b : List Int) (ha : small 9 a) (hb : small 9 b) (hla : a.length ≤ 14) (hlb : b.length ≤ 14) :
    ∀ (d i : Nat) (x : List Int), i + d = a.length → x.length = a.length + b.length + 1 → small (81 * (i * b.length : Nat)) x →
      ∃ x' : List Int, x'.length = a.length + b.length + 1 ∧ small (81 * (a.length * b.length : Nat)) x' ∧ val x' = val x + 10 ^ i * val (a.drop i) * val b ∧
        ∀ r, Ev (fun k => levyref1_product.l2 k x' 0) r → Ev (fun k => levyref1_product.l0 k a b x (i : Int)) r
  | 0, i, x, hd, hx, hs => by
    refine ⟨x, hx, by rw [← (show i = a.length by omega)]; exact hs, by rw [List.drop_of_length_le (by omega)]; simp [val], fun r hr => Ev.step (fun k => ?_) hr⟩
    simp only [levyref1_product.l0]
    rw [if_neg (by omega)]
  | d + 1, i, x, hd, hx, hs => by
    obtain ⟨x1, hl1, hs1, hv1, hr1⟩ := inner_from a b ha hb hla hlb i (by omega) b.length 0 x (by omega) hx (by simpa using hs)
    obtain ⟨x2, hl2, hs2, hv2, hr2⟩ := outer_from a b ha hb hla hlb d (i + 1) x1 (by omega) hl1 hs1
    refine ⟨x2, hl2, hs2, ?_, fun r hr => Ev.step (fun k => ?_) (hr1 r (hr2 r hr))⟩
    · rw [hv2, hv1, val_drop (l := a) (i := i) (by omega), List.drop_zero, Nat.add_zero, Int.pow_succ]
      generalize rd a (i : Int) = A
      generalize val (a.drop (i + 1)) = V
      generalize (10 : Int) ^ i = T
      generalize val b = B
      have : T * (A + 10 * V) * B = A * T * B + T * 10 * V * B := by
        rw [Int.mul_add, Int.add_mul, Int.mul_comm T A, ← Int.mul_assoc]
      omega
    · simp only [levyref1_product.l0]
      rw [if_pos (by omega)]; rfl

theorem rd_set_same (x : List Int) (p : Nat) (v : Int) (h : p < x.length) : rd (x.set p v) (p : Int) = v := by
  simp [rd, List.getD_eq_getElem?_getD, h]
theorem rd_set_ne (x : List Int) (p q : Nat) (v : Int) (h : p ≠ q) : rd (x.set p v) (q : Int) = rd x (q : Int) := by
  simp [rd, List.getD_eq_getElem?_getD, List.getElem?_set_ne h]
theorem val_set_to (l : List Int) (p : Nat) (v : Int) (h : p < l.length) : val (l.set p v) = val l + (v - rd l (p : Int)) * 10 ^ p := by
  have := val_set l p (v - rd l (p : Int)) h
  rwa [show rd l (p : Int) + (v - rd l (p : Int)) = v by omega] at this

theorem carry_from (n : Nat) (hn : n ≤ 30) : ∀ (d i : Nat) (x : List Int), i + 1 + d = n → x.length = n → small 20000 x → (∀ j, i < j → j < n → rd x (j : Int) ≤ 15876) →
    ∃ r : List Int, Ev (fun k => levyref1_product.l2 k x (i : Int)) r ∧ val r = val x ∧ small 20000 r ∧ r.length = n
  | 0, i, x, hd, hx, hs, _ => by
    refine ⟨x, Ev.step (f := fun _ => some x) (fun k => ?_) (Ev.now x), rfl, hs, hx⟩
    simp only [levyref1_product.l2]
    rw [w64 (by omega) (by omega), if_neg (by omega)]
  | d + 1, i, x, hd, hx, hs, hr => by
    have hi := rd_small hs (i := i) (by omega)
    have hi1 := rd_small hs (i := i + 1) (by omega)
    have hi2 := hr (i + 1) (by omega) (by omega)
    have e1 : ((i : Int) + 1) = ((i + 1 : Nat) : Int) := by omega
    have hs1 : small 20000 (x.set (i + 1) (rd x ((i + 1 : Nat) : Int) + rd x (i : Int) / 10)) := small_set hs _ _ (by omega) (by omega)
    have h1i : rd (x.set (i + 1) (rd x ((i + 1 : Nat) : Int) + rd x (i : Int) / 10)) (i : Int) = rd x (i : Int) := rd_set_ne _ _ _ _ (by omega)
    obtain ⟨r, hr1, hv, hsr, hlr⟩ := carry_from n hn d (i + 1) ((x.set (i + 1) (rd x ((i + 1 : Nat) : Int) + rd x (i : Int) / 10)).set i (rd x (i : Int) % 10)) (by omega) (by simpa using hx)
      (small_set hs1 _ _ (by omega) (by omega)) (fun j h1 h2 => by
        rw [rd_set_ne _ _ _ _ (by omega), rd_set_ne _ _ _ _ (by omega)]
        exact hr j (by omega) h2)
    refine ⟨r, Ev.step (fun k => ?_) hr1, ?_, hsr, hlr⟩
    · simp only [levyref1_product.l2]
      rw [w64 (x := (i : Int) + 1) (by omega) (by omega), if_pos (by omega), if_pos (by omega), if_pos (by omega), if_pos (by omega), e1, Int.tdiv_eq_ediv_of_nonneg hi.1, w64 (x := rd x (i : Int) / 10) (by omega) (by omega),
        w64 (x := rd x ((i + 1 : Nat) : Int) + rd x (i : Int) / 10) (by omega) (by omega)]
      simp only [Option.bind_some, Int.toNat_natCast]
      rw [h1i, Int.tmod_eq_emod_of_nonneg hi.1]
    · rw [hv, val_set_to _ i _ (by simp; omega), val_set_to _ (i + 1) _ (by omega), h1i, Int.pow_succ]
      generalize (10 : Int) ^ i = T
      have h2 : rd x (i : Int) % 10 - rd x (i : Int) = (rd x (i : Int) / 10) * (-10) := by omega
      rw [h2]
      generalize rd x (i : Int) / 10 = Q
      have : rd x ((i + 1 : Nat) : Int) + Q - rd x ((i + 1 : Nat) : Int) = Q := by omega
      rw [this, Int.mul_assoc Q (-10) T, ← Int.mul_assoc Q T 10, Int.mul_comm (Q * T) 10, ← Int.mul_assoc Q (-10) T, Int.mul_comm Q (-10), Int.mul_assoc (-10) Q T]
      omega
theorem small_zeros (n : Nat) : small 0 (List.replicate n 0) := by
  intro x hx
  rw [List.mem_replicate] at hx
  omega
theorem val_zeros : ∀ n : Nat, val (List.replicate n 0) = 0
  | 0 => rfl
  | n + 1 => by simp [List.replicate_succ, val, val_zeros n]
theorem product_is (a b : List Int) (ha : small 9 a) (hb : small 9 b) (hla : a.length ≤ 14) (hlb : b.length ≤ 14) :
    ∃ r, Ev (fun k => levyref1_product.f k a b) r ∧ val r = val a * val b ∧ small 20000 r ∧ r.length = a.length + b.length + 1 := by
  obtain ⟨x, hx, hs, hv, hr⟩ := outer_from a b ha hb hla hlb a.length 0 (List.replicate (a.length + b.length + 1) 0) (by omega) (by simp) (by simpa using small_zeros _)
  have hm : a.length * b.length ≤ 14 * 14 := Nat.mul_le_mul hla hlb
  obtain ⟨r, hr1, hv1, hs1, hl1⟩ := carry_from (a.length + b.length + 1) (by omega) (a.length + b.length) 0 x (by omega) hx (small_mono hs (by omega)) (fun j _ h2 => by have := (rd_small hs (i := j) (by omega)).2; omega)
  refine ⟨r, Ev.congr (fun k => ?_) (hr r hr1), ?_, hs1, hl1⟩
  · unfold levyref1_product.f
    rw [w64 (x := (a.length : Int) + (b.length : Int)) (by omega) (by omega), w64 (x := (a.length : Int) + (b.length : Int) + 1) (by omega) (by omega), if_pos (by omega), if_pos (by omega)]
    rw [show ((a.length : Int) + (b.length : Int) + 1).toNat = a.length + b.length + 1 by omega]; rfl
  · rw [hv1, hv, val_zeros]; simp
end Go.Proofs.YtnjhjaifmgjljaaDoor.Q

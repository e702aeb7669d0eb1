/- Plain: what Bracket answers over a table; the plain law of MoneyBands. -/
import Derived.Test.YtnjhjaifmgjljaaDoorPMx61
import Derived.Test.YtnjhjaifmgjljaaDoorPMx62
import Derived.Test.YtnjhjaifmgjljaaDoorPMx66
import Derived.Test.YtnjhjaifmgjljaaDoorPMx67
import Derived.Test.YtnjhjaifmgjljaaDoorQj
import Derived.KernelRfl
set_option linter.unusedSimpArgs false
set_option linter.unusedVariables false
namespace Go.Proofs.YtnjhjaifmgjljaaDoor.Pure
open Go.RowKit Go.Proofs.YtnjhjaifmgjljaaDoor.PM Go.Proofs.YtnjhjaifmgjljaaDoor.Q Go.Proofs.YtnjhjaifmgjljaaDoorW.PrintWords Go.Proofs.YtnjhjaifmgjljaaDoorW.PrintLast Go.Proofs.YtnjhjaifmgjljaaDoorW.PrintMore
theorem known_yes : Ev (fun k => levylaw1_known.f k) true := Ev.of (fun k => levylaw1_known.mono k) (k := 100) (by kernel_rfl)
def okB (b : S72) : Prop := 0 ≤ b.f0 ∧ b.f0 ≤ 9999999999999 ∧ 0 ≤ b.f1 ∧ b.f1 ≤ 1000000
def rise : List S72 → Prop
  | [] => True
  | [b] => okB b
  | b :: c :: l => okB b ∧ b.f0 < c.f0 ∧ rise (c :: l)
def m0 (x : Int) : Int := if x < 0 then 0 else x
def taken : List S72 → Int → Int
  | [], _ => 0
  | [b], x => m0 (x - b.f0) * b.f1
  | b :: c :: l, x => m0 (mn x c.f0 - b.f0) * b.f1 + taken (c :: l) x
theorem rise_tail {b : S72} {l : List S72} (h : rise (b :: l)) : okB b ∧ rise l := by
  cases l with
  | nil => exact ⟨h, trivial⟩
  | cons c l => exact ⟨h.1, h.2.2⟩
theorem drop72 {l : List S72} {i : Nat} (h : i < l.length) : l.drop i = rd_T72 l i :: l.drop (i + 1) := by
  rw [List.drop_eq_getElem_cons h]
  simp [rd_T72, List.getD_eq_getElem?_getD, List.getElem?_eq_getElem h]
theorem rise_drop {l : List S72} (h : rise l) : ∀ i, rise (l.drop i)
  | 0 => h
  | i + 1 => by
    have ih := rise_drop h i
    by_cases hi : i < l.length
    · rw [drop72 hi] at ih; exact (rise_tail ih).2
    · rw [List.drop_of_length_le (by omega)]; exact trivial
theorem rise_at {l : List S72} (h : rise l) {i : Nat} (hi : i < l.length) : okB (rd_T72 l i) ∧ (i + 1 < l.length → (rd_T72 l i).f0 < (rd_T72 l ((i + 1 : Nat) : Int)).f0) := by
  have h1 := rise_drop h i
  rw [drop72 hi] at h1
  refine ⟨(rise_tail h1).1, fun h2 => ?_⟩
  rw [drop72 h2] at h1
  exact h1.2.1
/-- More of x: what is taken rises by no more. -/
theorem taken_between : ∀ (l : List S72) (b : S72) (x y : Int), rise (b :: l) → x ≤ y → 0 ≤ taken (b :: l) y - taken (b :: l) x ∧ taken (b :: l) y - taken (b :: l) x ≤ (m0 (y - b.f0) - m0 (x - b.f0)) * 1000000
  | [], b, x, y, h, hxy => by
    have hb : okB b := h
    simp only [taken]
    rw [← Int.sub_mul]
    have : 0 ≤ m0 (y - b.f0) - m0 (x - b.f0) := by unfold m0; split <;> split <;> omega
    exact ⟨Int.mul_nonneg this hb.2.2.1, Int.mul_le_mul_of_nonneg_left hb.2.2.2 this⟩
  | c :: l, b, x, y, h, hxy => by
    obtain ⟨hb, hbc, hl⟩ := h
    have ih := taken_between l c x y hl hxy
    simp only [taken]
    have e : m0 (mn y c.f0 - b.f0) * b.f1 + taken (c :: l) y - (m0 (mn x c.f0 - b.f0) * b.f1 + taken (c :: l) x) = (m0 (mn y c.f0 - b.f0) - m0 (mn x c.f0 - b.f0)) * b.f1 + (taken (c :: l) y - taken (c :: l) x) := by rw [Int.sub_mul]; omega
    rw [e]
    have h0 : 0 ≤ m0 (mn y c.f0 - b.f0) - m0 (mn x c.f0 - b.f0) := by unfold m0 mn; omega
    have h1 := Int.mul_nonneg h0 hb.2.2.1
    have h2 := Int.mul_le_mul_of_nonneg_left hb.2.2.2 h0
    have h3 : m0 (y - b.f0) - m0 (x - b.f0) = (m0 (mn y c.f0 - b.f0) - m0 (mn x c.f0 - b.f0)) + (m0 (y - c.f0) - m0 (x - c.f0)) := by unfold m0 mn; omega
    rw [h3, Int.add_mul]
    omega
theorem taken_low : ∀ (l : List S72) (b : S72) (x : Int), rise (b :: l) → x ≤ b.f0 → taken (b :: l) x = 0
  | [], b, x, h, hx => by simp only [taken]; rw [show m0 (x - b.f0) = 0 by unfold m0; omega, Int.zero_mul]
  | c :: l, b, x, h, hx => by
    obtain ⟨hb, hbc, hl⟩ := h
    simp only [taken]
    rw [show m0 (mn x c.f0 - b.f0) = 0 by unfold m0 mn; omega, Int.zero_mul, taken_low l c x hl (by omega)]; rfl
theorem taken_nonneg : ∀ (l : List S72) (x : Int), rise l → 0 ≤ taken l x
  | [], x, h => Int.le_refl 0
  | b :: l, x, h => by
    by_cases hx : x ≤ b.f0
    · rw [taken_low l b x h hx]; exact Int.le_refl 0
    · have := (taken_between l b b.f0 x h (by omega)).1
      rw [taken_low l b b.f0 h (Int.le_refl _)] at this; omega
theorem taken_most (l : List S72) (b : S72) (x : Int) (h : rise (b :: l)) (hb : b.f0 = 0) (hx : 0 ≤ x) : taken (b :: l) x ≤ x * 1000000 := by
  have := (taken_between l b 0 x h hx).2
  rw [taken_low l b 0 h (by omega), hb] at this
  rw [show m0 (x - 0) - m0 (0 - 0) = x by unfold m0; omega] at this
  omega
/-- The rounding of Bracket. -/
def half (t : Int) : Int := (t + 500000) / 1000000
theorem rounded_half (t : Int) (h0 : 0 ≤ t) (h1 : t ≤ 18446744073709551615) : Ev (fun k => money_rounded.f k (t / 1000000) (t % 1000000) 1000000 false 4) (half t, true) := by
  have h := rounded_is 4 false (t / 1000000) (t % 1000000) 1000000 (by omega) (by omega) (by omega) (by omega) (by omega)
  rw [if_neg (by omega)] at h
  have e : rnd 4 false (t / 1000000) (t % 1000000) 1000000 = half t := by
    unfold rnd away half
    by_cases hc : t % 1000000 > 1000000 - t % 1000000
    · simp [hc]; omega
    · by_cases hd : t % 1000000 = 1000000 - t % 1000000
      · simp [hd.symm]; omega
      · simp [hc, hd]; omega
  rw [e] at h; exact h
theorem table_from (l : List S72) (hl : rise l) (h0 : (rd_T72 l 0).f0 = 0) (h1 : 1 ≤ l.length) (h8 : l.length ≤ 8) : ∀ (d i : Nat), i + d = l.length → Ev (fun k => money_table.l0 k l l (l.length : Int) (i : Int)) true
  | 0, i, hi => by
    refine Ev.step (f := fun _ => some true) (fun k => ?_) (Ev.now true)
    simp only [money_table.l0]
    rw [if_neg (by omega), if_pos (by omega), decide_eq_true (by omega)]
  | d + 1, i, hi => by
    have ih := table_from l hl h0 h1 h8 d (i + 1) (by omega)
    refine Ev.step (f := fun k => money_table.l0 k l l (l.length : Int) ((i + 1 : Nat) : Int)) (fun k => ?_) ih
    have hb := (rise_at hl (i := i) (by omega)).1
    have hw : wrap64 ((i : Int) + 1) = ((i + 1 : Nat) : Int) := by unfold wrap64; omega
    simp only [money_table.l0, hw]
    rw [if_pos (by omega), if_pos (by omega), if_pos (by omega)]
    by_cases hi0 : i = 0
    · subst hi0
      rw [if_pos (by rfl), if_pos (by exact h0), if_neg (by simp), if_neg (by have := hb.2.1; omega), if_neg (by have := hb.2.2.1; omega), if_neg (by have := hb.2.2.2; omega)]
    · obtain ⟨j, rfl⟩ : ∃ j, i = j + 1 := ⟨i - 1, by omega⟩
      have hn := (rise_at hl (i := j) (by omega)).2 (by omega)
      have hw2 : wrap64 (((j + 1 : Nat) : Int) - 1) = (j : Int) := by unfold wrap64; omega
      rw [if_neg (by omega), if_pos (by omega), hw2, if_pos (by omega), if_pos (by omega), if_neg (by omega), if_neg (by have := hb.2.1; omega), if_neg (by have := hb.2.2.1; omega), if_neg (by have := hb.2.2.2; omega)]
theorem table_yes (l : List S72) (hl : rise l) (h0 : (rd_T72 l 0).f0 = 0) (h1 : 1 ≤ l.length) (h8 : l.length ≤ 8) : Ev (fun k => money_table.f k l) true := table_from l hl h0 h1 h8 l.length 0 (by omega)
theorem bracket_from (l : List S72) (hl : rise l) (h8 : l.length ≤ 8) (x : Int) (hx : 0 ≤ x) (hx1 : x ≤ 9999999999999 * 2) (t : Int) (ht : t ≤ 18446744073709551615) (hv : vld 1 (half t) = true) :
    ∀ (d i : Nat) (acc : Int), i + d = l.length → 0 ≤ acc → acc + taken (l.drop i) x = t → Ev (fun k => money_Bracket.l0 k l acc l (l.length : Int) (i : Int) 1 x) (1, half t)
  | 0, i, acc, hi, ha, he => by
    rw [List.drop_of_length_le (by omega)] at he
    have he2 : acc = t := by simpa [taken] using he
    subst he2
    have h := rounded_half acc ha ht
    refine Ev.step (f := fun k => (money_rounded.f k (acc / 1000000) (acc % 1000000) 1000000 false 4).bind fun b => (money_cents.f b.1).bind fun c => some (c.1, c.2)) (fun k => ?_) (Ev.bind h (Ev.congr (fun k => ?_) (Ev.now _)))
    · simp only [money_Bracket.l0]
      rw [if_neg (by omega), Int.tdiv_eq_ediv_of_nonneg ha, Int.tmod_eq_emod_of_nonneg ha, u64 (by omega) (by omega)]
    · rw [cents_is]; simp [boundS, hv]
  | d + 1, i, acc, hi, ha, he => by
    have hb := (rise_at hl (i := i) (by omega)).1
    have hw : wrap64 ((i : Int) + 1) = ((i + 1 : Nat) : Int) := by unfold wrap64; omega
    have tn := taken_nonneg (l.drop (i + 1)) x (rise_drop hl (i + 1))
    have step : ∀ top : Int, top ≤ x → acc + (m0 (top - (rd_T72 l i).f0) * (rd_T72 l i).f1 + taken (l.drop (i + 1)) x) = t →
        Ev (fun k => if top > (rd_T72 l i).f0 then money_Bracket.l0 k l (IntKind.u64.wrap (acc + IntKind.u64.wrap (IntKind.u64.wrap (wrap64 (top - (rd_T72 l i).f0)) * IntKind.u64.wrap (rd_T72 l i).f1))) l (l.length : Int) ((i + 1 : Nat) : Int) 1 x else money_Bracket.l0 k l acc l (l.length : Int) ((i + 1 : Nat) : Int) 1 x) (1, half t) := by
      intro top htop hsum
      by_cases hc : top > (rd_T72 l i).f0
      · have hp : 0 ≤ (top - (rd_T72 l i).f0) * (rd_T72 l i).f1 := Int.mul_nonneg (by omega) hb.2.2.1
        have hm : m0 (top - (rd_T72 l i).f0) = top - (rd_T72 l i).f0 := by unfold m0; omega
        rw [hm] at hsum
        refine Ev.congr (f := fun k => money_Bracket.l0 k l (acc + (top - (rd_T72 l i).f0) * (rd_T72 l i).f1) l (l.length : Int) ((i + 1 : Nat) : Int) 1 x) (fun k => ?_) (bracket_from l hl h8 x hx hx1 t ht hv d (i + 1) _ (by omega) (by omega) (by omega))
        have b1 := hb.1
        have b2 := hb.2.1
        have b3 := hb.2.2.1
        have b4 := hb.2.2.2
        rw [if_pos hc, show wrap64 (top - (rd_T72 l i).f0) = top - (rd_T72 l i).f0 by unfold wrap64; omega, u64 (x := top - (rd_T72 l i).f0) (by omega) (by omega), u64 (x := (rd_T72 l i).f1) (by omega) (by omega),
          u64 (x := (top - (rd_T72 l i).f0) * (rd_T72 l i).f1) hp (by omega), u64 (by omega) (by omega)]
      · have hm : m0 (top - (rd_T72 l i).f0) = 0 := by unfold m0; omega
        rw [hm, Int.zero_mul] at hsum
        exact Ev.congr (fun k => if_neg hc) (bracket_from l hl h8 x hx hx1 t ht hv d (i + 1) acc (by omega) ha (by omega))
    rw [drop72 (by omega : i < l.length)] at he
    by_cases hn : i + 1 < l.length
    · have hd := drop72 hn
      rw [hd] at he
      simp only [taken] at he
      rw [← hd] at he
      refine Ev.step (fun k => ?_) (step (mn x (rd_T72 l ((i + 1 : Nat) : Int)).f0) (by unfold mn; omega) he)
      simp only [money_Bracket.l0, hw]
      rw [if_pos (by omega), if_pos (by omega), if_pos (by omega), if_pos (by omega), if_pos (by omega)]
    · have hd : l.drop (i + 1) = [] := List.drop_of_length_le (by omega)
      rw [hd] at he
      refine Ev.step (fun k => ?_) (step x (Int.le_refl _) (by rw [hd]; simpa [taken] using he))
      simp only [money_Bracket.l0, hw]
      rw [if_pos (by omega), if_pos (by omega), if_pos (by omega), if_neg (by omega)]
/-- What Bracket answers over a table that may be. -/
theorem bracket_is (l : List S72) (hl : rise l) (h0 : (rd_T72 l 0).f0 = 0) (h1 : 1 ≤ l.length) (h8 : l.length ≤ 8) (x : Int) (hx : 0 ≤ x) (hx1 : x ≤ 9999999999999) :
    Ev (fun k => money_Bracket.f k l 1 x) (1, half (taken l x)) ∧ 0 ≤ half (taken l x) ∧ half (taken l x) ≤ x := by
  obtain ⟨b, r, rfl⟩ : ∃ b r, l = b :: r := by cases l with | nil => simp at h1 | cons b r => exact ⟨b, r, rfl⟩
  have hm := taken_most r b x hl h0 hx
  have hn := taken_nonneg _ x hl
  have r1 : 0 ≤ half (taken (b :: r) x) ∧ half (taken (b :: r) x) ≤ x := by unfold half; omega
  refine ⟨?_, r1⟩
  unfold money_Bracket.f
  have hf : flt [⟨1, x⟩] = none := by simp [flt, vld]; omega
  refine Ev.bind (Ev.seen [⟨1, x⟩] (by simp)) ?_
  rw [hf]
  refine Ev.congr (f := fun k => (money_table.f k (b :: r)).bind fun t => money_Bracket.j0 k (b :: r) (!t) 1 x) (fun k => ?_) (Ev.bind (table_yes _ hl h0 h1 h8) ?_)
  · simp [seenR]
  · refine Ev.step (f := fun k => money_Bracket.l0 k (b :: r) 0 (b :: r) ((b :: r).length : Int) ((0 : Nat) : Int) 1 x) (fun k => ?_) (bracket_from (b :: r) hl h8 x hx (by omega) _ (by omega) (by simp [vld]; omega) (b :: r).length 0 0 (by omega) (by omega) (by simp))
    simp [money_Bracket.j0]
theorem rise_append : ∀ (a : List S72) (z b : S72), rise (a ++ [z]) → z.f0 < b.f0 → okB b → rise (a ++ [z] ++ [b])
  | [], z, b, h, hz, hb => ⟨h, hz, hb⟩
  | [y], z, b, h, hz, hb => ⟨h.1, h.2.1, h.2.2, hz, hb⟩
  | y :: c :: a, z, b, h, hz, hb => by
    have h2 : okB y ∧ y.f0 < c.f0 ∧ rise (c :: a ++ [z]) := h
    exact ⟨h2.1, h2.2.1, rise_append (c :: a) z b h2.2.2 hz hb⟩
theorem tmods (x m : Int) (h : 0 < m) (h1 : m ≤ 9000000000) : 0 ≤ Int.tmod (wrap64 (Int.tmod x m + m)) m ∧ Int.tmod (wrap64 (Int.tmod x m + m)) m < m := by
  have a0 := Int.lt_tmod_of_pos x h
  have a1 := Int.tmod_lt_of_pos x h
  rw [show wrap64 (Int.tmod x m + m) = Int.tmod x m + m by unfold wrap64; omega]
  exact ⟨Int.tmod_nonneg m (by omega), Int.tmod_lt_of_pos _ h⟩
theorem right_from (bands : List S72) : ∀ (d i : Nat) (a : List S72) (z : S72), i + d = 7 → a.length = i → rise (a ++ [z]) → (rd_T72 (a ++ [z]) 0).f0 = 0 → z.f0 ≤ (i : Int) * 1000000000 →
    ∃ l, Ev (fun k => levylaw1_right.l0 k bands (a ++ [z]) (i : Int)) l ∧ rise l ∧ (rd_T72 l 0).f0 = 0 ∧ 1 ≤ l.length ∧ l.length ≤ 8 := by
  intro d
  induction d with
  | zero =>
    intro i a z hi hl hr h0 hz
    refine ⟨a ++ [z], Ev.step (f := fun _ => some (a ++ [z])) (fun k => ?_) (Ev.now _), hr, h0, by simp, by simp; omega⟩
    simp only [levylaw1_right.l0]
    rw [if_neg (by omega : ¬ ((i : Int) < 7))]
    simp
  | succ d ih =>
    intro i a z hi hl hr h0 hz
    by_cases hb : (i : Int) < (bands.length : Int)
    · have hz0 : okB z := by
        have := (rise_at hr (i := i) (by simp; omega)).1
        have e : rd_T72 (a ++ [z]) (i : Int) = z := by simp [rd_T72, List.getD_eq_getElem?_getD, hl.symm]
        rwa [e] at this
      have m1 := tmods (rd_T72 bands i).f0 1000000000 (by omega) (by omega)
      have m2 := tmods (rd_T72 bands i).f1 1000001 (by omega) (by omega)
      generalize hT : Int.tmod (wrap64 (Int.tmod (rd_T72 bands i).f0 1000000000 + 1000000000)) 1000000000 = T at m1
      generalize hU : Int.tmod (wrap64 (Int.tmod (rd_T72 bands i).f1 1000001 + 1000001)) 1000001 = U at m2
      have hlen : (((a ++ [z]).length : Nat) : Int) = (i : Int) + 1 := by clear hT hU; simp; omega
      have e : rd_T72 (a ++ [z]) (i : Int) = z := by simp [rd_T72, List.getD_eq_getElem?_getD, hl.symm]
      have h1 := hz0.1
      obtain ⟨l, hl1, hl2⟩ := ih (i + 1) (a ++ [z]) ⟨z.f0 + (1 + T), U⟩
        (by clear hT hU; omega) (by clear hT hU; simp; omega) (rise_append a z _ hr (by clear hT hU; simp only; omega) ⟨by clear hT hU; simp only; omega, by clear hT hU; simp only; omega, by clear hT hU; simp only; omega, by clear hT hU; simp only; omega⟩)
        (by cases a with | nil => exact h0 | cons y a => exact h0) (by clear hT hU; simp only; omega)
      refine ⟨l, Ev.step (fun k => ?_) hl1, hl2⟩
      clear hl2 hl1 h0 hr ih
      have hw : wrap64 ((i : Int) + 1) = ((i + 1 : Nat) : Int) := by clear hT hU; unfold wrap64; omega
      have hlt : (a ++ [z]).length < 8796093022208 := by clear hT hU; rw [List.length_append, hl]; simp; omega
      simp only [levylaw1_right.l0]
      rw [hT, hU]
      clear hT hU
      rw [hlen, show wrap64 ((i : Int) + 1 - 1) = (i : Int) by unfold wrap64; omega, if_pos hb, if_pos (by omega), if_pos (by omega), if_pos (by omega), if_pos (by omega), if_pos hlt, e, hw,
        show wrap64 (1 + T) = 1 + T from w64 (by omega) (by omega), show wrap64 (z.f0 + (1 + T)) = z.f0 + (1 + T) from w64 (by omega) (by omega)]
    · refine ⟨a ++ [z], Ev.step (f := fun _ => some (a ++ [z])) (fun k => ?_) (Ev.now _), hr, h0, by simp, by simp; omega⟩
      simp only [levylaw1_right.l0]
      rw [if_neg hb]
theorem right_is (bands : List S72) : ∃ l, Ev (fun k => levylaw1_right.f k bands) l ∧ rise l ∧ (rd_T72 l 0).f0 = 0 ∧ 1 ≤ l.length ∧ l.length ≤ 8 :=
  right_from bands 7 0 [] ⟨0, 150000⟩ rfl rfl ⟨by decide, by decide, by decide, by decide⟩ rfl (by decide)
def cutS (c : Int) : List S72 → List S72
  | [] => []
  | [b] => if c > b.f0 then [b, ⟨c, b.f1⟩] else [b]
  | b :: d :: l => if c > b.f0 ∧ c < d.f0 then b :: ⟨c, b.f1⟩ :: cutS c (d :: l) else b :: cutS c (d :: l)
theorem cut_low (c : Int) : ∀ (l : List S72) (b : S72), rise (b :: l) → c ≤ b.f0 → cutS c (b :: l) = b :: l
  | [], b, h, hc => by simp only [cutS]; rw [if_neg (by omega)]
  | d :: l, b, h, hc => by simp only [cutS]; rw [if_neg (by omega), cut_low c l d h.2.2 (by have := h.2.1; omega)]
theorem cut_is (c : Int) (hc : 0 ≤ c) (hc1 : c ≤ 9999999999999) (x : Int) : ∀ (l : List S72) (b : S72), rise (b :: l) →
    ∃ r, cutS c (b :: l) = b :: r ∧ rise (b :: r) ∧ taken (b :: r) x = taken (b :: l) x ∧ r.length ≤ l.length + 1
  | [], b, h => by
    have hb : okB b := h
    by_cases hg : c > b.f0
    · refine ⟨[⟨c, b.f1⟩], by simp only [cutS]; rw [if_pos hg], ⟨hb, hg, ⟨hc, hc1, hb.2.2⟩⟩, ?_, by simp⟩
      simp only [taken]
      rw [← Int.add_mul, show m0 (mn x c - b.f0) + m0 (x - c) = m0 (x - b.f0) by unfold m0 mn; omega]
    · exact ⟨[], by simp only [cutS]; rw [if_neg hg], h, rfl, by simp⟩
  | d :: l, b, h => by
    obtain ⟨hb, hbd, hl⟩ := h
    by_cases hg : c > b.f0 ∧ c < d.f0
    · refine ⟨⟨c, b.f1⟩ :: d :: l, by simp only [cutS]; rw [if_pos hg, cut_low c l d hl (by omega)], ⟨hb, hg.1, ⟨hc, hc1, hb.2.2⟩, hg.2, hl⟩, ?_, by simp⟩
      simp only [taken]
      rw [← Int.add_assoc, ← Int.add_mul, show m0 (mn x c - b.f0) + m0 (mn x d.f0 - c) = m0 (mn x d.f0 - b.f0) by unfold m0 mn; omega]
    · obtain ⟨r, h1, h2, h3, h4⟩ := cut_is c hc hc1 x l d hl
      refine ⟨d :: r, by simp only [cutS]; rw [if_neg hg, h1], ⟨hb, hbd, h2⟩, ?_, by simp; omega⟩
      simp only [taken, h3]
theorem bands_from (l : List S72) (h8 : l.length ≤ 8) (c x v : Int) (m : List S72) (hm : Ev (fun k => money_Bracket.f k m 1 x) (1, v)) :
    ∀ (d i : Nat) (acc : List S72), i + d = l.length → acc.length ≤ 2 * i → acc ++ cutS c (l.drop i) = m → Ev (fun k => levylaw1_MoneyBands.l0 k x l c acc (i : Int) 1 v) true
  | 0, i, acc, hi, ha, he => by
    rw [List.drop_of_length_le (by omega)] at he
    have he2 : acc = m := by simpa [cutS] using he
    subst he2
    refine Ev.step (f := fun k => (money_Bracket.f k acc 1 x).bind fun b => some (b.1 == 1 && (b.2 == v))) (fun k => ?_) (Ev.bind hm (Ev.congr (fun k => by simp) (Ev.now true)))
    simp only [levylaw1_MoneyBands.l0, levylaw1_c.f, Option.bind_some]
    rw [if_neg (by omega)]
  | d + 1, i, acc, hi, ha, he => by
    have hw : wrap64 ((i : Int) + 1) = ((i + 1 : Nat) : Int) := by unfold wrap64; omega
    rw [drop72 (by omega : i < l.length)] at he
    by_cases hn : i + 1 < l.length
    · have hd := drop72 hn
      rw [hd] at he
      simp only [cutS] at he
      rw [← hd] at he
      by_cases hg : c > (rd_T72 l i).f0 ∧ c < (rd_T72 l ((i + 1 : Nat) : Int)).f0
      · rw [if_pos hg] at he
        refine Ev.step (fun k => ?_) (bands_from l h8 c x v m hm d (i + 1) (acc ++ [⟨(rd_T72 l i).f0, (rd_T72 l i).f1⟩] ++ [⟨c, (rd_T72 l i).f1⟩]) (by omega) (by simp; omega) (by rw [← he]; simp))
        simp only [levylaw1_MoneyBands.l0, hw, Option.bind_some]
        rw [if_pos (by omega), if_pos (by omega), if_pos (by omega), if_pos hg.1, if_neg (by omega), if_pos (by omega), if_pos (by omega), if_pos hg.2, if_pos (by simp; omega)]
      · rw [if_neg hg] at he
        refine Ev.step (fun k => ?_) (bands_from l h8 c x v m hm d (i + 1) (acc ++ [⟨(rd_T72 l i).f0, (rd_T72 l i).f1⟩]) (by omega) (by simp; omega) (by rw [← he]; simp))
        simp only [levylaw1_MoneyBands.l0, hw, Option.bind_some]
        rw [if_pos (by omega), if_pos (by omega), if_pos (by omega)]
        by_cases h1 : c > (rd_T72 l i).f0
        · rw [if_pos h1, if_neg (by omega), if_pos (by omega), if_pos (by omega), if_neg (fun h2 => hg ⟨h1, h2⟩)]
        · rw [if_neg h1]
    · have hd : l.drop (i + 1) = [] := List.drop_of_length_le (by omega)
      rw [hd] at he
      simp only [cutS] at he
      by_cases hg : c > (rd_T72 l i).f0
      · rw [if_pos hg] at he
        refine Ev.step (fun k => ?_) (bands_from l h8 c x v m hm d (i + 1) (acc ++ [⟨(rd_T72 l i).f0, (rd_T72 l i).f1⟩] ++ [⟨c, (rd_T72 l i).f1⟩]) (by omega) (by simp; omega) (by rw [hd, ← he]; simp [cutS]))
        simp only [levylaw1_MoneyBands.l0, hw, Option.bind_some]
        rw [if_pos (by omega), if_pos (by omega), if_pos (by omega), if_pos hg, if_pos (by omega), if_pos (by simp; omega)]
      · rw [if_neg hg] at he
        refine Ev.step (fun k => ?_) (bands_from l h8 c x v m hm d (i + 1) (acc ++ [⟨(rd_T72 l i).f0, (rd_T72 l i).f1⟩]) (by omega) (by simp; omega) (by rw [hd, ← he]; simp [cutS]))
        simp only [levylaw1_MoneyBands.l0, hw, Option.bind_some]
        rw [if_pos (by omega), if_pos (by omega), if_pos (by omega), if_neg hg]
theorem MoneyBands (bands : List S72) (a1 a2 a3 : Int) : ∃ k, levylaw1_MoneyBands.f k bands a1 a2 a3 = some true := by
  refine Ev.rounds ?_
  unfold levylaw1_MoneyBands.f
  refine Ev.bind known_yes (Ev.congr (fun k => if_pos rfl) ?_)
  obtain ⟨l, hE, hr, h0, h1, h8⟩ := right_is bands
  refine Ev.bind hE ?_
  have hx := tmods a1 9000000000 (by omega) (by omega)
  have hy := tmods a2 9000000000 (by omega) (by omega)
  have hc := tmods a3 9000000000 (by omega) (by omega)
  generalize Int.tmod (wrap64 (Int.tmod a1 9000000000 + 9000000000)) 9000000000 = x at *
  generalize Int.tmod (wrap64 (Int.tmod a2 9000000000 + 9000000000)) 9000000000 = y at *
  simp only [levylaw1_c.f, Option.bind_some]
  obtain ⟨s1, p1, p2⟩ := bracket_is l hr h0 h1 h8 x (by omega) (by omega)
  rw [show wrap64 (x + y) = x + y by unfold wrap64; omega]
  obtain ⟨s2, q1, q2⟩ := bracket_is l hr h0 h1 h8 (x + y) (by omega) (by omega)
  refine Ev.bind s1 (Ev.bind s2 ?_)
  obtain ⟨b, r, rfl⟩ : ∃ b r, l = b :: r := by cases l with | nil => simp at h1 | cons b r => exact ⟨b, r, rfl⟩
  have hb0 : b.f0 = 0 := h0
  have hbt := taken_between r b x (x + y) hr (by omega)
  rw [hb0, show m0 (x + y - 0) - m0 (x - 0) = y by unfold m0; omega] at hbt
  have hab : half (taken (b :: r) x) ≤ half (taken (b :: r) (x + y)) ∧ half (taken (b :: r) (x + y)) ≤ half (taken (b :: r) x) + y + 1 := by unfold half; omega
  obtain ⟨r2, c1, c2, c3, c4⟩ := cut_is (1 + Int.tmod (wrap64 (Int.tmod a3 9000000000 + 9000000000)) 9000000000) (by omega) (by omega) x r b hr
  generalize hA : half (taken (b :: r) x) = A at *
  generalize hB : half (taken (b :: r) (x + y)) = B at *
  refine Ev.congr (f := fun k => levylaw1_MoneyBands.j0 k x a3 (b :: r) false 1 A) (fun k => ?_) ?_
  · simp only []
    rw [if_pos trivial, if_pos trivial, if_neg (by omega), if_neg (by omega), if_neg (by omega), show wrap64 (A + y) = A + y by unfold wrap64; omega, show wrap64 (A + y + 1) = A + y + 1 by unfold wrap64; omega, decide_eq_false (by omega)]
  · by_cases h7 : (((b :: r).length : Nat) : Int) > 7
    · refine Ev.step (f := fun _ => some true) (fun k => ?_) (Ev.now true)
      simp only [levylaw1_MoneyBands.j0]
      rw [if_neg (by decide), if_pos h7]
    · have h9 : (b :: r2).length ≤ 8 := by simp at h7 ⊢; omega
      obtain ⟨s3, _, _⟩ := bracket_is (b :: r2) c2 hb0 (by simp) h9 x (by omega) (by omega)
      rw [c3, hA] at s3
      refine Ev.step (f := fun k => levylaw1_MoneyBands.l0 k x (b :: r) (1 + Int.tmod (wrap64 (Int.tmod a3 9000000000 + 9000000000)) 9000000000) [] ((0 : Nat) : Int) 1 A) (fun k => ?_)
        (bands_from (b :: r) h8 _ x A (b :: r2) s3 (b :: r).length 0 [] (by omega) (by simp) (by simpa using c1))
      simp only [levylaw1_MoneyBands.j0]
      rw [if_neg (by decide), if_neg h7, show wrap64 (1 + Int.tmod (wrap64 (Int.tmod a3 9000000000 + 9000000000)) 9000000000) = 1 + Int.tmod (wrap64 (Int.tmod a3 9000000000 + 9000000000)) 9000000000 from w64 (by omega) (by omega)]
      rfl
end Go.Proofs.YtnjhjaifmgjljaaDoor.Pure

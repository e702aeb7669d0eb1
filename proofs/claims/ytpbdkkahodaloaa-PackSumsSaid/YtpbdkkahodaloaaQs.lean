/- Plain: both checksums are one; the plain law of PackSums. -/
import Derived.Test.YtpbdkkahodaloaaPSx1
import Derived.Test.YtpbdkkahodaloaaPSx2
import Derived.Test.YtpbdkkahodaloaaPSx3
import Derived.Laws.BitsAllLaws
import Derived.OpenShut
set_option linter.unusedSimpArgs false
set_option linter.unusedVariables false
namespace Go.Proofs.Ytpbdkkahodaloaa.Pure
open Go.RowKit Go.Proofs.Ytpbdkkahodaloaa.PS Go.Proofs.YtpbdkkahodaloaaW.PrintWords Go.Proofs.YtpbdkkahodaloaaW.PrintLast Go.Proofs.YtpbdkkahodaloaaW.PrintMore
theorem u64 {x : Int} (h0 : 0 ≤ x) (h1 : x ≤ 18446744073709551615) : IntKind.u64.wrap x = x := by
  show x % 18446744073709551616 = x
  omega
def bytes (l : List Int) : Prop := ∀ c ∈ l, 0 ≤ c ∧ c ≤ 255
/-- One byte more. -/
def next (h c : Nat) : Nat := ((h ^^^ c) * 16777619) % 4294967296
def sumS (h : Nat) : List Int → Nat
  | [] => h
  | c :: l => sumS (next h c.toNat) l
theorem next_lt (h c : Nat) : next h c < 4294967296 := Nat.mod_lt _ (by decide)
theorem rdrop {l : List Int} {i : Nat} (h : i < l.length) : l.drop i = rd l i :: l.drop (i + 1) := by
  rw [List.drop_eq_getElem_cons h]
  simp [rd, List.getD_eq_getElem?_getD, List.getElem?_eq_getElem h]
theorem rd_byte {l : List Int} (hl : bytes l) {i : Nat} (h : i < l.length) : 0 ≤ rd l i ∧ rd l i ≤ 255 := by
  have : rd l i = l[i] := by simp [rd, List.getD_eq_getElem?_getD, List.getElem?_eq_getElem h]
  rw [this]; exact hl _ (List.getElem_mem h)
theorem wrap_next {i n : Nat} (h : i < n) (hn : n ≤ 1000000000) : wrap64 ((i : Int) + 1) = ((i + 1 : Nat) : Int) := by unfold wrap64; omega
theorem sum_from (l : List Int) (hl : bytes l) (hn : l.length ≤ 1000000000) : ∀ (d i h : Nat), i + d = l.length → h < 4294967296 → Ev (fun k => pack_Sum.l0 k (h : Int) l (l.length : Int) (i : Int)) ((sumS h (l.drop i) : Nat) : Int)
  | 0, i, h, hi, hh => by
    rw [List.drop_of_length_le (by omega)]
    refine Ev.step (f := fun _ => some (h : Int)) (fun k => ?_) (Ev.now _)
    simp only [pack_Sum.l0]
    rw [if_neg (by omega)]
  | d + 1, i, h, hi, hh => by
    rw [rdrop (by omega : i < l.length)]
    have hb := rd_byte hl (i := i) (by omega)
    obtain ⟨c, hc⟩ := Int.eq_ofNat_of_zero_le hb.1
    refine Ev.step (f := fun k => pack_Sum.l0 k ((next h c : Nat) : Int) l (l.length : Int) ((i + 1 : Nat) : Int)) (fun k => ?_) ?_
    · simp only [pack_Sum.l0]
      rw [if_pos (by omega), if_pos (by omega), if_pos (by omega), wrap_next (by omega : i < l.length) hn, hc, show ((c : Int)) % 4294967296 = (c : Int) by omega, u32_xor_nat h c hh (by omega)]
      rfl
    · have := sum_from l hl hn d (i + 1) (next h c) (by omega) (next_lt h c)
      simpa [sumS, hc] using this
theorem sum_is (l : List Int) (hl : bytes l) (hn : l.length ≤ 1000000000) : Ev (fun k => pack_Sum.f k l) ((sumS 2166136261 l : Nat) : Int) := sum_from l hl hn l.length 0 2166136261 (by omega) (by omega)
theorem xor_half (a b : Nat) : a ^^^ b = (a + b) % 2 + 2 * (a / 2 ^^^ b / 2) := by
  have h1 := Nat.div_add_mod (a ^^^ b) 2
  have h2 : (a ^^^ b) % 2 = (a + b) % 2 := by
    have := Nat.xor_mod_two_pow (a := a) (b := b) (n := 1)
    rw [show (2 : Nat) ^ 1 = 2 from rfl] at this
    rw [this]
    rcases Nat.mod_two_eq_zero_or_one a with h | h <;> rcases Nat.mod_two_eq_zero_or_one b with g | g <;> rw [h, g] <;> simp <;> omega
  have h3 : (a ^^^ b) / 2 = a / 2 ^^^ b / 2 := by
    have := Nat.xor_div_two_pow (a := a) (b := b) (n := 1)
    simpa using this
  omega
theorem xor_low (h c : Nat) (hc : c < 256) : h ^^^ c = h - h % 256 + (h % 256 ^^^ c) := by
  have h1 := Nat.div_add_mod (h ^^^ c) 256
  have h2 : (h ^^^ c) % 256 = h % 256 ^^^ c := by
    have := Nat.xor_mod_two_pow (a := h) (b := c) (n := 8)
    rw [show (2 : Nat) ^ 8 = 256 from rfl, Nat.mod_eq_of_lt hc] at this
    exact this
  have h3 : (h ^^^ c) / 256 = h / 256 := by
    have := Nat.xor_div_two_pow (a := h) (b := c) (n := 8)
    rw [show (2 : Nat) ^ 8 = 256 from rfl, Nat.div_eq_of_lt hc, Nat.xor_zero] at this
    exact this
  omega
theorem bits_from (l : List Int) (h i : Nat) (r : Int) : ∀ (d a b y u : Nat), d ≤ 8 → a < 2 ^ d → b < 2 ^ d → u * 2 ^ d = 256 → y < u →
    Ev (fun k => levyref7_Sum.l0 k l (Int.tmod (IntKind.u64.wrap ((IntKind.u64.wrap ((IntKind.u64.wrap ((h : Int) - (Int.tmod (h : Int) 256))) + ((y + u * (a ^^^ b) : Nat) : Int))) * 16777619)) 4294967296) (wrap64 ((i : Int) + 1))) r →
    Ev (fun k => levyref7_Sum.l1 k l (h : Int) (i : Int) (a : Int) (b : Int) (y : Int) (u : Int) ((8 - d : Nat) : Int)) r
  | 0, a, b, y, u, hd, ha, hb, hu, hy, E => by
    obtain rfl : a = 0 := by omega
    obtain rfl : b = 0 := by omega
    refine Ev.step (fun k => ?_) E
    simp only [levyref7_Sum.l1]
    rw [if_neg (by omega)]
    simp
  | d + 1, a, b, y, u, hd, ha, hb, hu, hy, E => by
    have hp : 2 ^ (d + 1) = 2 * 2 ^ d := by rw [Nat.pow_succ]; omega
    rw [hp] at ha hb hu
    have hu1 : u ≤ 256 := by
      have : 1 ≤ 2 * 2 ^ d := by have := Nat.two_pow_pos d; omega
      have := Nat.le_mul_of_pos_right u this; omega
    have e : y + u * (a ^^^ b) = (y + u * ((a + b) % 2)) + u * 2 * (a / 2 ^^^ b / 2) := by
      rw [xor_half a b, Nat.mul_add]; rw [Nat.mul_assoc]; omega
    have hb2 : 2 * 2 ^ d ≤ 256 := by
      have : 2 ^ d ≤ 2 ^ 7 := Nat.pow_le_pow_right (by decide) (by omega)
      omega
    have hub : u * ((a + b) % 2) ≤ u := by
      have : (a + b) % 2 ≤ 1 := by omega
      calc u * ((a + b) % 2) ≤ u * 1 := Nat.mul_le_mul_left u this
        _ = u := by omega
    have hu2 : u * 2 * 2 ^ d = 256 := by rw [Nat.mul_assoc]; exact hu
    refine Ev.step (fun k => ?_) (bits_from l h i r d (a / 2) (b / 2) (y + u * ((a + b) % 2)) (u * 2) (by omega) (by omega) (by omega) hu2 (by omega) (by rw [← e]; exact E))
    simp only [levyref7_Sum.l1]
    have hm : ((u : Int) * (((a + b) % 2 : Nat) : Int)) = ((u * ((a + b) % 2) : Nat) : Int) := by simp
    rw [if_pos (by omega), show Int.tdiv (a : Int) 2 = ((a / 2 : Nat) : Int) from by rw [Int.tdiv_eq_ediv_of_nonneg (by omega)]; omega, show Int.tdiv (b : Int) 2 = ((b / 2 : Nat) : Int) from by rw [Int.tdiv_eq_ediv_of_nonneg (by omega)]; omega,
      u64 (x := ((a / 2 : Nat) : Int)) (by omega) (by omega), u64 (x := ((b / 2 : Nat) : Int)) (by omega) (by omega), u64 (x := (a : Int) + (b : Int)) (by omega) (by omega),
      show Int.tmod ((a : Int) + (b : Int)) 2 = (((a + b) % 2 : Nat) : Int) from by rw [Int.tmod_eq_emod_of_nonneg (by omega)]; omega, hm, u64 (x := ((u * ((a + b) % 2) : Nat) : Int)) (by omega) (by omega),
      u64 (x := (y : Int) + ((u * ((a + b) % 2) : Nat) : Int)) (by omega) (by omega), u64 (x := (u : Int) * 2) (by omega) (by omega), show wrap64 (((8 - (d + 1) : Nat) : Int) + 1) = ((8 - d : Nat) : Int) from by unfold wrap64; omega]
    simp
theorem ref_from (l : List Int) (hl : bytes l) (hn : l.length ≤ 1000000000) : ∀ (d i h : Nat), i + d = l.length → h < 4294967296 → Ev (fun k => levyref7_Sum.l0 k l (h : Int) (i : Int)) ((sumS h (l.drop i) : Nat) : Int)
  | 0, i, h, hi, hh => by
    rw [List.drop_of_length_le (by omega)]
    refine Ev.step (f := fun _ => some (h : Int)) (fun k => ?_) (Ev.now _)
    simp only [levyref7_Sum.l0]
    rw [if_neg (by omega), show (h : Int) % 4294967296 = (h : Int) by omega]
  | d + 1, i, h, hi, hh => by
    rw [rdrop (by omega : i < l.length)]
    have hb := rd_byte hl (i := i) (by omega)
    obtain ⟨c, hc⟩ := Int.eq_ofNat_of_zero_le hb.1
    have hc2 : c < 256 := by omega
    have hx : h % 256 ^^^ c < 256 := Nat.xor_lt_two_pow (n := 8) (by omega) hc2
    have hlow := xor_low h c hc2
    have hlt : h ^^^ c < 4294967296 := Nat.xor_lt_two_pow (n := 32) hh (by omega)
    have ih := ref_from l hl hn d (i + 1) (next h c) (by omega) (next_lt h c)
    have hs : sumS h (rd l i :: l.drop (i + 1)) = sumS (next h c) (l.drop (i + 1)) := by simp [sumS, hc]
    rw [hs]
    refine Ev.step (f := fun k => levyref7_Sum.l1 k l (h : Int) (i : Int) ((h % 256 : Nat) : Int) (c : Int) ((0 : Nat) : Int) ((1 : Nat) : Int) ((8 - 8 : Nat) : Int)) (fun k => ?_)
      (bits_from l h i _ 8 (h % 256) c 0 1 (by omega) (by omega) (by omega) (by decide) (by omega) (Ev.congr (fun k => ?_) ih))
    · simp only [levyref7_Sum.l0]
      rw [if_pos (by omega), if_pos (by omega), hc, u64 (x := (c : Int)) (by omega) (by omega), show Int.tmod (h : Int) 256 = ((h % 256 : Nat) : Int) from by rw [Int.tmod_eq_emod_of_nonneg (by omega)]; omega]
      rfl
    · rw [wrap_next (by omega : i < l.length) hn, show Int.tmod (h : Int) 256 = ((h % 256 : Nat) : Int) from by rw [Int.tmod_eq_emod_of_nonneg (by omega)]; omega, u64 (x := (h : Int) - ((h % 256 : Nat) : Int)) (by omega) (by omega),
        Nat.zero_add, Nat.one_mul, show ((h : Int) - ((h % 256 : Nat) : Int)) + ((h % 256 ^^^ c : Nat) : Int) = ((h ^^^ c : Nat) : Int) by omega, u64 (x := ((h ^^^ c : Nat) : Int)) (by omega) (by omega),
        u64 (x := ((h ^^^ c : Nat) : Int) * 16777619) (by omega) (by omega), Int.tmod_eq_emod_of_nonneg (by omega)]
      rw [show (((h ^^^ c : Nat) : Int) * 16777619) % 4294967296 = ((next h c : Nat) : Int) from by unfold next; omega]
theorem ref_is (l : List Int) (hl : bytes l) (hn : l.length ≤ 1000000000) : Ev (fun k => levyref7_Sum.f k l) ((sumS 2166136261 l : Nat) : Int) := ref_from l hl hn l.length 0 2166136261 (by omega) (by omega)
theorem turn_from : ∀ (d i : Nat) (l : List Int), bytes l → l.length ≤ 262144 → i + d = l.length → Ev (fun k => levylaw7_PackSums.l0 k l (i : Int)) true
  | 0, i, l, hl, hn, hi => by
    refine Ev.step (f := fun k => (pack_Sum.f k l).bind fun t => (levyref7_Sum.f k l).bind fun u => some (t == u)) (fun k => ?_) (Ev.bind (sum_is l hl (by omega)) (Ev.bind (ref_is l hl (by omega)) (Ev.congr (fun k => by simp) (Ev.now true))))
    simp only [levylaw7_PackSums.l0]
    rw [if_neg (by omega)]
    simp only [Option.bind_some, List.nil_append, List.length_nil, if_pos (show 0 + l.length < 140737488355328 by omega)]
  | d + 1, i, l, hl, hn, hi => by
    have hb := rd_byte hl (i := i) (by omega)
    have h2 : bytes (l.set i (Go.bits .xor .u8 (rd l i) 3)) := by
      intro c hc
      rcases List.mem_or_eq_of_mem_set hc with h | h
      · exact hl c h
      · subst h
        obtain ⟨x, hx⟩ := Int.eq_ofNat_of_zero_le hb.1
        rw [hx, show (3 : Int) = ((3 : Nat) : Int) from rfl, u8_xor_nat x 3 (by omega) (by omega)]
        have : x ^^^ 3 < 256 := Nat.xor_lt_two_pow (n := 8) (by omega) (by decide)
        omega
    refine Ev.step (fun k => ?_) (turn_from d (i + 1) (l.set i (Go.bits .xor .u8 (rd l i) 3)) h2 (by simp; omega) (by simp; omega))
    simp only [levylaw7_PackSums.l0]
    rw [if_pos (by omega), if_pos (by omega), wrap_next (by omega : i < l.length) (by omega)]
    rfl
theorem PackSums (l : List Int) (ok : l.length ≤ maxLen ∧ ∀ x ∈ l, (Lit.int .u8 x).wf = true) : ∃ k, levylaw7_PackSums.f k l = some true := by
  have hl : bytes l := fun c hc => bounds_u8 (ok.2 c hc)
  refine Ev.rounds ?_
  unfold levylaw7_PackSums.f
  by_cases hn : (l.length : Int) > 262144
  · exact Ev.congr (fun k => if_pos hn) (Ev.now true)
  · refine Ev.congr (f := fun k => (pack_Sum.f k l).bind fun t => (levyref7_Sum.f k l).bind fun u => if t = u then levylaw7_PackSums.l0 k l ((0 : Nat) : Int) else some false) (fun k => ?_)
      (Ev.bind (sum_is l hl (by omega)) (Ev.bind (ref_is l hl (by omega)) (Ev.congr (fun k => if_pos rfl) (turn_from l.length 0 l hl (by omega) (by omega)))))
    rw [if_neg hn]
    simp only [Option.bind_some, List.nil_append, List.length_nil]
    rw [if_pos (by omega)]
    rfl
end Go.Proofs.Ytpbdkkahodaloaa.Pure

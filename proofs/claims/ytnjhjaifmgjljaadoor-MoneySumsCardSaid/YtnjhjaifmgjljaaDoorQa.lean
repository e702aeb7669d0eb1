/- Plain laws: what money's and the reference's looks at operands come to: the same fault, or the same bounded value; for every list of operands. -/
import Derived.Test.YtnjhjaifmgjljaaDoorPMx0
import Derived.Test.YtnjhjaifmgjljaaDoorPMx2
import Derived.Test.YtnjhjaifmgjljaaDoorPMx3
import Derived.Test.YtnjhjaifmgjljaaDoorPMx4
import Derived.Test.YtnjhjaifmgjljaaDoorPMx5
import Derived.Test.YtnjhjaifmgjljaaDoorPMx7
import Derived.Test.YtnjhjaifmgjljaaDoorPMx8
import Derived.Test.YtnjhjaifmgjljaaDoorPMx10
import Derived.Test.YtnjhjaifmgjljaaDoorPMx11
import Derived.Test.YtnjhjaifmgjljaaDoorPMx14
import Derived.Test.YtnjhjaifmgjljaaDoorPMx15
import Derived.Test.YtnjhjaifmgjljaaDoorPMx17
import Derived.Test.YtnjhjaifmgjljaaDoorPMx18
import Derived.Test.YtnjhjaifmgjljaaDoorPMx19
namespace Go.Proofs.YtnjhjaifmgjljaaDoor.Q
open Go.RowKit Go.Proofs.YtnjhjaifmgjljaaDoor.PM Go.Proofs.YtnjhjaifmgjljaaDoorW.PrintWords Go.Proofs.YtnjhjaifmgjljaaDoorW.PrintLast Go.Proofs.YtnjhjaifmgjljaaDoorW.PrintMore

def vld (a b : Int) : Bool :=
  if a = 0 then b == 0 else if a = 1 then decide (-9999999999999 ≤ b ∧ b ≤ 9999999999999) else if a = 2 then decide (-1000000000 ≤ b ∧ b ≤ 1000000000)
  else if a = 3 then decide (0 ≤ b ∧ b ≤ 1) else if a = 4 then decide (0 ≤ b ∧ b ≤ 109572) else if a = 5 then decide (0 ≤ b ∧ b ≤ 7) else if a = 6 then decide (1 ≤ b ∧ b ≤ 5) else false

theorem seven {a : Int} (h0 : 0 ≤ a) (h1 : a ≤ 6) : a = 0 ∨ a = 1 ∨ a = 2 ∨ a = 3 ∨ a = 4 ∨ a = 5 ∨ a = 6 := by omega

theorem money_valid (a b : Int) : money_Valid.f a b = some (vld a b) := by
  unfold money_Valid.f
  by_cases h0 : a ≥ 0
  · by_cases h1 : a ≤ 6
    · rw [if_pos h0, if_pos h1, if_pos h0, if_pos (by omega)]
      rcases seven h0 h1 with rfl | rfl | rfl | rfl | rfl | rfl | rfl <;> simp [rd_T87, gtab0, vld] <;> (try split) <;> (try rw [Option.some.injEq, Bool.eq_iff_iff]) <;> simp <;> omega
    · rw [if_pos h0, if_neg h1]
      unfold vld
      simp [show ¬ a = 0 by omega, show ¬ a = 1 by omega, show ¬ a = 2 by omega, show ¬ a = 3 by omega, show ¬ a = 4 by omega, show ¬ a = 5 by omega, show ¬ a = 6 by omega]
  · rw [if_neg h0]
    unfold vld
    simp [show ¬ a = 0 by omega, show ¬ a = 1 by omega, show ¬ a = 2 by omega, show ¬ a = 3 by omega, show ¬ a = 4 by omega, show ¬ a = 5 by omega, show ¬ a = 6 by omega]

theorem within (a b c : Int) : levyref1_within.f a b c = some (decide (b ≤ a ∧ a ≤ c)) := by
  unfold levyref1_within.f
  by_cases h : b ≤ a <;> simp [h]

theorem ref_valid (a b : Int) : levyref1_Valid.f a b = some (vld a b) := by
  unfold levyref1_Valid.f vld
  simp only [within, Option.bind_some]
  repeat' split
  all_goals rfl

def flt : List S23 → Option (Int × Int)
  | [] => none
  | v :: l => if vld v.f0 v.f1 = false then some (6, 5) else if v.f0 = 6 then some (v.f0, v.f1) else if v.f0 = 0 then some (6, 3) else flt l

theorem drop_cons {l : List S23} {i : Nat} (h : i < l.length) : l.drop i = rd_T23 l i :: l.drop (i + 1) := by
  rw [List.drop_eq_getElem_cons h]
  simp [rd_T23, List.getD_eq_getElem?_getD, List.getElem?_eq_getElem h]

theorem wrap_next {i n : Nat} (h : i < n) (hn : n ≤ 1000000000) : wrap64 ((i : Int) + 1) = ((i + 1 : Nat) : Int) := by unfold wrap64; omega

def seenR (o : Option (Int × Int)) : Int × Int × Bool := match o with | some v => (v.1, v.2, false) | none => (0, 0, true)
def lookR (o : Option (Int × Int)) : Int × Int × Bool := match o with | some v => (v.1, v.2, true) | none => (0, 0, false)

theorem seen_from (l : List S23) (hl : l.length ≤ 1000000000) : ∀ (d k i : Nat), i + d = l.length → d < k → money_seen.l0 k l (l.length : Int) (i : Int) = some (seenR (flt (l.drop i)))
  | 0, k + 1, i, hd, _ => by
    simp only [money_seen.l0]
    rw [if_neg (by omega), List.drop_of_length_le (by omega)]; rfl
  | d + 1, k + 1, i, hd, hk => by
    have ih := seen_from l hl d k (i + 1) (by omega) (by omega)
    simp only [money_seen.l0]
    rw [if_pos (by omega), if_pos (by omega), if_pos (by omega), drop_cons (by omega), money_valid, wrap_next (n := l.length) (by omega) hl, ih]
    simp only [Option.bind_some, flt, money_fault.f]
    generalize rd_T23 l (i : Int) = v
    cases hv : vld v.f0 v.f1
    · simp [seenR]
    · by_cases h6 : v.f0 = 6
      · simp [h6, seenR]
      · by_cases h0 : v.f0 = 0 <;> simp [h6, h0, seenR]
  | _, 0, _, _, hk => by omega

theorem seen_is (l : List S23) (hl : l.length ≤ 1000000000) (k : Nat) (hk : l.length < k) : money_seen.f k l = some (seenR (flt l)) := by
  unfold money_seen.f
  simpa using seen_from l hl l.length k 0 (by omega) hk

theorem looked_from (l : List S23) (hl : l.length ≤ 1000000000) : ∀ (d k i : Nat), i + d = l.length → d < k → levyref1_looked.l0 k l (i : Int) = some (lookR (flt (l.drop i)))
  | 0, k + 1, i, hd, _ => by
    simp only [levyref1_looked.l0]
    rw [if_neg (by omega), List.drop_of_length_le (by omega)]; rfl
  | d + 1, k + 1, i, hd, hk => by
    have ih := looked_from l hl d k (i + 1) (by omega) (by omega)
    simp only [levyref1_looked.l0]
    rw [if_pos (by omega), if_pos (by omega), drop_cons (by omega), ref_valid, wrap_next (n := l.length) (by omega) hl, ih]
    simp only [Option.bind_some, flt, levyref1_bad.f]
    generalize rd_T23 l (i : Int) = v
    cases hv : vld v.f0 v.f1
    · simp [lookR]
    · by_cases h6 : v.f0 = 6
      · simp [h6, lookR]
      · by_cases h0 : v.f0 = 0 <;> simp [h6, h0, lookR]
  | _, 0, _, _, hk => by omega

theorem looked_is (l : List S23) (hl : l.length ≤ 1000000000) (k : Nat) (hk : l.length < k) : levyref1_looked.f k l = some (lookR (flt l)) := by
  unfold levyref1_looked.f
  simpa using looked_from l hl l.length k 0 (by omega) hk

/-- Which kinds a call takes. -/
def takes (call a : Int) : Bool :=
  if call = 1 then (a == 1 || a == 2) else if call = 2 then (a == 1 || a == 2 || a == 4) else (a == 1 || a == 2 || a == 3 || a == 4 || a == 5)

theorem takes_bits (call a : Int) (hc : call = 1 ∨ call = 2 ∨ call = 4) (h0 : 0 ≤ a) (h1 : a ≤ 6) :
    (Go.bits .and .i64 ((rd_T87 gtab0 a).f2) call = 0) = (takes call a = false) := by
  rcases hc with rfl | rfl | rfl <;> rcases seven h0 h1 with rfl | rfl | rfl | rfl | rfl | rfl | rfl <;> decide +kernel

theorem flt_none {l : List S23} (h : flt l = none) : ∀ v ∈ l, 1 ≤ v.f0 ∧ v.f0 ≤ 5 ∧ vld v.f0 v.f1 = true := by
  induction l with
  | nil => simp
  | cons u l ih =>
    simp only [flt] at h
    split at h
    · cases h
    · split at h
      · cases h
      · split at h
        · cases h
        · rename_i hv h6 h0
          intro v hm
          rcases List.mem_cons.1 hm with rfl | hm
          · have hv' : vld v.f0 v.f1 = true := by simpa using hv
            refine ⟨?_, ?_, hv'⟩
            · by_cases hh : 1 ≤ v.f0
              · exact hh
              · unfold vld at hv'
                rw [if_neg h0, if_neg (by omega), if_neg (by omega), if_neg (by omega), if_neg (by omega), if_neg (by omega), if_neg h6] at hv'
                cases hv'
            · by_cases hh : v.f0 ≤ 5
              · exact hh
              · unfold vld at hv'
                rw [if_neg h0, if_neg (by omega), if_neg (by omega), if_neg (by omega), if_neg (by omega), if_neg (by omega), if_neg h6] at hv'
                cases hv'
          · exact ih h v hm

def same (call : Int) (h : Int) (l : List S23) : Bool := l.all fun v => v.f0 == h && takes call v.f0

theorem rd_mem {l : List S23} {i : Nat} (h : i < l.length) : rd_T23 l i ∈ l := by
  have : rd_T23 l i = l[i] := by simp [rd_T23, List.getD_eq_getElem?_getD, List.getElem?_eq_getElem h]
  rw [this]; exact List.getElem_mem h

theorem alike_from (call : Int) (hc : call = 1 ∨ call = 2 ∨ call = 4) (l : List S23) (hl : l.length ≤ 1000000000) (hf : flt l = none) :
    ∀ (d k i : Nat), i + d = l.length → d < k → money_alike.l0 k call l l (l.length : Int) (i : Int) = some (if same call (rd_T23 l 0).f0 (l.drop i) then (0, 0, true) else (6, 5, false))
  | 0, k + 1, i, hd, _ => by
    simp only [money_alike.l0]
    rw [if_neg (by omega), List.drop_of_length_le (by omega)]; rfl
  | d + 1, k + 1, i, hd, hk => by
    have ih := alike_from call hc l hl hf d k (i + 1) (by omega) (by omega)
    have hm := flt_none hf _ (rd_mem (l := l) (i := i) (by omega))
    simp only [money_alike.l0]
    rw [if_pos (by omega), if_pos (by omega), if_pos (by omega), if_pos (by omega), drop_cons (by omega), wrap_next (n := l.length) (by omega) hl, ih]
    have ht := takes_bits call (rd_T23 l (i : Int)).f0 hc (by omega) (by omega)
    simp only [same, List.all_cons, money_fault.f, Option.bind_some]
    by_cases h1 : (rd_T23 l (i : Int)).f0 = (rd_T23 l 0).f0
    · rw [if_pos h1, if_pos (by omega), if_pos (by omega)]
      by_cases hb : takes call (rd_T23 l (i : Int)).f0 = false
      · rw [if_pos (ht.mpr hb)]; simp [hb]
      · rw [if_neg (fun e => hb (ht.mp e))]
        have hb' : takes call (rd_T23 l (i : Int)).f0 = true := by simpa using hb
        simp [h1 ▸ hb', h1]
    · rw [if_neg h1]; simp [h1]
  | _, 0, _, _, hk => by omega

/-- What all calls of the alike kind answer: the first fault, or the bounded value, or Wrong. -/
def boundS (a n : Int) : Int × Int := if vld a n then (a, n) else (6, 1)
def chosenS (call : Int) (l : List S23) (n : Int) : Int × Int := match flt l with | some v => v | none => if same call (rd_T23 l 0).f0 l then boundS (rd_T23 l 0).f0 n else (6, 5)
def alikeS (call : Int) (l : List S23) : Int × Int × Bool := match flt l with | some v => (v.1, v.2, false) | none => if same call (rd_T23 l 0).f0 l then (0, 0, true) else (6, 5, false)

theorem alike_is (call : Int) (hc : call = 1 ∨ call = 2 ∨ call = 4) (l : List S23) (hl : l.length ≤ 1000000000) (k : Nat) (hk : l.length < k) : money_alike.f k call l = some (alikeS call l) := by
  unfold money_alike.f
  rw [seen_is l hl k hk]
  simp only [Option.bind_some, alikeS]
  cases hf : flt l with
  | some v => simp [seenR]
  | none =>
    simp only [seenR]
    have := alike_from call hc l hl hf l.length k 0 (by omega) hk
    simpa using this

theorem ref_alike_l1 (l : List S23) (hl : l.length ≤ 1000000000) (h0 : 0 < l.length) : ∀ (d k i : Nat) (b : Bool), i + d = l.length → d < k → levyref1_alike.l1 k l b (i : Int) = some (b && (l.drop i).all fun v => v.f0 == (rd_T23 l 0).f0)
  | 0, k + 1, i, b, hd, _ => by
    simp only [levyref1_alike.l1]
    rw [if_neg (by omega), List.drop_of_length_le (by omega)]; simp
  | d + 1, k + 1, i, b, hd, hk => by
    have ih := fun b => ref_alike_l1 l hl h0 d k (i + 1) b (by omega) (by omega)
    simp only [levyref1_alike.l1]
    rw [if_pos (by omega), wrap_next (n := l.length) (by omega) hl, drop_cons (by omega)]
    cases b
    · rw [if_neg (by simp), ih]; simp
    · rw [if_pos rfl, if_pos (by omega), if_pos (by omega), ih]; simp
  | _, 0, _, _, _, hk => by omega

theorem ref_alike_l0 (l : List S23) (hl : l.length ≤ 1000000000) (h0 : 0 < l.length) (ks : List Int) (hks : ks.length ≤ 1000000000) :
    ∀ (d k i : Nat) (b : Bool), i + d = ks.length → d + l.length + 1 < k → levyref1_alike.l0 k l ks b (i : Int) = some ((b || (ks.drop i).any fun q => (rd_T23 l 0).f0 == q) && l.all fun v => v.f0 == (rd_T23 l 0).f0)
  | 0, k + 1, i, b, hd, hk => by
    simp only [levyref1_alike.l0]
    rw [if_neg (by omega), List.drop_of_length_le (by omega)]
    have := ref_alike_l1 l hl h0 l.length k 0 b (by omega) (by omega)
    simpa using this
  | d + 1, k + 1, i, b, hd, hk => by
    have ih := fun b => ref_alike_l0 l hl h0 ks hks d k (i + 1) b (by omega) (by omega)
    simp only [levyref1_alike.l0]
    have hc : ks.drop i = rd ks (i : Int) :: ks.drop (i + 1) := by
      rw [List.drop_eq_getElem_cons (by omega)]
      simp [rd, List.getD_eq_getElem?_getD, List.getElem?_eq_getElem (show i < ks.length by omega)]
    rw [if_pos (by omega), wrap_next (n := ks.length) (by omega) hks, hc]
    cases b
    · rw [if_neg (by simp), if_pos (by omega), if_pos (by omega), ih]; simp
    · rw [if_pos rfl, ih]; simp
  | _, 0, _, _, _, hk => by omega

theorem ref_alike_is (l : List S23) (hl : l.length ≤ 1000000000) (h0 : 0 < l.length) (ks : List Int) (hks : ks.length ≤ 1000000000) (k : Nat) (hk : ks.length + l.length + 1 < k) :
    levyref1_alike.f k l ks = some ((ks.any fun q => (rd_T23 l 0).f0 == q) && l.all fun v => v.f0 == (rd_T23 l 0).f0) := by
  unfold levyref1_alike.f
  simpa using ref_alike_l0 l hl h0 ks hks ks.length k 0 false (by omega) hk

/-- The kinds as the reference lists them. -/
def listed (call : Int) : List Int := if call = 1 then [1, 2] else if call = 2 then [1, 2, 4] else [1, 2, 3, 4, 5]

theorem listed_takes (call a : Int) : ((listed call).any fun q => a == q) = takes call a := by
  unfold listed takes
  split
  · simp
  · split <;> simp [Bool.or_assoc]

theorem all_same (call h : Int) (l : List S23) (h0 : 0 < l.length) (hh : h = (rd_T23 l 0).f0) : (takes call h && l.all fun v => v.f0 == h) = same call h l := by
  unfold same
  cases l with
  | nil => simp at h0
  | cons u l =>
    have hu : u.f0 = h := by rw [hh]; rfl
    simp only [List.all_cons]
    rw [hu]
    cases ht : takes call h
    · simp
    · simp only [beq_self_eq_true, Bool.true_and]
      refine List.all_congr rfl ?_
      intro v
      by_cases e : v.f0 = h
      · rw [e, ht]; simp
      · simp [e]

theorem ref_alike_same (call : Int) (hc : call = 1 ∨ call = 2 ∨ call = 4) (l : List S23) (hl : l.length ≤ 1000000000) (h0 : 0 < l.length) (k : Nat) (hk : l.length + 6 < k) :
    levyref1_alike.f k l (listed call) = some (same call (rd_T23 l 0).f0 l) := by
  have hn : (listed call).length ≤ 5 := by rcases hc with rfl | rfl | rfl <;> decide
  rw [ref_alike_is l hl h0 (listed call) (by omega) k (by omega), listed_takes, all_same call _ l h0 rfl]

theorem bounded_is (a n : Int) : levyref1_bounded.f a n = some (boundS a n) := by
  unfold levyref1_bounded.f boundS
  rw [ref_valid]
  simp only [Option.bind_some, levyref1_bad.f]
  split <;> rfl

theorem checked_is (a n : Int) (h0 : 0 ≤ a) (h1 : a ≤ 6) : money_checked.f a n = some (boundS a n) := by
  unfold money_checked.f boundS
  rw [if_pos h0, if_pos (by omega)]
  simp only [money_fault.f, Option.bind_some]
  rcases seven h0 h1 with rfl | rfl | rfl | rfl | rfl | rfl | rfl <;> simp [rd_T87, gtab0, vld] <;> (repeat' split) <;> first | rfl | omega | (exfalso; omega)

theorem chosen_is (call : Int) (hc : call = 1 ∨ call = 2 ∨ call = 4) (l : List S23) (hl : l.length ≤ 1000000000) (h0 : 0 < l.length) (n : Int) (k : Nat) (hk : l.length + 6 < k) :
    levyref1_chosen.f k l n (listed call) = some (chosenS call l n) := by
  unfold levyref1_chosen.f chosenS
  rw [looked_is l hl k (by omega)]
  cases hf : flt l with
  | some v => simp [lookR]
  | none =>
    simp only [lookR, Option.bind_some]
    rw [if_neg (by simp), ref_alike_same call hc l hl h0 k hk]
    simp only [Option.bind_some, bounded_is, levyref1_bad.f]
    have hn : ¬ l = [] := fun e => by simp [e] at h0
    cases same call (rd_T23 l 0).f0 l <;> simp [hn]

end Go.Proofs.YtnjhjaifmgjljaaDoor.Q

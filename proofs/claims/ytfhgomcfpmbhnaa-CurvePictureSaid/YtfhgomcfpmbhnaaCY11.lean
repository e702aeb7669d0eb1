-- Part 11 of the texts of the claim CY (wrote by programs: words of the kit's print.sh, printed functions; and my own texts; joined by wip/tools/pack.py).
import Derived.Test.YtfhgomcfpmbhnaaCY10

section
namespace Go.Proofs.Ytfhgomcfpmbhnaa.Y
open Go Go.RowKit Go.Proofs.Ytfhgomcfpmbhnaa.PS Go.Proofs.Ytfhgomcfpmbhnaa.F Go.Proofs.YtfhgomcfpmbhnaaW.PrintWords Go.Proofs.YtfhgomcfpmbhnaaW.PrintMore Go.Proofs.YtfhgomcfpmbhnaaW.Fits
set_option linter.unusedVariables false
set_option maxRecDepth 100000
theorem rdOf_at (ds : List ByteArray) (j : Nat) : rdOf ByteArray.empty ds (j : Int) = ds.getD j ByteArray.empty := rfl
theorem pic_at (wd ht : Nat) (G : Nat → Nat → Int) (j : Nat) (hj : j < ht) : (picsB wd ht G ht).getD j ByteArray.empty = ⟨(rowS wd (G (ht - 1 - j))).toArray⟩ := by
  unfold picsB
  rw [List.getD_eq_getElem?_getD, List.getElem?_map, List.getElem?_range hj]
  rfl
theorem bt_row (wd : Nat) (g : Nat → Int) (c : Nat) (hc : c < wd) (h0 : 0 ≤ g c) (h1 : g c < 256) : bt ⟨(rowS wd g).toArray⟩ (c : Int) = g c := by
  unfold bt
  have hs : ((c : Int)).toNat < (⟨(rowS wd g).toArray⟩ : ByteArray).size := by rw [F.rowS_len]; omega
  rw [dif_pos hs]
  have e : (⟨(rowS wd g).toArray⟩ : ByteArray)[((c : Int)).toNat]'hs = UInt8.ofNat (g c).toNat := by
    show (rowS wd g).toArray[((c : Int)).toNat]'_ = _
    simp [rowS]
  rw [e, UInt8.toNat_ofNat']
  omega
theorem stars_c (A : Option Addr) (c0 n o : Nat) (ds : List ByteArray) (wd ht : Nat) (G : Nat → Nat → Int) (c : Nat) (w : World) (hn : ds.length = n) (hr : Kd.C Kd.string w A n ds) (hc0 : n ≤ c0) (h40 : n ≤ 40) (hc : c < wd) (h72 : wd ≤ 72) (hG : ∀ r c, 0 ≤ G r c ∧ G r c < 256)
    (hd : ∀ j, j < n → ds.getD j ByteArray.empty = ⟨(rowS wd (G (ht - 1 - (o + j)))).toArray⟩) :
    Calls Try.prog 26 #[.slice A n c0, .int .i64 (c : Int)] w (fun e w' => e = .returned (.int .i64 ((F.cnt (fun j => decide (G (ht - 1 - (o + j)) c = 42)) n : Nat) : Int)) ∧ Drawn0 w w') := by
  subst hn
  obtain ⟨k, hk⟩ := (F.stars_is ds c (fun j => decide (G (ht - 1 - (o + j)) c = 42)) h40 (fun j hj => by rw [rdOf_at, hd j hj, F.rowS_len]; exact hc) (by omega) (fun j hj => by
    rw [rdOf_at, hd j hj, bt_row wd _ c hc (hG _ _).1 (hG _ _).2, decide_eq_true_eq])).rounds
  exact PT.levylaw17_stars.calls k A c0 ds (c : Int) _ w hr hc0 hk
def sumTo (f : Nat → Nat) : Nat → Nat
  | 0 => 0
  | k + 1 => sumTo f k + f k
theorem sumTo_pos (f : Nat → Nat) (k : Nat) : 0 < sumTo f k ↔ ∃ j, j < k ∧ 0 < f j := by
  induction k with
  | zero => exact ⟨fun h => absurd h (Nat.lt_irrefl _), fun ⟨j, h, _⟩ => absurd h (Nat.not_lt_zero _)⟩
  | succ k ih =>
    show 0 < sumTo f k + f k ↔ _
    constructor
    · intro h
      by_cases hp : 0 < f k
      · exact ⟨k, by omega, hp⟩
      · obtain ⟨j, a, b⟩ := ih.1 (by omega)
        exact ⟨j, by omega, b⟩
    · rintro ⟨j, a, b⟩
      by_cases hj : j = k
      · subst hj; omega
      · have := ih.2 ⟨j, by omega, b⟩
        omega
theorem sumTo_le (f : Nat → Nat) (m : Nat) (h : ∀ j, f j ≤ m) (k : Nat) : sumTo f k ≤ m * k := by
  induction k with
  | zero => exact Nat.zero_le _
  | succ k ih =>
    have := h k
    show sumTo f k + f k ≤ m * (k + 1)
    rw [Nat.mul_succ]
    omega
def colsV (f : Nat → Nat) : List Value := (List.range 72).map fun c => .int .i64 ((f c : Nat) : Int)
structure Cols (w0 w : World) (g : Nat) (f : Nat → Nat) : Prop where
  blk : w.heap[g]? = some (.cells (colsV f).toArray 55 (0, 0))
  base : w0.heap.size ≤ g
  below : Below w0.heap.size w0 w
theorem Cols.cell {w0 w : World} {g : Nat} {f : Nat → Nat} (h : Cols w0 w g f) (c : Nat) (hc : c < 72) : w.cell? ⟨g, c, none⟩ = some (.int .i64 ((f c : Nat) : Int)) ∧ w.frozen? ⟨g, c, none⟩ = false := by
  refine ⟨?_, blk_frozen h.blk _⟩
  rw [blk_cell h.blk, List.getElem?_toArray]
  unfold colsV
  rw [List.getElem?_map, List.getElem?_range hc]
  rfl
theorem Cols.moved {w0 w w1 : World} {g : Nat} {f : Nat → Nat} (h : Cols w0 w g f) (hb : Below w.heap.size w w1) : Cols w0 w1 g f :=
  ⟨blk_below h.blk hb, h.base, below_then h.below h.below.size hb⟩
theorem Cols.put {w0 w : World} {g : Nat} {f f' : Nat → Nat} (h : Cols w0 w g f) (c : Nat) (hc : c < 72) (hf : ∀ x, f' x = if x = c then f c + 1 else f x) : Cols w0 (w.setCell ⟨g, c, none⟩ (.int .i64 ((f c : Nat) + 1 : Int))) g f' := by
  refine ⟨?_, h.base, h.below.setCell h.base _⟩
  rw [blk_set h.blk]
  congr 2
  rw [List.setIfInBounds_toArray]
  congr 1
  unfold colsV
  refine List.ext_getElem (by simp) fun i h1 h2 => ?_
  rw [List.getElem_set]
  simp only [List.getElem_map, List.getElem_range]
  rw [hf i]
  by_cases e : c = i
  · subst e
    rw [if_pos rfl, if_pos rfl]
    rfl
  · rw [if_neg e, if_neg (fun x => e x.symm)]
theorem Cols.none {w0 w1 : World} (hb : Below w0.heap.size w0 w1) : Cols w0 (w1.alloc (.cells (colsV fun _ => 0).toArray 55)) w1.heap.size (fun _ => 0) :=
  ⟨blk_new w1 _, hb.size, hb.alloc hb.size _⟩
def unL (v : Nat → Int) : Nat → Bool
  | 0 => false
  | j + 1 => unL v j || decide (v j ≠ v 0)
theorem unL_iff (v : Nat → Int) (k : Nat) : unL v k = true ↔ ∃ j, j < k ∧ v j ≠ v 0 := by
  induction k with
  | zero => exact ⟨fun h => absurd (show false = true from h) (by decide), fun ⟨j, h, _⟩ => absurd h (Nat.not_lt_zero _)⟩
  | succ k ih =>
    show (unL v k || decide (v k ≠ v 0)) = true ↔ _
    rw [Bool.or_eq_true, ih, decide_eq_true_eq]
    constructor
    · rintro (⟨j, a, b⟩ | h)
      · exact ⟨j, by omega, b⟩
      · exact ⟨k, by omega, h⟩
    · rintro ⟨j, a, b⟩
      by_cases hj : j = k
      · subst hj; exact .inr b
      · exact .inl ⟨j, by omega, b⟩
def nC (ht : Nat) (G : Nat → Nat → Int) (c : Nat) : Nat := F.cnt (fun j => decide (G (ht - 1 - (0 + j)) c = 42)) ht
def tC (ht : Nat) (G : Nat → Nat → Int) (c : Nat) : Nat := F.cnt (fun j => decide (G (ht - 1 - (0 + j)) c = 42)) 1
def lC (ht : Nat) (G : Nat → Nat → Int) (c : Nat) : Nat := F.cnt (fun j => decide (G (ht - 1 - (ht - 1 + j)) c = 42)) 1
def kC (cn : Nat → Nat) (n c : Nat) : Nat := F.cnt (fun i => decide (cn i = c)) n
section
variable {L : List S58} {wd ht : Nat} {rn cn : Nat → Nat} {G : Nat → Nat → Int} (hp : F.Pic L wd ht rn cn G) (h1 : 2 ≤ ht)
include hp h1
theorem col_facts (c : Nat) : nC ht G c ≤ kC cn L.length c ∧ (0 < kC cn L.length c ↔ 0 < nC ht G c) := by
  have _h := h1
  have hle : nC ht G c ≤ kC cn L.length c := F.stars_le ht rn cn c L.length _ (fun j hj hb => by
    obtain ⟨i, a, b, d⟩ := (hp.star _ _).1 (of_decide_eq_true hb)
    exact ⟨i, a, by rw [← b, Nat.zero_add], d⟩)
  refine ⟨hle, fun h => ?_, fun h => by omega⟩
  obtain ⟨i, hi, hb⟩ := (F.cnt_pos _ _).1 h
  have e := of_decide_eq_true hb
  have hr := hp.row i hi
  refine (F.cnt_pos _ _).2 ⟨ht - 1 - rn i, by omega, decide_eq_true ((hp.star _ _).2 ⟨i, hi, by omega, e.symm⟩)⟩
theorem all_facts : 0 < sumTo (nC ht G) wd ↔ 0 < L.length := by
  have _h := h1
  rw [sumTo_pos]
  constructor
  · rintro ⟨c, hc, h⟩
    obtain ⟨j, hj, hb⟩ := (F.cnt_pos _ _).1 h
    obtain ⟨i, a, _⟩ := (hp.star _ _).1 (of_decide_eq_true hb)
    omega
  · intro h
    have hr := hp.row 0 h
    exact ⟨cn 0, hp.colL 0 h, (F.cnt_pos _ _).2 ⟨ht - 1 - rn 0, by omega, decide_eq_true ((hp.star _ _).2 ⟨0, h, by omega, rfl⟩)⟩⟩
theorem low_facts (h : 0 < L.length) : 0 < sumTo (lC ht G) wd := by
  rw [sumTo_pos]
  obtain ⟨i, hi, hr⟩ := hp.low h
  exact ⟨cn i, hp.colL i hi, (F.cnt_pos _ _).2 ⟨0, by omega, decide_eq_true ((hp.star _ _).2 ⟨i, hi, by omega, rfl⟩)⟩⟩
theorem top_facts (v : Nat → Int) (hv : Vals L v) (h : unL v L.length = true) : 0 < sumTo (tC ht G) wd := by
  rw [sumTo_pos]
  obtain ⟨i, hi, hr⟩ := hp.high v hv ((unL_iff v _).1 h)
  exact ⟨cn i, hp.colL i hi, (F.cnt_pos _ _).2 ⟨0, by omega, decide_eq_true ((hp.star _ _).2 ⟨i, hi, by omega, rfl⟩)⟩⟩
end
theorem info9x : (Try.prog.info? 9).map (fun i => (i.zero, i.size, i.bytes)) = some (some (.string ⟨#[]⟩), 1, 16) := by kernel_rfl
theorem pic_cuts (A : Option Addr) (c0 ht : Nat) (D : List ByteArray) (hD : D.length = ht) (hc : ht ≤ c0) (h1 : 2 ≤ ht) : ∃ (A6 : Option Addr) (c6 : Nat),
    (∀ W : World, (Instr.slice 52 (.slice A ht c0) none (some (.int .i64 1)) none).run Try.prog W = .ok (.slice A 1 c0) W) ∧
    (∀ W : World, (Instr.slice 52 (.slice A ht c0) (some (.int .i64 ((ht - 1 : Nat) : Int))) none none).run Try.prog W = .ok (.slice A6 1 c6) W) ∧ 1 ≤ c6 ∧
    (∀ w, Kd.C Kd.string w A ht D → Kd.C Kd.string w A 1 (D.take 1) ∧ Kd.C Kd.string w A6 1 (D.drop (ht - 1))) := by
  obtain ⟨i0, hi0, hz0, hz1, hz2⟩ := info_parts info9x
  have a := cut_to (P := Try.prog) 52 9 .i64 Try.underlying52 hi0 A ht c0 1 (by decide) (by omega) hc
  have b := cut_from (P := Try.prog) 52 9 .i64 Try.underlying52 hi0 1 hz1 A ht c0 ((ht - 1 : Nat) : Int) (by omega) (by omega)
  simp only [Int.toNat_natCast] at b
  rw [show ht - (ht - 1) = 1 by omega] at b
  refine ⟨_, c0 - (ht - 1), a, b, by omega, fun w hr => ⟨?_, ?_⟩⟩
  · have := Kd.C_take (m := 1) (hD.symm ▸ hr) (by omega)
    have e : (D.take 1).length = 1 := by rw [List.length_take]; omega
    rw [e] at this
    exact this
  · have := Kd.C_drop (m := ht - 1) (c := c0) (hD.symm ▸ hr) (by omega) (by omega)
    have e : (D.drop (ht - 1)).length = 1 := by rw [List.length_drop]; omega
    rw [e] at this
    exact this
theorem getD_take (D : List ByteArray) (j m : Nat) (h : j < m) : (D.take m).getD j ByteArray.empty = D.getD j ByteArray.empty := by
  rw [List.getD_eq_getElem?_getD, List.getD_eq_getElem?_getD, List.getElem?_take, if_pos h]
theorem getD_drop (D : List ByteArray) (j m : Nat) : (D.drop m).getD j ByteArray.empty = D.getD (m + j) ByteArray.empty := by
  rw [List.getD_eq_getElem?_getD, List.getD_eq_getElem?_getD, List.getElem?_drop]
section
variable (A : Option Addr) (c0 wd ht : Nat) (G : Nat → Nat → Int) (c : Nat) (w : World) (D : List ByteArray) (hD : picsB wd ht G ht = D) (hc : c < wd) (h72 : wd ≤ 72) (h2 : 2 ≤ ht) (h40 : ht ≤ 40) (hG : ∀ r c, 0 ≤ G r c ∧ G r c < 256)
include hD hc h72 h2 h40 hG
theorem all_c (hr : Kd.C Kd.string w A ht D) (hc0 : ht ≤ c0) : Calls Try.prog 26 #[.slice A ht c0, .int .i64 (c : Int)] w (fun e w' => e = .returned (.int .i64 ((nC ht G c : Nat) : Int)) ∧ Drawn0 w w') := by
  have _h := h2
  have hl : D.length = ht := by rw [← hD]; exact picsB_len wd ht G ht
  exact stars_c A c0 ht 0 D wd ht G c w hl hr hc0 h40 hc h72 hG (fun j hj => by rw [← hD, pic_at wd ht G j hj, Nat.zero_add])
theorem top_c (hr : Kd.C Kd.string w A 1 (D.take 1)) (hc0 : 1 ≤ c0) : Calls Try.prog 26 #[.slice A 1 c0, .int .i64 (c : Int)] w (fun e w' => e = .returned (.int .i64 ((tC ht G c : Nat) : Int)) ∧ Drawn0 w w') := by
  have hl : D.length = ht := by rw [← hD]; exact picsB_len wd ht G ht
  refine stars_c A c0 1 0 (D.take 1) wd ht G c w (by rw [List.length_take]; omega) hr hc0 (by decide) hc h72 hG (fun j hj => ?_)
  rw [getD_take D j 1 hj, ← hD, pic_at wd ht G j (by omega), Nat.zero_add]
theorem low_c (hr : Kd.C Kd.string w A 1 (D.drop (ht - 1))) (hc0 : 1 ≤ c0) : Calls Try.prog 26 #[.slice A 1 c0, .int .i64 (c : Int)] w (fun e w' => e = .returned (.int .i64 ((lC ht G c : Nat) : Int)) ∧ Drawn0 w w') := by
  have hl : D.length = ht := by rw [← hD]; exact picsB_len wd ht G ht
  refine stars_c A c0 1 (ht - 1) (D.drop (ht - 1)) wd ht G c w (by rw [List.length_drop]; omega) hr hc0 (by decide) hc h72 hG (fun j hj => ?_)
  rw [getD_drop, ← hD, pic_at wd ht G (ht - 1 + j) (by omega)]
end
theorem nC_le (ht : Nat) (G : Nat → Nat → Int) (h : ht ≤ 40) (c : Nat) : nC ht G c ≤ 40 := Nat.le_trans (F.cnt_le _ _) h
theorem tC_le (ht : Nat) (G : Nat → Nat → Int) (c : Nat) : tC ht G c ≤ 40 := Nat.le_trans (F.cnt_le _ _) (by decide)
theorem lC_le (ht : Nat) (G : Nat → Nat → Int) (c : Nat) : lC ht G c ≤ 40 := Nat.le_trans (F.cnt_le _ _) (by decide)
theorem sum_wrap (f : Nat → Nat) (hf : ∀ c, f c ≤ 40) (c : Nat) (hc : c < 72) : wrap64 (((sumTo f c : Nat) : Int) + ((f c : Nat) : Int)) = ((sumTo f (c + 1) : Nat) : Int) := by
  have h1 := sumTo_le f 40 hf c
  have h2 := hf c
  have e : sumTo f (c + 1) = sumTo f c + f c := rfl
  rw [e]
  unfold wrap64
  omega
end Go.Proofs.Ytfhgomcfpmbhnaa.Y
end

section
namespace Go.Proofs.Ytfhgomcfpmbhnaa.Y
open Go Go.RowKit Go.Proofs.Ytfhgomcfpmbhnaa.PS Go.Proofs.Ytfhgomcfpmbhnaa.F Go.Proofs.YtfhgomcfpmbhnaaW.PrintWords Go.Proofs.YtfhgomcfpmbhnaaW.PrintMore Go.Proofs.YtfhgomcfpmbhnaaW.Fits
attribute [local go_sem] frun_add frun_sub frun_mul frun_quo frun_neg frun_of frun_same frun_store frun_bits frun_from frun_eqin
set_option linter.unusedVariables false
set_option maxRecDepth 100000
set_option maxHeartbeats 4000000 in
theorem law_picture (A : Option Addr) (c0 : Nat) (l : List S73) (a1 a2 : Int) (w : World) (hr : Kd.C k73 w A l.length l) (hc : l.length ≤ c0) (hg : F.Good l) (ha0 : -9223372036854775808 ≤ a1) (ha1 : a1 ≤ 9223372036854775807) (hb0 : -9223372036854775808 ≤ a2) (hb1 : a2 ≤ 9223372036854775807) :
    Calls Try.prog 8 #[.slice A l.length c0, .int .i64 a1, .int .i64 a2] w (TrueBelow w) := by
  obtain ⟨L, hs, hL, hE⟩ := F.sound_is hg
  obtain ⟨v, hv⟩ := vals_of hs
  obtain ⟨r1, hsm1, r10, r11⟩ := small_is a1 35 (by decide) (by decide) ha0 ha1
  obtain ⟨r2, hsm2, r20, r21⟩ := small_is a2 19 (by decide) (by decide) hb0 hb1
  obtain ⟨n, hn⟩ : ∃ n, L.length = n := ⟨_, rfl⟩
  obtain ⟨m, hm⟩ : ∃ m, l.length = m := ⟨_, rfl⟩
  obtain ⟨wd, hwd⟩ : ∃ h : Nat, (h : Int) = r1 + 37 := ⟨(r1 + 37).toNat, by omega⟩
  obtain ⟨ht, hht⟩ : ∃ h : Nat, (h : Int) = r2 + 21 := ⟨(r2 + 21).toNat, by omega⟩
  have w1 : 2 ≤ wd := by omega
  have w2 : wd ≤ 72 := by omega
  have h1 : 2 ≤ ht := by omega
  have h2 : ht ≤ 40 := by omega
  obtain ⟨rn, cn, G, hpic, hdraw⟩ := F.pic_is hs wd ht w1 w2 h1 h2
  have hcolin : ∀ j : Nat, j < (F.toD L).length → _ := fun j hj => F.col_in hs.ord wd (by omega) (by omega) j hj
  rw [hm] at hr hc ⊢
  have HR := Aside0.mk hr
  have HC := Aside0.mk hc
  have HM := Aside0.mk hm
  have HN := Aside0.mk hn
  have HE := Aside0.mk hE
  have HV := Aside0.mk hv
  have HSM1 := Aside0.mk hsm1
  have HSM2 := Aside0.mk hsm2
  have HPIC := Aside0.mk hpic
  have HDRAW := Aside0.mk hdraw
  have HCOL := Aside0.mk hcolin
  have H64 := Aside0.mk (show n ≤ 64 by have := hs.1; omega)
  have HWH := Aside0.mk (And.intro w1 (And.intro w2 (And.intro h1 h2)))
  have q1 : wrap64 (r1 + 37) = (wd : Int) := by unfold wrap64; omega
  have q2 : wrap64 (r2 + 21) = (ht : Int) := by unfold wrap64; omega
  have Q := Aside0.mk (And.intro q1 q2)
  clear hr hc hm hn hE hv hsm1 hsm2 hL r10 r11 r20 r21 hg hwd hht q1 q2 ha0 ha1 hb0 hb1 w1 w2 h1 h2 hpic hdraw hcolin hs
  go_enter Try.func8, Try.ntmps8
  go_wp2_with fail
  go_at_call 22
  with_reducible refine (known_c w).mono ?_
  rintro e w1 ⟨rfl, hb⟩
  have HE1 := Aside0.mk hb
  have HR1 := Aside0.mk (Kd.C_below HR.out hb)
  clear hb
  go_wp2_with fail
  go_at_call 23
  with_reducible refine (sound_c A c0 m n l L w1 HM.out HN.out HR1.out HC.out HE.out).mono ?_
  rintro e w2 ⟨A2, c2, rfl, hc2, hX, hb⟩
  have HE2 := Aside0.mk (below_then HE1.out HE1.out.size hb)
  have HC2 := Aside0.mk hc2
  have HX2 := Aside0.mk hX
  clear hc2 hX hb
  go_wp2_with fail
  go_at_call 24
  with_reducible refine (small_c a1 35 r1 w2 HSM1.out).mono ?_
  rintro e w3 ⟨rfl, hb⟩
  have HE3 := Aside0.mk (below_then HE2.out HE2.out.size hb)
  have HX3 := Aside0.mk (Kd.C_below HX2.out hb)
  clear hb
  go_wp2_with fail
  go_at_call 24
  with_reducible refine (small_c a2 19 r2 w3 HSM2.out).mono ?_
  rintro e w4 ⟨rfl, hb⟩
  have HE4 := Aside0.mk (below_then HE3.out HE3.out.size hb)
  have HX4 := Aside0.mk (Kd.C_below HX3.out hb)
  clear hb
  obtain ⟨q1, q2⟩ := Q.out
  go_wp2_with fail
  go_at_call 25
  (try rw [q1])
  (try rw [q2])
  clear q1 q2
  with_reducible refine (HDRAW.out A2 c2 n w4 HN.out HX4.out HC2.out).mono ?_
  rintro e w5 ⟨A5, c5, rfl, hc5, hD, hb⟩
  have HE5 := Aside0.mk (below_then HE4.out HE4.out.size hb)
  have HX5 := Aside0.mk (Kd.C_below HX4.out hb)
  have HD5 := Aside0.mk hD
  have HC5 := Aside0.mk hc5
  clear hc5 hD hb
  go_wp2_with fail
  go_loopg [10] (ht + 1) (fun kq v10 w' => ∃ i : Nat, v10 = .int .i64 (i : Int) ∧ Aside0 (kq + i = ht + 1) ∧ Aside0 (i ≤ ht) ∧ Aside0 (Drawn0 w5 w'))
  case atStart => exact ⟨0, rfl, ⟨by omega⟩, ⟨by omega⟩, ⟨Drawn0.refl _⟩⟩
  case round =>
    obtain ⟨i, rfl, HK, HI, HD⟩ := hrel
    cases gk with
    | zero => exact absurd HK.out (by have := HI.out; omega)
    | succ k1 =>
      obtain ⟨nd0, rfl⟩ := HD.out.out
      by_cases hlt : i < ht
      · have hb0 : decide ((i : Int) < (ht : Int)) = true := decide_eq_true (by omega)
        obtain ⟨ad, ex, hx0⟩ := Kd.at_string HD5.out (i : Int) (by omega) (by omega)
        cases ex
        rw [rdOf_at, pic_at wd ht G i hlt, Int.toNat_natCast] at hx0
        have hJ := F.rowS_len wd (G (ht - 1 - i))
        generalize (⟨(rowS wd (G (ht - 1 - i))).toArray⟩ : ByteArray) = J at hx0 hJ
        have p0 : (0 : Int) ≤ (i : Int) := by omega
        have p1 : (i : Int) < (ht : Int) := by omega
        have p2 : (i : Int) < 8796093022208 := by have := HWH.out.2.2.2; omega
        go_wp2_with fail
        go_roundg k1
        case measure => omega
        case rel => exact ⟨i + 1, by simp, ⟨by have := HK.out; omega⟩, ⟨by omega⟩, ⟨⟨_, rfl⟩⟩⟩
      · obtain rfl : i = ht := by have := HI.out; omega
        have hb0 : decide ((i : Int) < (i : Int)) = false := decide_eq_false (by omega)
        have HE6 := Aside0.mk (below_then HE5.out HE5.out.size HD.out.below)
        have HX6 := Aside0.mk (Kd.C_below HX5.out HD.out.below)
        have HD6 := Aside0.mk (Kd.C_below HD5.out HD.out.below)
        clear HK HI HD
        generalize w5.drewN nd0 = w6 at HE6 HX6 HD6 ⊢
        go_wp2_with fail
        have HG0 : Aside0 (Cols w6 (w6.alloc (.cells (colsV fun _ => 0).toArray 55)) w6.heap.size (fun _ => 0)) := ⟨Cols.none (Below.refl _ _)⟩
        generalize hgg : w6.heap.size = g at HG0 ⊢
        clear hgg
        go_loopg [12, 13] (n + 1) (fun kq v12 v13 w' => ∃ j : Nat, v13 = .int .i64 (j : Int) ∧ v12 = .bool (unL v j) ∧ Aside0 (kq + j = n + 1) ∧ Aside0 (j ≤ n) ∧ Aside0 (Cols w6 w' g (fun c => F.cnt (fun i => decide (cn i = c)) j)))
        case atStart => exact ⟨0, rfl, rfl, ⟨by omega⟩, ⟨by omega⟩, HG0⟩
        case round =>
          obtain ⟨j, rfl, rfl, HK, HJ, HCO⟩ := hrel
          cases gk with
          | zero => exact absurd HK.out (by have := HJ.out; omega)
          | succ k2 =>
            by_cases hlt : j < n
            · have hb0 : decide ((j : Int) < (n : Int)) = true := decide_eq_true (by omega)
              have hn0 : 0 < n := by omega
              have hXw := Kd.C_below HX6.out HCO.out.below
              obtain ⟨ad, e1, x0, x1⟩ := at_T58 hXw (j : Int) (by omega) (by omega)
              cases e1
              obtain ⟨ad', e1, f0, f1⟩ := at_T58 hXw 0 (by omega) (by omega)
              cases e1
              obtain ⟨ad', e1, l0, l1⟩ := at_T58 hXw ((n - 1 : Nat) : Int) (by omega) (by omega)
              cases e1
              clear hXw l1
              rw [Int.toNat_natCast] at x0 x1 l0
              rw [show (0 : Int).toNat * 2 = 0 from rfl, show ad.add 0 = ad from rfl] at f0 f1
              obtain ⟨v0, v1, v2⟩ := HV.out j (by rw [HN.out]; exact hlt)
              obtain ⟨z0, z1, z2⟩ := HV.out 0 (by rw [HN.out]; omega)
              have eX : (rd_T58 L (j : Int)).f0 = (L.getD j z58).f0 := rfl
              have eY : (rd_T58 L (j : Int)).f1 = (L.getD j z58).f1 := rfl
              have eF : (rd_T58 L 0).f0 = (L.getD 0 z58).f0 := rfl
              have eG : (rd_T58 L 0).f1 = (L.getD 0 z58).f1 := rfl
              have eL : (rd_T58 L ((n - 1 : Nat) : Int)).f0 = (L.getD (n - 1) z58).f0 := rfl
              rw [eX] at x0
              rw [eY, v2] at x1
              rw [eF] at f0
              rw [eG, z2] at f1
              rw [eL] at l0
              obtain ⟨d0, d1, d2, d3, d4, d5, d6, d7⟩ := HCOL.out j (by rw [F.toD_len, HN.out]; exact hlt)
              have hcol := HPIC.out.col j (by rw [HN.out]; exact hlt)
              have hcl := HPIC.out.colL j (by rw [HN.out]; exact hlt)
              unfold F.colI at hcol
              rw [F.toD_len, HN.out] at hcol d3 d6 d7
              rw [(F.toD_at L j).1, (F.toD_at L 0).1] at d2
              rw [(F.toD_at L j).1, (F.toD_at L (n - 1)).1] at d3
              rw [(F.toD_at L j).1] at d4 d5
              rw [(F.toD_at L 0).1, (F.toD_at L (n - 1)).1] at d6 d7
              rw [(F.toD_at L j).1, (F.toD_at L 0).1, (F.toD_at L (n - 1)).1] at hcol
              have hun : (FloatKind.f32.format.order (fl_of (v j)) (fl_of (v 0)) != some Ordering.eq) = decide (v j ≠ v 0) := by
                rw [F.order_whole (v j) (v 0) (by omega) (by omega)]
                have := F.cmp_eq (v j) (v 0)
                show (!(some (compare (v j) (v 0)) == some Ordering.eq)) = _
                rw [this]
                by_cases c : v j = v 0
                · rw [decide_eq_true c, decide_eq_false (fun h => h c)]; rfl
                · rw [decide_eq_false c, decide_eq_true c]; rfl
              have HUN : Aside0 (unL v (j + 1) = (unL v j || decide (v j ≠ v 0))) := ⟨rfl⟩
              have HCN : Aside0 (∀ c, F.cnt (fun i => decide (cn i = c)) (j + 1) = if c = cn j then F.cnt (fun i => decide (cn i = cn j)) j + 1 else F.cnt (fun i => decide (cn i = c)) j) := ⟨fun c => by
                show F.cnt (fun i => decide (cn i = c)) j + (if decide (cn j = c) = true then 1 else 0) = _
                by_cases e : c = cn j
                · rw [if_pos e, if_pos (decide_eq_true e.symm), e]
                · rw [if_neg e, if_neg (by simpa using fun x : cn j = c => e x.symm), Nat.add_zero]⟩
              clear eX eY eF eG eL v2 z2 d0 d1
              generalize (L.getD j z58).f0 = X at *
              generalize hF0 : (L.getD 0 z58).f0 = F0 at *
              generalize hL0 : (L.getD (n - 1) z58).f0 = L0 at *
              by_cases hn1 : 1 < n
              · have hb1 : decide ((1 : Int) < (n : Int)) = true := decide_eq_true (by omega)
                have hFL := d6 hn1
                rw [if_pos hFL] at hcol
                obtain ⟨W1, XF, PP, DD, t1, t2, t3, t5, hq, t7⟩ : ∃ W1 XF PP DD : Int, wrap64 (X - F0) = XF ∧ wrap64 ((wd : Int) - 1) = W1 ∧ wrap64 (XF * W1) = PP ∧ wrap64 (L0 - F0) = DD ∧ Int.tdiv PP DD = ((cn j : Nat) : Int) ∧ ¬ DD = 0 := by
                  obtain ⟨w1, w2, _, _⟩ := HWH.out
                  have g0 := (HCOL.out 0 (by rw [F.toD_len, HN.out]; omega)).2.2.2.2
                  have g1 := (HCOL.out (n - 1) (by rw [F.toD_len, HN.out]; omega)).2.2.2.2
                  rw [(F.toD_at L 0).1, hF0] at g0
                  rw [(F.toD_at L (n - 1)).1, hL0] at g1
                  have q0 : 0 ≤ (X - F0) * ((wd : Int) - 1) := Int.mul_nonneg d2 (by omega)
                  have q1 : (X - F0) * ((wd : Int) - 1) ≤ 1419999999999858 := Int.le_trans (Int.mul_le_mul (show X - F0 ≤ 19999999999998 by omega) (show (wd : Int) - 1 ≤ 71 by omega) (by omega) (by omega)) (by decide)
                  exact ⟨(wd : Int) - 1, X - F0, (X - F0) * ((wd : Int) - 1), L0 - F0, by unfold wrap64; omega, by unfold wrap64; omega, by generalize (X - F0) * ((wd : Int) - 1) = z at *; unfold wrap64; omega, by unfold wrap64; omega, by rw [Int.tdiv_eq_ediv_of_nonneg q0]; exact hcol, by omega⟩
                have hc72 : cn j < 72 := by have := HWH.out.2.1; omega
                have HUN2 := Aside0.mk hun
                have HCL := Aside0.mk hcl
                have p0 : (0 : Int) ≤ (j : Int) := by omega
                have p1 : (j : Int) < (n : Int) := by omega
                have p2 : (j : Int) < 8796093022208 := by have := H64.out; omega
                have p3 : ((n - 1 : Nat) : Int) < (n : Int) := by omega
                have p4 : (0 : Int) ≤ ((n - 1 : Nat) : Int) := by omega
                have p5 : (0 : Int) < (n : Int) := by omega
                have t4 : wrap64 ((n : Int) - 1) = ((n - 1 : Nat) : Int) := by have := H64.out; unfold wrap64; omega
                have t6 : wrap64 ((cn j : Nat) : Int) = ((cn j : Nat) : Int) := by unfold wrap64; omega
                clear d2 d3 d4 d5 d6 d7 hFL hcol v0 v1 z0 z1 hun hcl hc72 hF0 hL0
                generalize hC : cn j = C at *
                have HC72 : Aside0 (C < 72) := ⟨Nat.lt_of_lt_of_le HCL.out HWH.out.2.1⟩
                go_wp2_with fail
                go_quiet (fail)
                have HCOq := Aside0.mk (HCO.out.moved (pw_below_drewN (Below.refl wr.heap.size wr) nq))
                clear HCO x0 x1 f0 f1 l0 t1 t2 t3 t4 t5 hq t7 p3 p4
                generalize wr.drewN nq = wq at HCOq ⊢
                obtain ⟨k0, k1'⟩ := HCOq.out.cell C HC72.out
                obtain ⟨K, hKK⟩ : ∃ K, F.cnt (fun i => decide (cn i = C)) j = K := ⟨_, rfl⟩
                have HKK := Aside0.mk hKK
                have HKL := Aside0.mk (F.cnt_le (fun i => decide (cn i = C)) j)
                simp only [hKK] at k0 HKL
                clear hKK
                have t8 : wrap64 ((K : Int) + 1) = (K : Int) + 1 := by have := H64.out; have := HKL.out; unfold wrap64; omega
                have p6 : (C : Int) < 72 := by have := HC72.out; omega
                have p7 : (0 : Int) ≤ (C : Int) := by omega
                go_wp2_with fail
                have HCO3 := Aside0.mk (HCOq.out.put (f' := fun c => F.cnt (fun i => decide (cn i = c)) (j + 1)) C HC72.out (fun x => HCN.out x))
                have hKK : F.cnt (fun i => decide (cn i = C)) j = K := HKK.out
                simp only [hKK] at HCO3
                clear hKK
                have hXw := Kd.C_below HX6.out HCO3.out.below
                obtain ⟨ad2, e1, _, x1⟩ := at_T58 hXw (j : Int) (by omega) (by omega)
                cases e1
                obtain ⟨ad2, e1, _, f1⟩ := at_T58 hXw 0 (by omega) (by omega)
                cases e1
                rw [Int.toNat_natCast] at x1
                rw [show (0 : Int).toNat * 2 = 0 from rfl, show ad.add 0 = ad from rfl] at f1
                rw [show (rd_T58 L (j : Int)).f1 = (L.getD j z58).f1 from rfl, (HV.out j (by rw [HN.out]; exact hlt)).2.2] at x1
                rw [show (rd_T58 L 0).f1 = (L.getD 0 z58).f1 from rfl, (HV.out 0 (by rw [HN.out]; omega)).2.2] at f1
                clear hXw HCOq
                generalize wq.setCell ⟨g, C, none⟩ (.int .i64 ((K : Int) + 1)) = wc at HCO3 x1 f1 ⊢
                have hun := HUN2.out
                generalize fl_of (v j) = Y at x1 hun
                generalize fl_of (v 0) = Y0 at f1 hun
                cases hu : unL v j with
                | true =>
                  have HU : Aside0 (unL v (j + 1) = true) := ⟨by rw [HUN.out, hu]; rfl⟩
                  clear hu
                  go_quiet (fail)
                  go_wp2_with fail
                  go_roundg k2
                  case measure => omega
                  case rel => exact ⟨j + 1, by simp, by rw [HU.out], ⟨by have := HK.out; omega⟩, ⟨by omega⟩, ⟨HCO3.out.moved (pw_below_drewN (Below.refl _ _) _)⟩⟩
                | false =>
                  cases hv2 : decide (v j ≠ v 0) with
                  | true =>
                    have HU : Aside0 (unL v (j + 1) = true) := ⟨by rw [HUN.out, hv2, Bool.or_true]⟩
                    rw [hv2] at hun
                    clear hu hv2
                    go_quiet (fail)
                    go_wp2_with fail
                    go_roundg k2
                    case measure => omega
                    case rel => exact ⟨j + 1, by simp, by rw [HU.out], ⟨by have := HK.out; omega⟩, ⟨by omega⟩, ⟨HCO3.out.moved (pw_below_drewN (Below.refl _ _) _)⟩⟩
                  | false =>
                    have HU : Aside0 (unL v (j + 1) = false) := ⟨by rw [HUN.out, hu, hv2]; rfl⟩
                    rw [hv2] at hun
                    clear hu hv2
                    go_quiet (fail)
                    go_wp2_with fail
                    go_roundg k2
                    case measure => omega
                    case rel => exact ⟨j + 1, by simp, by rw [HU.out], ⟨by have := HK.out; omega⟩, ⟨by omega⟩, ⟨HCO3.out.moved (pw_below_drewN (Below.refl _ _) _)⟩⟩
              · have hb1 : decide ((1 : Int) < (n : Int)) = false := decide_eq_false (by omega)
                have hC := hcol
                rw [if_neg (by have := d7 (by omega); omega)] at hC
                have hC0 : cn j = 0 := by omega
                have HUN2 := Aside0.mk hun
                rw [hC0] at HCN
                have p0 : (0 : Int) ≤ (j : Int) := by omega
                have p1 : (j : Int) < (n : Int) := by omega
                have p2 : (j : Int) < 8796093022208 := by have := H64.out; omega
                have p5 : (0 : Int) < (n : Int) := by omega
                clear d2 d3 d4 d5 d6 d7 hcol v0 v1 z0 z1 hun hcl hF0 hL0 hC hC0
                have HC72 : Aside0 (0 < 72) := ⟨by omega⟩
                have HCOq := HCO
                clear HCO x0 x1 f0 f1 l0
                obtain ⟨k0, k1'⟩ := HCOq.out.cell 0 HC72.out
                obtain ⟨K, hKK⟩ : ∃ K, F.cnt (fun i => decide (cn i = 0)) j = K := ⟨_, rfl⟩
                have HKK := Aside0.mk hKK
                have HKL := Aside0.mk (F.cnt_le (fun i => decide (cn i = 0)) j)
                simp only [hKK] at k0 HKL
                clear hKK
                have t8 : wrap64 ((K : Int) + 1) = (K : Int) + 1 := by have := H64.out; have := HKL.out; unfold wrap64; omega
                go_wp2_with fail
                have HCO3 := Aside0.mk (HCOq.out.put (f' := fun c => F.cnt (fun i => decide (cn i = c)) (j + 1)) 0 HC72.out (fun x => HCN.out x))
                have hKK : F.cnt (fun i => decide (cn i = 0)) j = K := HKK.out
                simp only [hKK] at HCO3
                clear hKK
                have hXw := Kd.C_below HX6.out HCO3.out.below
                obtain ⟨ad2, e1, _, x1⟩ := at_T58 hXw (j : Int) (by omega) (by omega)
                cases e1
                obtain ⟨ad2, e1, _, f1⟩ := at_T58 hXw 0 (by omega) (by omega)
                cases e1
                rw [Int.toNat_natCast] at x1
                rw [show (0 : Int).toNat * 2 = 0 from rfl, show ad.add 0 = ad from rfl] at f1
                rw [show (rd_T58 L (j : Int)).f1 = (L.getD j z58).f1 from rfl, (HV.out j (by rw [HN.out]; exact hlt)).2.2] at x1
                rw [show (rd_T58 L 0).f1 = (L.getD 0 z58).f1 from rfl, (HV.out 0 (by rw [HN.out]; omega)).2.2] at f1
                clear hXw HCOq
                generalize wr.setCell ⟨g, 0, none⟩ (.int .i64 ((K : Int) + 1)) = wc at HCO3 x1 f1 ⊢
                have hun := HUN2.out
                generalize fl_of (v j) = Y at x1 hun
                generalize fl_of (v 0) = Y0 at f1 hun
                cases hu : unL v j with
                | true =>
                  have HU : Aside0 (unL v (j + 1) = true) := ⟨by rw [HUN.out, hu]; rfl⟩
                  clear hu
                  go_quiet (fail)
                  go_wp2_with fail
                  go_roundg k2
                  case measure => omega
                  case rel => exact ⟨j + 1, by simp, by rw [HU.out], ⟨by have := HK.out; omega⟩, ⟨by omega⟩, ⟨HCO3.out.moved (pw_below_drewN (Below.refl _ _) _)⟩⟩
                | false =>
                  cases hv2 : decide (v j ≠ v 0) with
                  | true =>
                    have HU : Aside0 (unL v (j + 1) = true) := ⟨by rw [HUN.out, hv2, Bool.or_true]⟩
                    rw [hv2] at hun
                    clear hu hv2
                    go_quiet (fail)
                    go_wp2_with fail
                    go_roundg k2
                    case measure => omega
                    case rel => exact ⟨j + 1, by simp, by rw [HU.out], ⟨by have := HK.out; omega⟩, ⟨by omega⟩, ⟨HCO3.out.moved (pw_below_drewN (Below.refl _ _) _)⟩⟩
                  | false =>
                    have HU : Aside0 (unL v (j + 1) = false) := ⟨by rw [HUN.out, hu, hv2]; rfl⟩
                    rw [hv2] at hun
                    clear hu hv2
                    go_quiet (fail)
                    go_wp2_with fail
                    go_roundg k2
                    case measure => omega
                    case rel => exact ⟨j + 1, by simp, by rw [HU.out], ⟨by have := HK.out; omega⟩, ⟨by omega⟩, ⟨HCO3.out.moved (pw_below_drewN (Below.refl _ _) _)⟩⟩
            · obtain rfl : j = n := by have := HJ.out; omega
              have hb0 : decide ((j : Int) < (j : Int)) = false := decide_eq_false (by omega)
              obtain ⟨D, hD⟩ : ∃ D, picsB wd i G i = D := ⟨_, rfl⟩
              have HDD := Aside0.mk hD
              have HD7 := Aside0.mk (Kd.C_below HD6.out HCO.out.below)
              rw [hD] at HD7
              obtain ⟨A6, c6, hct, hcf, hc6, hcc⟩ := pic_cuts A5 c5 i D (by rw [← hD]; exact F.picsB_len wd i G i) HC5.out HWH.out.2.2.1
              have HCT := Aside0.mk hct
              have HCF := Aside0.mk hcf
              have HC6 := Aside0.mk hc6
              have HCC := Aside0.mk hcc
              have HE7 := Aside0.mk (below_then HE6.out HE6.out.size HCO.out.below)
              have hKC : (fun c => F.cnt (fun i => decide (cn i = c)) j) = kC cn j := rfl
              rw [hKC] at HCO
              have HALL := Aside0.mk (all_facts HPIC.out HWH.out.2.2.1)
              have HLOW := Aside0.mk (low_facts HPIC.out HWH.out.2.2.1)
              have HTOP := Aside0.mk (top_facts HPIC.out HWH.out.2.2.1 v HV.out)
              have HCF2 := Aside0.mk (col_facts HPIC.out HWH.out.2.2.1)
              rw [HN.out] at HALL HLOW HTOP HCF2
              clear hD hct hcf hc6 hcc hKC HK HJ HD6 HX6
              have HU := Aside0.mk (show unL v j = unL v j from rfl)
              go_wp2_with fail
              go_loopg [15, 16, 17, 18] (wd + 1) (fun kq v15 v16 v17 v18 w' => ∃ c : Nat, v18 = .int .i64 (c : Int) ∧ v15 = .int .i64 ((sumTo (nC i G) c : Nat) : Int) ∧ v16 = .int .i64 ((sumTo (tC i G) c : Nat) : Int) ∧ v17 = .int .i64 ((sumTo (lC i G) c : Nat) : Int) ∧ Aside0 (kq + c = wd + 1) ∧ Aside0 (c ≤ wd) ∧ Aside0 (Drawn0 wr w'))
              case atStart => exact ⟨0, rfl, rfl, rfl, rfl, ⟨by omega⟩, ⟨by omega⟩, ⟨Drawn0.refl _⟩⟩
              case round =>
                obtain ⟨c, rfl, rfl, rfl, rfl, HK, HJ, HDr⟩ := hrel
                cases gk with
                | zero => exact absurd HK.out (by have := HJ.out; omega)
                | succ k3 =>
                  obtain ⟨nd1, rfl⟩ := HDr.out.out
                  by_cases hlt : c < wd
                  · have hb1 : decide ((c : Int) < (wd : Int)) = true := decide_eq_true (by omega)
                    have s1 := sum_wrap (nC i G) (nC_le i G HWH.out.2.2.2) c (Nat.lt_of_lt_of_le hlt HWH.out.2.1)
                    have s2 := sum_wrap (tC i G) (tC_le i G) c (Nat.lt_of_lt_of_le hlt HWH.out.2.1)
                    have s3 := sum_wrap (lC i G) (lC_le i G) c (Nat.lt_of_lt_of_le hlt HWH.out.2.1)
                    obtain ⟨g1, g2⟩ := HCF2.out c
                    obtain ⟨k0, k1'⟩ := HCO.out.cell c (Nat.lt_of_lt_of_le hlt HWH.out.2.1)
                    have k0' : ∀ nd, (wr.drewN nd).cell? ⟨g, c, none⟩ = some (.int .i64 ((kC cn j c : Nat) : Int)) := fun nd => k0
                    have K0 := Aside0.mk k0'
                    clear k0 k1' k0'
                    have hct := HCT.out
                    have hcf := HCF.out
                    have t9 : wrap64 ((i : Int) - 1) = ((i - 1 : Nat) : Int) := by have h1 := HWH.out.2.2; unfold wrap64; omega
                    have p0 : (c : Int) < 72 := by have := HWH.out.2.1; omega
                    have p1 : (0 : Int) ≤ (c : Int) := by omega
                    go_wp2_with fail
                    with_reducible refine (all_c A5 c5 wd i G c _ D HDD.out hlt HWH.out.2.1 HWH.out.2.2.1 HWH.out.2.2.2 HPIC.out.rng (Kd.C_drewN HD7.out nd1) HC5.out).mono ?_
                    rintro e wa ⟨rfl, ⟨⟨nd2, rfl⟩⟩⟩
                    have kk : (wr.drewN (nd1 + nd2)).cell? ⟨g, c, none⟩ = some (.int .i64 ((kC cn j c : Nat) : Int)) := K0.out 0
                    have g3 : decide (kC cn j c < nC i G c) = false := decide_eq_false (by omega)
                    by_cases hB : 0 < nC i G c
                    · have g4 : decide (0 < nC i G c) = true := decide_eq_true (by omega)
                      have g5 : decide (0 < kC cn j c) = true := decide_eq_true (by have := g2.2 hB; omega)
                      clear g1 g2 hB
                      go_wp2_with fail
                      with_reducible refine (top_c A5 c5 wd i G c _ D HDD.out hlt HWH.out.2.1 HWH.out.2.2.1 HWH.out.2.2.2 HPIC.out.rng (HCC.out _ (Kd.C_drewN HD7.out _)).1 (by have := HC5.out; have := HWH.out.2.2.1; omega)).mono ?_
                      rintro e wb ⟨rfl, ⟨⟨nd3, rfl⟩⟩⟩
                      go_wp2_with fail
                      with_reducible refine (low_c A6 c6 wd i G c _ D HDD.out hlt HWH.out.2.1 HWH.out.2.2.1 HWH.out.2.2.2 HPIC.out.rng (HCC.out _ (Kd.C_drewN HD7.out _)).2 HC6.out).mono ?_
                      rintro e wb ⟨rfl, ⟨⟨nd4, rfl⟩⟩⟩
                      go_wp2_with fail
                      go_roundg k3
                      case measure => omega
                      case rel => exact ⟨c + 1, by simp, by first | rfl | rw [s1], by first | rfl | rw [s2], by first | rfl | rw [s3], ⟨by have := HK.out; omega⟩, ⟨by omega⟩, ⟨⟨_, rfl⟩⟩⟩
                    · have g4 : decide (0 < nC i G c) = false := decide_eq_false (by omega)
                      have g5 : decide (0 < kC cn j c) = false := decide_eq_false (fun h => hB (g2.1 (by omega)))
                      clear g1 g2 hB
                      go_wp2_with fail
                      with_reducible refine (top_c A5 c5 wd i G c _ D HDD.out hlt HWH.out.2.1 HWH.out.2.2.1 HWH.out.2.2.2 HPIC.out.rng (HCC.out _ (Kd.C_drewN HD7.out _)).1 (by have := HC5.out; have := HWH.out.2.2.1; omega)).mono ?_
                      rintro e wb ⟨rfl, ⟨⟨nd3, rfl⟩⟩⟩
                      go_wp2_with fail
                      with_reducible refine (low_c A6 c6 wd i G c _ D HDD.out hlt HWH.out.2.1 HWH.out.2.2.1 HWH.out.2.2.2 HPIC.out.rng (HCC.out _ (Kd.C_drewN HD7.out _)).2 HC6.out).mono ?_
                      rintro e wb ⟨rfl, ⟨⟨nd4, rfl⟩⟩⟩
                      go_wp2_with fail
                      go_roundg k3
                      case measure => omega
                      case rel => exact ⟨c + 1, by simp, by first | rfl | rw [s1], by first | rfl | rw [s2], by first | rfl | rw [s3], ⟨by have := HK.out; omega⟩, ⟨by omega⟩, ⟨⟨_, rfl⟩⟩⟩
                  · obtain rfl : c = wd := by have := HJ.out; omega
                    have hb1 : decide ((c : Int) < (c : Int)) = false := decide_eq_false (by omega)
                    have HBB := Aside0.mk (below_then HE7.out HE7.out.size ((Drawn0.step (Drawn0.refl wr) nd1).below))
                    by_cases hj : 0 < j
                    · have b1 : decide (0 < sumTo (nC i G) c) = true := decide_eq_true (by have := HALL.out.2 hj; omega)
                      have b2 : decide (0 < j) = true := decide_eq_true (by omega)
                      have b3 : ((j : Int) == 0) = false := by simp; omega
                      have b4 : decide (0 < sumTo (lC i G) c) = true := decide_eq_true (by have := HLOW.out hj; omega)
                      cases hu : unL v j with
                      | true =>
                        have b5 : decide (0 < sumTo (tC i G) c) = true := decide_eq_true (by have := HTOP.out hu; omega)
                        clear hu
                        go_wp2_with fail
                        go_ret
                        exact ⟨rfl, HBB.out⟩
                      | false =>
                        clear hu
                        go_wp2_with fail
                        go_ret
                        exact ⟨rfl, HBB.out⟩
                    · obtain rfl : j = 0 := by omega
                      have b1 : decide (0 < sumTo (nC i G) c) = false := decide_eq_false (fun h => hj (HALL.out.1 (by omega)))
                      have hu : unL v 0 = false := rfl
                      rw [hu]
                      go_wp2_with fail
                      go_ret
                      exact ⟨rfl, HBB.out⟩
end Go.Proofs.Ytfhgomcfpmbhnaa.Y
end

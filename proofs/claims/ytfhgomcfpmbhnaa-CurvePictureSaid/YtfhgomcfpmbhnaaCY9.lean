-- Part 9 of the texts of the claim CY (wrote by programs: words of the kit's print.sh, printed functions; and my own texts; joined by wip/tools/pack.py).
import Derived.Deep.DrawnRows
import Derived.Test.YtfhgomcfpmbhnaaCY8
import Derived.StillTailTactics

section
namespace Go.Proofs.Ytfhgomcfpmbhnaa.Y
open Go Go.RowKit Go.Proofs.Ytfhgomcfpmbhnaa.PS Go.Proofs.Ytfhgomcfpmbhnaa.F Go.Proofs.YtfhgomcfpmbhnaaW.PrintWords Go.Proofs.YtfhgomcfpmbhnaaW.PrintMore Go.Proofs.YtfhgomcfpmbhnaaW.Fits
attribute [local go_sem] frun_add frun_sub frun_mul frun_quo frun_neg frun_of frun_same frun_store frun_bits frun_from
attribute [local go_sem ↓] Go.wp_at_zero Go.wp_at_succ
set_option linter.unusedVariables false
set_option maxRecDepth 100000
def Refuses (w : World) (c : Int) (e : Ending) (w' : World) : Prop := e = .returned (.tuple #[.slice none 0 0, .int .i64 c]) ∧ Below w.heap.size w w'
def nanAt (w : World) (x y : Nat) : Nat := (Question.nanBits .f32 x y).cut (w.tape w.drawn (.nanBits .f32 x y))
theorem frun_sub_nan {P : Program} {w : World} {t : TypeId} {x y : Nat} (h : fk_sub x y = false) : (binOp .sub t (.float .f32 x) (.float .f32 y)).run P w = .ok (.float .f32 (nanAt w x y)) w.drew := by
  have hn : Ieee.single.sub x y = none := by
    unfold fk_sub at h
    cases hs : Ieee.single.sub x y with
    | none => rfl
    | some r => rw [hs] at h; cases h
  have hn' : FloatKind.f32.format.sub x y = none := hn
  simp [binOp, Op.floatArith, hn', Question.forced, nanAt]
def geF (d y : Nat) : Bool := (FloatKind.f32.format.order d y == some Ordering.gt) || (FloatKind.f32.format.order d y == some Ordering.eq)
attribute [local go_sem] frun_sub_nan
end Go.Proofs.Ytfhgomcfpmbhnaa.Y
end

section
namespace Go.Proofs.Ytfhgomcfpmbhnaa.F
open Go.RowKit Go.Proofs.Ytfhgomcfpmbhnaa.Y Go.Proofs.Ytfhgomcfpmbhnaa.PS Ieee
open Go.Proofs.YtfhgomcfpmbhnaaW.PrintWords Go.Proofs.YtfhgomcfpmbhnaaW.PrintMore
set_option linter.unusedVariables false
set_option linter.unusedSimpArgs false
theorem cmp_eq (a b : Int) : (some (compare a b) == some Ordering.eq) = decide (a = b) := by
  rcases Int.lt_trichotomy a b with h | h | h
  · rw [show compare a b = .lt from Int.compare_eq_lt.2 h, decide_eq_false (by omega)]; rfl
  · rw [show compare a b = .eq from Int.compare_eq_eq.2 h, decide_eq_true h]; rfl
  · rw [show compare a b = .gt from Int.compare_eq_gt.2 h, decide_eq_false (by omega)]; rfl
theorem geF_is (x y : Nat) (hx : x < 4294967296) (hy : y < 4294967296) (nx : x % 2147483648 ≤ 2139095040) (ny : y % 2147483648 ≤ 2139095040) : geF x y = decide (ordI y ≤ ordI x) := by
  have e : FloatKind.f32.format.order x y = some (compare (ordI x) (ordI y)) := order_is x y hx hy nx ny
  unfold geF
  rw [e, cmp_gt, cmp_eq, Bool.eq_iff_iff]
  simp only [Bool.or_eq_true, decide_eq_true_eq]
  omega
end Go.Proofs.Ytfhgomcfpmbhnaa.F
end

section
namespace Go.Proofs.Ytfhgomcfpmbhnaa.F
open Go.RowKit Go.Proofs.Ytfhgomcfpmbhnaa.Y Go.Proofs.Ytfhgomcfpmbhnaa.PS Ieee
open Go.Proofs.YtfhgomcfpmbhnaaW.PrintWords Go.Proofs.YtfhgomcfpmbhnaaW.PrintMore
set_option linter.unusedVariables false
set_option linter.unusedSimpArgs false
def AllFin (t : List S58) : Prop := ∀ q ∈ t, q.f1 < 4294967296 ∧ q.f1 % 2147483648 < 2139095040
section
variable {l : List S73} (hg : Good l) (hl : l.length < 8796093022208) (ho : InOrd l l.length) (h : Nat) (hh : h ≤ 7)
include hg hl ho hh
end
end Go.Proofs.Ytfhgomcfpmbhnaa.F
end

section
namespace Go.Proofs.Ytfhgomcfpmbhnaa.Y
open Go.RowKit Go.Proofs.Ytfhgomcfpmbhnaa.PS Go.Proofs.Ytfhgomcfpmbhnaa.F Go.Proofs.YtfhgomcfpmbhnaaW.PrintWords Go.Proofs.YtfhgomcfpmbhnaaW.PrintMore
attribute [local go_sem] frun_bits frun_from
set_option linter.unusedVariables false
set_option maxRecDepth 100000
theorem C_own58 {w : World} {base n : Nat} {v : Value} {xs : List S58} (hn : xs.length = n) (h : w.ownsRow base 58 2 v n (pntv xs)) : ∃ A c, v = .slice A n c ∧ n ≤ c ∧ Kd.C k58 w A n xs := by
  rcases h.2 with ⟨rfl, rfl⟩ | ⟨g, cap, cur, rfl, _, _, h1, h2, _⟩
  · obtain rfl : xs = [] := List.eq_nil_of_length_eq_zero hn
    exact ⟨none, 0, rfl, Nat.le_refl _, Kd.C_nil k58 w⟩
  · refine ⟨some ⟨g, 0, none⟩, cap, rfl, h1, C_pnt hn.symm (by unfold maxLen at h2; omega) (fun j u hu => ?_)⟩
    have := h.cells (g := g) rfl j u hu
    rwa [add_plain] at this
def GivesOne {α : Type} (d : Kd α) (n : Nat) (xs : List α) (w : World) (e : Ending) (w' : World) : Prop := ∃ A c, e = .returned (.slice A n c) ∧ n ≤ c ∧ d.C w' A n xs ∧ Below w.heap.size w w'
def GivesTwo {α : Type} (d : Kd α) (n : Nat) (xs : List α) (r : Int) (w : World) (e : Ending) (w' : World) : Prop := ∃ A c, e = .returned (.tuple #[.slice A n c, .int .i64 r]) ∧ n ≤ c ∧ d.C w' A n xs ∧ Below w.heap.size w w'
end Go.Proofs.Ytfhgomcfpmbhnaa.Y
end

section
namespace Go.Proofs.Ytfhgomcfpmbhnaa.PS
open Go.RowKit Go.Proofs.YtfhgomcfpmbhnaaW.PrintWords
structure S29 where
  f0 : Int
  f1 : Int
def z29 : S29 := ⟨(0 : Int), (0 : Int)⟩
def k29 : Kd S29 := Kd.iso (Kd.pair (Kd.int .i64) (Kd.int .i64)) (fun x : S29 => (x.f0, x.f1))
end Go.Proofs.Ytfhgomcfpmbhnaa.PS
namespace Go.Proofs.Ytfhgomcfpmbhnaa.Y
open Go.RowKit Go.Proofs.Ytfhgomcfpmbhnaa.PS Go.Proofs.Ytfhgomcfpmbhnaa.F Go.Proofs.YtfhgomcfpmbhnaaW.PrintWords Go.Proofs.YtfhgomcfpmbhnaaW.PrintMore
set_option linter.unusedVariables false
set_option maxRecDepth 100000
structure Kp (g : Nat) (row : Option Nat) (w w' : World) : Prop where
  os : w'.os = w.os
  tape : w'.tape = w.tape
  output : w'.output = w.output
  size : w.heap.size ≤ w'.heap.size
  block : ∀ k, k < w.heap.size → k ≠ g → some k ≠ row → w'.heap[k]? = w.heap[k]?
theorem Kp.of_below {g : Nat} {row : Option Nat} {w w' : World} (h : Below w.heap.size w w') : Kp g row w w' := ⟨h.os, h.tape, h.output, h.size, fun k hk _ _ => h.block k hk⟩
theorem Kp.trans {g : Nat} {r r1 : Option Nat} {w w1 w2 : World} (h : Kp g r w w1) (k : Kp g r1 w1 w2) (hr : r1 = r ∨ ∃ b, r1 = some b ∧ w.heap.size ≤ b) : Kp g r w w2 :=
  ⟨k.os.trans h.os, k.tape.trans h.tape, k.output.trans h.output, Nat.le_trans h.size k.size, fun i hi hg hn => (k.block i (Nat.lt_of_lt_of_le hi h.size) hg (by
    rcases hr with rfl | ⟨b, rfl, hb⟩
    · exact hn
    · intro e; injection e with e; omega)).trans (h.block i hi hg hn)⟩
theorem Kp.grown {g : Nat} {r r1 : Option Nat} {w w1 w2 : World} (h : Kp g r w w1) (k : w1.grownBy w2 r1) (hr : r1 = r ∨ ∃ b, r1 = some b ∧ w.heap.size ≤ b) : Kp g r w w2 :=
  h.trans ⟨k.os, k.tape, k.output, k.size, fun i hi _ hn => k.block i hi hn⟩ hr
theorem Kp.set {g : Nat} {r : Option Nat} {w w1 : World} (h : Kp g r w w1) (j : Nat) (u : Value) : Kp g r w (w1.setCell ⟨g, j, none⟩ u) :=
  ⟨h.os, h.tape, h.output, by simpa [World.setCell] using h.size, fun i hi hg hn => (Below.heap_setCell w1 ⟨g, j, none⟩ u i hg).trans (h.block i hi hg hn)⟩
theorem Kp.alloc {g : Nat} {r : Option Nat} {w w1 : World} (h : Kp g r w w1) (o : Obj) : Kp g r w (w1.alloc o) :=
  ⟨h.os, h.tape, h.output, Nat.le_trans h.size (by simp), fun i hi hg hn => (Below.heap_alloc w1 o i (Nat.lt_of_lt_of_le hi h.size)).trans (h.block i hi hg hn)⟩
theorem Kp.drewN {g : Nat} {r : Option Nat} {w w1 : World} (h : Kp g r w w1) (n : Nat) : Kp g r w (w1.drewN n) := ⟨h.os, h.tape, h.output, h.size, h.block⟩
theorem Kp.refl (g : Nat) (r : Option Nat) (w : World) : Kp g r w w := ⟨rfl, rfl, rfl, Nat.le_refl _, fun _ _ _ _ => rfl⟩
structure Asked (w : World) (base g : Nat) (v : Value) (xs : List Int) : Prop where
  blk : w.heap[g]? = some (.cells #[v] 24 (0, 0))
  own : w.ownsRow base 2 1 v xs.length (nums .i64 xs)
theorem Asked.keep {w w' : World} {base g : Nat} {v : Value} {xs : List Int} (h : Asked w base g v xs) (hg : w'.heap[g]? = w.heap[g]?) (hr : ∀ k, v.ownBlock = some k → w'.heap[k]? = w.heap[k]?) : Asked w' base g v xs :=
  ⟨hg.trans h.blk, own_move h.own hr⟩
theorem Asked.below {w w' : World} {base g : Nat} {v : Value} {xs : List Int} (h : Asked w base g v xs) (hb : Below w.heap.size w w') : Asked w' base g v xs :=
  h.keep (hb.block g (blk_lt h.blk)) (fun k hk => hb.block k (own_lt h.own k hk))
def valAt (vals : List S29) (n : Nat) : S29 := if vals.length = 0 then z29 else vals.getD (n % vals.length) z29
theorem reads_move {α : Type} {R R' : α → List Value → Prop} {size : Nat} {w w1 : World} {A : Option Addr} {n : Nat} {ps : List α} (h : ReadsRow R size w A n ps) (hb : ∀ ad, A = some ad → 0 < n → w1.heap[ad.block]? = w.heap[ad.block]?) (hR : ∀ p c, R p c → R' p c) : ReadsRow R' size w1 A n ps :=
  ⟨h.1, h.2.1, fun hn => by
    obtain ⟨ad, e, hc⟩ := h.2.2 hn
    refine ⟨ad, e, fun j p hj => ?_⟩
    obtain ⟨c, hs, hr, hcell⟩ := hc j p hj
    refine ⟨c, hs, hR _ _ hr, fun i u hu => ?_⟩
    have h1 := hcell i u hu
    have h2 : (ad.add (j * size + i)).block = ad.block := add_block _ _
    rw [← h1]
    simp only [World.cell?, h2, hb ad e hn]⟩
end Go.Proofs.Ytfhgomcfpmbhnaa.Y
end

section
namespace Go.Proofs.Ytfhgomcfpmbhnaa.Y
open Go Go.RowKit Go.Proofs.Ytfhgomcfpmbhnaa.PS Go.Proofs.Ytfhgomcfpmbhnaa.F Go.Proofs.YtfhgomcfpmbhnaaW.PrintWords Go.Proofs.YtfhgomcfpmbhnaaW.PrintMore Go.Proofs.YtfhgomcfpmbhnaaW.Fits
attribute [local go_sem] frun_add frun_sub frun_mul frun_quo frun_neg frun_of frun_same frun_store frun_bits frun_from
set_option linter.unusedVariables false
set_option maxRecDepth 100000
def placeAt (fr st : Int) (i : Nat) : Int := wrap64 (fr + wrap64 ((i : Int) * st))
def placesL (fr st : Int) (k : Nat) : List Int := (List.range k).map (placeAt fr st)
theorem placesL_succ (fr st : Int) (k : Nat) : placesL fr st (k + 1) = placesL fr st k ++ [placeAt fr st k] := by
  unfold placesL
  rw [List.range_succ, List.map_append]
  rfl
def keeps (v : S29) : Bool := v.f0 == 1 || v.f0 == 2
def sampleL (fr st : Int) (vals : List S29) : Nat → List S58
  | 0 => []
  | k + 1 => sampleL fr st vals k ++ (if keeps (valAt vals k) then [⟨placeAt fr st k, fl_of (valAt vals k).f1⟩] else [])
theorem Asked.drewN {w : World} {base g : Nat} {v : Value} {xs : List Int} (h : Asked w base g v xs) (k : Nat) : Asked (w.drewN k) base g v xs := ⟨h.blk, h.own⟩
structure Samp (fr st : Int) (vals : List S29) (w : World) (ga gv m cv : Nat) (AV : Option Addr) (i : Nat) (v10 va : Value) (w' : World) : Prop where
  out : w'.ownsRow w.heap.size 58 2 v10 (sampleL fr st vals i).length (pntv (sampleL fr st vals i))
  asked : Asked w' w.heap.size ga va (placesL fr st i)
  kp : Kp ga none w w'
theorem Samp.apart {fr st : Int} {vals : List S29} {w w' : World} {ga gv m cv i : Nat} {AV : Option Addr} {v10 va : Value} (h : Samp fr st vals w ga gv m cv AV i v10 va w')
    (hV : w.heap[gv]? = some (.cells #[.slice AV m cv] 23 (0, 0))) (hr : Kd.C k29 w AV m vals) (hne : ga ≠ gv) (hap : ∀ ad, AV = some ad → 0 < m → ad.block ≠ ga ∧ ad.block < w.heap.size) :
    w'.heap[gv]? = some (.cells #[.slice AV m cv] 23 (0, 0)) ∧ Kd.C k29 w' AV m vals ∧ (∀ ad, AV = some ad → 0 < m → ad.block ≠ ga ∧ some ad.block ≠ va.ownBlock ∧ ad.block < w'.heap.size) := by
  have hk : ∀ k, k < w.heap.size → k ≠ ga → w'.heap[k]? = w.heap[k]? := fun k h1 h2 => h.kp.block k h1 h2 (by simp)
  refine ⟨(hk gv (blk_lt hV) (Ne.symm hne)).trans hV, reads_move hr (fun ad e h0 => hk _ (hap ad e h0).2 (hap ad e h0).1) (fun p c hp => by
      obtain ⟨_, _, rfl, rfl, rfl⟩ := hp
      exact ⟨_, _, rfl, rfl, rfl⟩), fun ad e h0 => ⟨(hap ad e h0).1, fun hb => ?_, Nat.lt_of_lt_of_le (hap ad e h0).2 h.kp.size⟩⟩
  have := own_base h.asked.own _ hb.symm
  have := (hap ad e h0).2
  omega
theorem Samp.call {fr st : Int} {vals : List S29} {w w' w1 : World} {ga gv m cv i : Nat} {AV : Option Addr} {v10 va va' : Value} (h : Samp fr st vals w ga gv m cv AV i v10 va w')
    (hA : Asked w1 w.heap.size ga va' (placesL fr st i ++ [placeAt fr st i])) (hk : Kp ga va.ownBlock w' w1) (hb : va'.ownBlock = va.ownBlock ∨ ∃ b, va'.ownBlock = some b ∧ w'.heap.size ≤ b) :
    w1.ownsRow w.heap.size 58 2 v10 (sampleL fr st vals i).length (pntv (sampleL fr st vals i)) ∧ Asked w1 w.heap.size ga va' (placesL fr st (i + 1)) ∧ Kp ga none w w1 := by
  refine ⟨own_move h.out (fun k hk1 => hk.block k (own_lt h.out k hk1) ?_ ?_), by rw [placesL_succ]; exact hA, ?_⟩
  · rintro rfl
    exact own_ne h.out h.asked.blk (by decide) hk1.symm
  · intro e
    obtain ⟨c1, e1⟩ := own_typed h.out k hk1
    obtain ⟨c2, e2⟩ := own_typed h.asked.own k e.symm
    rw [e1] at e2
    injection e2 with e2
    injection e2 with _ e3
    exact absurd e3 (by decide)
  · rcases hvb : va.ownBlock with _ | b
    · exact h.kp.trans (hvb ▸ hk) (.inl rfl)
    · exact h.kp.trans hk (.inr ⟨b, hvb, own_base h.asked.own b hvb⟩)
theorem boxed {w w1 : World} {base ga : Nat} {v10 va : Value} {ps : List S58} {xs : List Int} (h : w1.ownsRow base 58 2 v10 ps.length (pntv ps) ∧ Asked w1 base ga va xs ∧ Kp ga none w w1) (o : Obj) (k : Nat) :
    ((w1.alloc o).drewN k).ownsRow base 58 2 v10 ps.length (pntv ps) ∧ Asked ((w1.alloc o).drewN k) base ga va xs ∧ Kp ga none w ((w1.alloc o).drewN k) :=
  ⟨own_drewN (h.1.alloc o) k, ⟨blk_alloc h.2.1.blk o, (h.2.1.own.alloc o)⟩, (h.2.2.alloc o).drewN k⟩
end Go.Proofs.Ytfhgomcfpmbhnaa.Y
end

section
namespace Go.Proofs.Ytfhgomcfpmbhnaa.Y
open Go Go.RowKit Go.Proofs.Ytfhgomcfpmbhnaa.PS Go.Proofs.Ytfhgomcfpmbhnaa.F Go.Proofs.YtfhgomcfpmbhnaaW.PrintWords Go.Proofs.YtfhgomcfpmbhnaaW.PrintMore Go.Proofs.YtfhgomcfpmbhnaaW.Fits
set_option linter.unusedVariables false
set_option maxRecDepth 100000
def BadStep (fr st n : Int) : Prop := st < 1 ∨ fr < -9999999999999 ∨ 9999999999999 < fr ∨ (1 < n ∧ (9999999999999 - fr) / (n - 1) < st)
instance (fr st n : Int) : Decidable (BadStep fr st n) := inferInstanceAs (Decidable (_ ∨ _))
end Go.Proofs.Ytfhgomcfpmbhnaa.Y
end

section
namespace Go.Proofs.Ytfhgomcfpmbhnaa.Y
open Go Go.RowKit Go.Proofs.Ytfhgomcfpmbhnaa.PS Go.Proofs.Ytfhgomcfpmbhnaa.F Go.Proofs.YtfhgomcfpmbhnaaW.PrintWords Go.Proofs.YtfhgomcfpmbhnaaW.PrintMore Go.Proofs.YtfhgomcfpmbhnaaW.Fits
attribute [local go_sem] frun_add frun_sub frun_mul frun_quo frun_neg frun_of frun_same frun_store frun_bits frun_from
set_option linter.unusedVariables false
set_option maxRecDepth 100000
theorem whole_quiet (x : Int) (W : World) (n : Nat) : Calls Try.prog 33 #[.int .i64 x] (W.drewN n) fun e w'' => e = .returned (.float .f32 (fl_of x)) ∧ ∃ m, w'' = W.drewN m := by
  refine (curve_whole.calls x (fl_of x) _ rfl).mono ?_
  rintro e w' ⟨rfl, ⟨⟨nd, hnd⟩⟩⟩
  exact ⟨rfl, n + nd, by rw [hnd, World.drewN_drewN]⟩
theorem frun_int (w : World) (x : Nat) (n : Int) (h : (FloatKind.f32.decode x).toInt .zero = some n) (h0 : 0 ≤ n) (h1 : n ≤ 1000) : (convert 56 3 (.float .f32 x)).run Try.prog w = .ok (.int .i64 n) w := by
  have hm : IntKind.i64.min ≤ n ∧ n ≤ IntKind.i64.max := ⟨Int.le_trans (by decide) h0, Int.le_trans h1 (by decide)⟩
  simp [convert, run_underlying Try.underlying3, run_underlying Try.underlying56, Conv.floatToInt, go_sem, h, hm]
  intro h2
  omega
set_option maxHeartbeats 4000000 in
theorem row_zero (a b y : Nat) (h : Int) (w : World) (hb : (FloatKind.f32.format.order b 0 == some Ordering.eq) = true) :
    Calls Try.prog 51 #[.agg #[.float .f32 a, .float .f32 b, .int .i64 h], .float .f32 y] w (fun e w' => e = .returned (.int .i64 0) ∧ Below w.heap.size w w') := by
  go_enter Try.func51, Try.ntmps51
  go_wp2_with fail
  go_ret
  exact ⟨rfl, (Below.refl _ _).alloc (Nat.le_refl _) _⟩
set_option maxHeartbeats 4000000 in
theorem row_calls (a b y : Nat) (h : Int) (w : World) (hb : (FloatKind.f32.format.order b 0 == some Ordering.eq) = false) (h1 : 1 ≤ h) (h2 : h ≤ 1000) (k1 : fk_sub y a = true) (k2 : fk_quo (fl_sub y a) b = true) (k3 : fk_mul (fl_quo (fl_sub y a) b) (fl_of (h - 1)) = true) (k4 : fk_add (fl_mul (fl_quo (fl_sub y a) b) (fl_of (h - 1))) 1056964608 = true)
    (n : Int) (hn : (FloatKind.f32.decode (fl_add (fl_mul (fl_quo (fl_sub y a) b) (fl_of (h - 1))) 1056964608)).toInt .zero = some n) (n0 : 0 ≤ n) (n1 : n ≤ 1000) :
    Calls Try.prog 51 #[.agg #[.float .f32 a, .float .f32 b, .int .i64 h], .float .f32 y] w (fun e w' => e = .returned (.int .i64 n) ∧ Below w.heap.size w w') := by
  have HB := Aside0.mk ((Below.refl w.heap.size w).alloc (Nat.le_refl _) (.cells #[.float .f32 a, .float .f32 b, .int .i64 h] 92))
  have hbk := blk_new w (.cells #[.float .f32 a, .float .f32 b, .int .i64 h] 92)
  have g0 : (w.alloc (.cells #[.float .f32 a, .float .f32 b, .int .i64 h] 92)).cell? ⟨w.heap.size, 0, none⟩ = some (.float .f32 a) := (blk_cell hbk 0).trans rfl
  have g1 : (w.alloc (.cells #[.float .f32 a, .float .f32 b, .int .i64 h] 92)).cell? ⟨w.heap.size, 1, none⟩ = some (.float .f32 b) := (blk_cell hbk 1).trans rfl
  have g2 : (w.alloc (.cells #[.float .f32 a, .float .f32 b, .int .i64 h] 92)).cell? ⟨w.heap.size, 2, none⟩ = some (.int .i64 h) := (blk_cell hbk 2).trans rfl
  clear hbk
  have hw : IntKind.i64.wrap (h - 1) = h - 1 := by rw [IntKind.wrap_i64]; omega
  go_enter Try.func51, Try.ntmps51
  go_wp2_with fail
  go_quiet ((go_at_call 33; exact whole_quiet _ _ _))
  have HBQ := Aside0.mk (pw_below_drewN HB.out nq)
  clear g0 g1 g2 HB
  generalize (w.alloc (.cells #[.float .f32 a, .float .f32 b, .int .i64 h] 92)).drewN nq = wq at HBQ ⊢
  have hi := frun_int wq _ n hn n0 n1
  have ha := frun_add (P := Try.prog) (t := 56) (w := wq) k4
  go_upto_region 4 with (fail)
  apply wp_region_lit
  refine Kd.event_run rfl rfl ?_
  refine Kd.event_run (v := .float .f32 (fl_add (fl_mul (fl_quo (fl_sub y a) b) (fl_of (h - 1))) 1056964608)) (w1 := wq) rfl (by go_simp) ?_
  refine Kd.event_run (v := .int .i64 n) (w1 := wq) rfl (by go_simp) ?_
  refine Kd.event_run rfl rfl ?_
  apply wpList_nil
  go_simp
  go_wp2_with fail
  go_ret
  exact ⟨rfl, HBQ.out⟩
end Go.Proofs.Ytfhgomcfpmbhnaa.Y
end

-- Part 9 of the texts of the claim CX (wrote by programs: words of the kit's print.sh, printed functions; and my own texts; joined by wip/tools/pack.py).
import Derived.Deep.DrawnRows
import Derived.Test.YtfhgomcfpmbhnaaCX8
import Derived.StillTailTactics

section
namespace Go.Proofs.Ytfhgomcfpmbhnaa.Y
open Go Go.RowKit Go.Proofs.Ytfhgomcfpmbhnaa.PS Go.Proofs.Ytfhgomcfpmbhnaa.F Go.Proofs.YtfhgomcfpmbhnaaW.PrintWords Go.Proofs.YtfhgomcfpmbhnaaW.PrintMore Go.Proofs.YtfhgomcfpmbhnaaW.Fits
attribute [local go_sem] frun_add frun_sub frun_mul frun_quo frun_neg frun_of frun_same frun_store frun_bits frun_from
attribute [local go_sem ↓] Go.wp_at_zero Go.wp_at_succ
set_option linter.unusedVariables false
set_option maxRecDepth 100000
def Refuses (w : World) (c : Int) (e : Ending) (w' : World) : Prop := e = .returned (.tuple #[.slice none 0 0, .int .i64 c]) ∧ Below w.heap.size w w'
def nanAt (w : World) (x y : Nat) : Nat := (Question.nanBits .f32 x y).cut (w.tape w.drawn (.nanBits .f32 x y))
theorem frun_sub_nan {P : Program} {w : World} {t : TypeId} {x y : Nat} (h : fk_sub x y = false) : (binOp .sub t (.float .f32 x) (.float .f32 y)).run P w = .ok (.float .f32 (nanAt w x y)) w.drew := by
  have hn : Ieee.single.sub x y = none := by
    unfold fk_sub at h
    cases hs : Ieee.single.sub x y with
    | none => rfl
    | some r => rw [hs] at h; cases h
  have hn' : FloatKind.f32.format.sub x y = none := hn
  simp [binOp, Op.floatArith, hn', Question.forced, nanAt]
def geF (d y : Nat) : Bool := (FloatKind.f32.format.order d y == some Ordering.gt) || (FloatKind.f32.format.order d y == some Ordering.eq)
attribute [local go_sem] frun_sub_nan
end Go.Proofs.Ytfhgomcfpmbhnaa.Y
end

section
namespace Go.Proofs.Ytfhgomcfpmbhnaa.F
open Go.RowKit Go.Proofs.Ytfhgomcfpmbhnaa.Y Go.Proofs.Ytfhgomcfpmbhnaa.PS Ieee
open Go.Proofs.YtfhgomcfpmbhnaaW.PrintWords Go.Proofs.YtfhgomcfpmbhnaaW.PrintMore
set_option linter.unusedVariables false
set_option linter.unusedSimpArgs false
theorem cmp_eq (a b : Int) : (some (compare a b) == some Ordering.eq) = decide (a = b) := by
  rcases Int.lt_trichotomy a b with h | h | h
  · rw [show compare a b = .lt from Int.compare_eq_lt.2 h, decide_eq_false (by omega)]; rfl
  · rw [show compare a b = .eq from Int.compare_eq_eq.2 h, decide_eq_true h]; rfl
  · rw [show compare a b = .gt from Int.compare_eq_gt.2 h, decide_eq_false (by omega)]; rfl
theorem geF_is (x y : Nat) (hx : x < 4294967296) (hy : y < 4294967296) (nx : x % 2147483648 ≤ 2139095040) (ny : y % 2147483648 ≤ 2139095040) : geF x y = decide (ordI y ≤ ordI x) := by
  have e : FloatKind.f32.format.order x y = some (compare (ordI x) (ordI y)) := order_is x y hx hy nx ny
  unfold geF
  rw [e, cmp_gt, cmp_eq, Bool.eq_iff_iff]
  simp only [Bool.or_eq_true, decide_eq_true_eq]
  omega
end Go.Proofs.Ytfhgomcfpmbhnaa.F
end

section
namespace Go.Proofs.Ytfhgomcfpmbhnaa.F
open Go.RowKit Go.Proofs.Ytfhgomcfpmbhnaa.Y Go.Proofs.Ytfhgomcfpmbhnaa.PS Ieee
open Go.Proofs.YtfhgomcfpmbhnaaW.PrintWords Go.Proofs.YtfhgomcfpmbhnaaW.PrintMore
set_option linter.unusedVariables false
set_option linter.unusedSimpArgs false
theorem inf_add (x y : Nat) (hx : x < 4294967296) (hy : y < 4294967296) (fx : x % 2147483648 = 2139095040) (fy : y % 2147483648 < 2139095040) : single.add x y = some x := by
  unfold Format.add
  rw [read_inf x hx fx, read_fin y hy fy]
  have hsum : (Datum.infinity (sX x)).sum (Datum.number (sX y) (mX y) (eX y)) = some (Datum.infinity (sX x)) := rfl
  rw [hsum]
  have hw : (some (Datum.infinity (sX x))).map single.write = some (single.word (sX x) single.infRung) := rfl
  rw [hw, k3, inf_word x hx fx]
theorem add_num (x y : Nat) (hx : isNum x) (hy : y < 4294967296) (fy : y % 2147483648 < 2139095040) : ∃ r, single.add x y = some r ∧ isNum r := by
  by_cases fx : x % 2147483648 < 2139095040
  · exact add_fin x y hx.1 hy fx fy
  · exact ⟨x, inf_add x y hx.1 hy (by have := hx.2; omega) fy, hx⟩
def AllFin (t : List S58) : Prop := ∀ q ∈ t, q.f1 < 4294967296 ∧ q.f1 % 2147483648 < 2139095040
theorem sumOk_of : ∀ (t : List S58) (s : Nat), isNum s → AllFin t → SumOk s t ∧ isNum (sumF s t)
  | [], s, hs, _ => ⟨trivial, hs⟩
  | q :: t, s, hs, ht => by
    obtain ⟨h0, h1⟩ := ht q List.mem_cons_self
    obtain ⟨r, hr, nr⟩ := add_num s q.f1 hs h0 h1
    obtain ⟨k1, k2⟩ := fk_of.1 hr
    have ih := sumOk_of t r nr (fun p hp => ht p (List.mem_cons_of_mem _ hp))
    refine ⟨⟨k1, ?_⟩, ?_⟩
    · rw [k2]; exact ih.1
    · show isNum (sumF (fl_add s q.f1) t)
      rw [k2]; exact ih.2
theorem allFin_near {l : List S58} (h : AllFin l) (a b : Nat) : AllFin (nearL l a b) := fun q hq => h q (List.mem_of_mem_take (List.mem_of_mem_drop hq))
theorem allFin_P {l : List S73} (hg : Good l) (ho : InOrd l l.length) : AllFin (l.map dP) := by
  intro q hq
  obtain ⟨j, hj, rfl⟩ := List.mem_iff_getElem.1 hq
  rw [List.length_map] at hj
  obtain ⟨f0, _⟩ := ho (j : Int) (by omega) (by omega)
  obtain ⟨hlt, _⟩ := hB_lt hg (j : Int)
  have e : ((l.map dP)[j]'(by rw [List.length_map]; exact hj)).f1 = hB l (j : Int) := by
    rw [List.getElem_map]
    unfold hB rd_T73
    rw [List.getD_eq_getElem?_getD, Int.toNat_natCast, List.getElem?_eq_getElem hj]
    rfl
  rw [e]
  exact ⟨hlt, f0⟩
theorem near_at (l : List S58) (h i c : Nat) (hi : i < l.length) (hc : c < (nearL l h i).length) : (nearL l h i).getD c z58 = l.getD (i - h + c) z58 := by
  have hl := (nearL_len l h i hi).1
  unfold nearL
  rw [List.getD_eq_getElem?_getD, List.getD_eq_getElem?_getD, List.getElem?_drop, List.getElem?_take, if_pos (by omega)]
section
variable {l : List S73} (hg : Good l) (hl : l.length < 8796093022208) (ho : InOrd l l.length) (h : Nat) (hh : h ≤ 7)
include hg hl ho hh
theorem smooth_okk : SmoothOk (l.map dP) h := by
  intro i hi
  have hN := nearL_len (l.map dP) h i hi
  rw [List.length_map] at hi
  have hf := allFin_near (allFin_P hg ho) h i
  have h0 := hf ((nearL (l.map dP) h i).getD 0 z58) (by rw [List.getD_eq_getElem?_getD, List.getElem?_eq_getElem hN.2]; exact List.getElem_mem _)
  obtain ⟨s1, s2⟩ := sumOk_of ((nearL (l.map dP) h i).drop 1) _ ⟨h0.1, by omega⟩ (fun q hq => hf q (List.mem_of_mem_drop hq))
  refine ⟨s1, ?_⟩
  have hlen : (nearL (l.map dP) h i).length ≤ 15 := by rw [List.length_map] at hN; omega
  obtain ⟨a, r, g1, g2, g3, g4, g5, g6⟩ := over_whole (sumN (l.map dP) h i) ((nearL (l.map dP) h i).length : Int) s2 (by omega) (by omega) (by omega)
  have : a = fl_of ((nearL (l.map dP) h i).length : Int) := (Option.some.inj g1).symm
  rw [← this]
  exact g3
end
end Go.Proofs.Ytfhgomcfpmbhnaa.F
end

section
namespace Go.Proofs.Ytfhgomcfpmbhnaa.Y
open Go.RowKit Go.Proofs.Ytfhgomcfpmbhnaa.PS Go.Proofs.Ytfhgomcfpmbhnaa.F Go.Proofs.YtfhgomcfpmbhnaaW.PrintWords Go.Proofs.YtfhgomcfpmbhnaaW.PrintMore
attribute [local go_sem] frun_bits frun_from
set_option linter.unusedVariables false
set_option maxRecDepth 100000
theorem C_own58 {w : World} {base n : Nat} {v : Value} {xs : List S58} (hn : xs.length = n) (h : w.ownsRow base 58 2 v n (pntv xs)) : ∃ A c, v = .slice A n c ∧ n ≤ c ∧ Kd.C k58 w A n xs := by
  rcases h.2 with ⟨rfl, rfl⟩ | ⟨g, cap, cur, rfl, _, _, h1, h2, _⟩
  · obtain rfl : xs = [] := List.eq_nil_of_length_eq_zero hn
    exact ⟨none, 0, rfl, Nat.le_refl _, Kd.C_nil k58 w⟩
  · refine ⟨some ⟨g, 0, none⟩, cap, rfl, h1, C_pnt hn.symm (by unfold maxLen at h2; omega) (fun j u hu => ?_)⟩
    have := h.cells (g := g) rfl j u hu
    rwa [add_plain] at this
def GivesOne {α : Type} (d : Kd α) (n : Nat) (xs : List α) (w : World) (e : Ending) (w' : World) : Prop := ∃ A c, e = .returned (.slice A n c) ∧ n ≤ c ∧ d.C w' A n xs ∧ Below w.heap.size w w'
def GivesTwo {α : Type} (d : Kd α) (n : Nat) (xs : List α) (r : Int) (w : World) (e : Ending) (w' : World) : Prop := ∃ A c, e = .returned (.tuple #[.slice A n c, .int .i64 r]) ∧ n ≤ c ∧ d.C w' A n xs ∧ Below w.heap.size w w'
end Go.Proofs.Ytfhgomcfpmbhnaa.Y
end

section
namespace Go.Proofs.Ytfhgomcfpmbhnaa.PS
open Go.RowKit Go.Proofs.YtfhgomcfpmbhnaaW.PrintWords
structure S29 where
  f0 : Int
  f1 : Int
def z29 : S29 := ⟨(0 : Int), (0 : Int)⟩
def k29 : Kd S29 := Kd.iso (Kd.pair (Kd.int .i64) (Kd.int .i64)) (fun x : S29 => (x.f0, x.f1))
end Go.Proofs.Ytfhgomcfpmbhnaa.PS
namespace Go.Proofs.Ytfhgomcfpmbhnaa.Y
open Go.RowKit Go.Proofs.Ytfhgomcfpmbhnaa.PS Go.Proofs.Ytfhgomcfpmbhnaa.F Go.Proofs.YtfhgomcfpmbhnaaW.PrintWords Go.Proofs.YtfhgomcfpmbhnaaW.PrintMore
set_option linter.unusedVariables false
set_option maxRecDepth 100000
structure Kp (g : Nat) (row : Option Nat) (w w' : World) : Prop where
  os : w'.os = w.os
  tape : w'.tape = w.tape
  output : w'.output = w.output
  size : w.heap.size ≤ w'.heap.size
  block : ∀ k, k < w.heap.size → k ≠ g → some k ≠ row → w'.heap[k]? = w.heap[k]?
theorem Kp.of_below {g : Nat} {row : Option Nat} {w w' : World} (h : Below w.heap.size w w') : Kp g row w w' := ⟨h.os, h.tape, h.output, h.size, fun k hk _ _ => h.block k hk⟩
theorem Kp.trans {g : Nat} {r r1 : Option Nat} {w w1 w2 : World} (h : Kp g r w w1) (k : Kp g r1 w1 w2) (hr : r1 = r ∨ ∃ b, r1 = some b ∧ w.heap.size ≤ b) : Kp g r w w2 :=
  ⟨k.os.trans h.os, k.tape.trans h.tape, k.output.trans h.output, Nat.le_trans h.size k.size, fun i hi hg hn => (k.block i (Nat.lt_of_lt_of_le hi h.size) hg (by
    rcases hr with rfl | ⟨b, rfl, hb⟩
    · exact hn
    · intro e; injection e with e; omega)).trans (h.block i hi hg hn)⟩
theorem Kp.grown {g : Nat} {r r1 : Option Nat} {w w1 w2 : World} (h : Kp g r w w1) (k : w1.grownBy w2 r1) (hr : r1 = r ∨ ∃ b, r1 = some b ∧ w.heap.size ≤ b) : Kp g r w w2 :=
  h.trans ⟨k.os, k.tape, k.output, k.size, fun i hi _ hn => k.block i hi hn⟩ hr
theorem Kp.set {g : Nat} {r : Option Nat} {w w1 : World} (h : Kp g r w w1) (j : Nat) (u : Value) : Kp g r w (w1.setCell ⟨g, j, none⟩ u) :=
  ⟨h.os, h.tape, h.output, by simpa [World.setCell] using h.size, fun i hi hg hn => (Below.heap_setCell w1 ⟨g, j, none⟩ u i hg).trans (h.block i hi hg hn)⟩
theorem Kp.alloc {g : Nat} {r : Option Nat} {w w1 : World} (h : Kp g r w w1) (o : Obj) : Kp g r w (w1.alloc o) :=
  ⟨h.os, h.tape, h.output, Nat.le_trans h.size (by simp), fun i hi hg hn => (Below.heap_alloc w1 o i (Nat.lt_of_lt_of_le hi h.size)).trans (h.block i hi hg hn)⟩
theorem Kp.drewN {g : Nat} {r : Option Nat} {w w1 : World} (h : Kp g r w w1) (n : Nat) : Kp g r w (w1.drewN n) := ⟨h.os, h.tape, h.output, h.size, h.block⟩
theorem Kp.refl (g : Nat) (r : Option Nat) (w : World) : Kp g r w w := ⟨rfl, rfl, rfl, Nat.le_refl _, fun _ _ _ _ => rfl⟩
structure Asked (w : World) (base g : Nat) (v : Value) (xs : List Int) : Prop where
  blk : w.heap[g]? = some (.cells #[v] 24 (0, 0))
  own : w.ownsRow base 2 1 v xs.length (nums .i64 xs)
theorem Asked.keep {w w' : World} {base g : Nat} {v : Value} {xs : List Int} (h : Asked w base g v xs) (hg : w'.heap[g]? = w.heap[g]?) (hr : ∀ k, v.ownBlock = some k → w'.heap[k]? = w.heap[k]?) : Asked w' base g v xs :=
  ⟨hg.trans h.blk, own_move h.own hr⟩
theorem Asked.below {w w' : World} {base g : Nat} {v : Value} {xs : List Int} (h : Asked w base g v xs) (hb : Below w.heap.size w w') : Asked w' base g v xs :=
  h.keep (hb.block g (blk_lt h.blk)) (fun k hk => hb.block k (own_lt h.own k hk))
def valAt (vals : List S29) (n : Nat) : S29 := if vals.length = 0 then z29 else vals.getD (n % vals.length) z29
theorem reads_move {α : Type} {R R' : α → List Value → Prop} {size : Nat} {w w1 : World} {A : Option Addr} {n : Nat} {ps : List α} (h : ReadsRow R size w A n ps) (hb : ∀ ad, A = some ad → 0 < n → w1.heap[ad.block]? = w.heap[ad.block]?) (hR : ∀ p c, R p c → R' p c) : ReadsRow R' size w1 A n ps :=
  ⟨h.1, h.2.1, fun hn => by
    obtain ⟨ad, e, hc⟩ := h.2.2 hn
    refine ⟨ad, e, fun j p hj => ?_⟩
    obtain ⟨c, hs, hr, hcell⟩ := hc j p hj
    refine ⟨c, hs, hR _ _ hr, fun i u hu => ?_⟩
    have h1 := hcell i u hu
    have h2 : (ad.add (j * size + i)).block = ad.block := add_block _ _
    rw [← h1]
    simp only [World.cell?, h2, hb ad e hn]⟩
end Go.Proofs.Ytfhgomcfpmbhnaa.Y
end

section
namespace Go.Proofs.Ytfhgomcfpmbhnaa.Y
open Go Go.RowKit Go.Proofs.Ytfhgomcfpmbhnaa.PS Go.Proofs.Ytfhgomcfpmbhnaa.F Go.Proofs.YtfhgomcfpmbhnaaW.PrintWords Go.Proofs.YtfhgomcfpmbhnaaW.PrintMore Go.Proofs.YtfhgomcfpmbhnaaW.Fits
attribute [local go_sem] frun_add frun_sub frun_mul frun_quo frun_neg frun_of frun_same frun_store frun_bits frun_from
set_option linter.unusedVariables false
set_option maxRecDepth 100000
def placeAt (fr st : Int) (i : Nat) : Int := wrap64 (fr + wrap64 ((i : Int) * st))
def placesL (fr st : Int) (k : Nat) : List Int := (List.range k).map (placeAt fr st)
theorem placesL_succ (fr st : Int) (k : Nat) : placesL fr st (k + 1) = placesL fr st k ++ [placeAt fr st k] := by
  unfold placesL
  rw [List.range_succ, List.map_append]
  rfl
def keeps (v : S29) : Bool := v.f0 == 1 || v.f0 == 2
def sampleL (fr st : Int) (vals : List S29) : Nat → List S58
  | 0 => []
  | k + 1 => sampleL fr st vals k ++ (if keeps (valAt vals k) then [⟨placeAt fr st k, fl_of (valAt vals k).f1⟩] else [])
theorem Asked.drewN {w : World} {base g : Nat} {v : Value} {xs : List Int} (h : Asked w base g v xs) (k : Nat) : Asked (w.drewN k) base g v xs := ⟨h.blk, h.own⟩
structure Samp (fr st : Int) (vals : List S29) (w : World) (ga gv m cv : Nat) (AV : Option Addr) (i : Nat) (v10 va : Value) (w' : World) : Prop where
  out : w'.ownsRow w.heap.size 58 2 v10 (sampleL fr st vals i).length (pntv (sampleL fr st vals i))
  asked : Asked w' w.heap.size ga va (placesL fr st i)
  kp : Kp ga none w w'
theorem Samp.apart {fr st : Int} {vals : List S29} {w w' : World} {ga gv m cv i : Nat} {AV : Option Addr} {v10 va : Value} (h : Samp fr st vals w ga gv m cv AV i v10 va w')
    (hV : w.heap[gv]? = some (.cells #[.slice AV m cv] 23 (0, 0))) (hr : Kd.C k29 w AV m vals) (hne : ga ≠ gv) (hap : ∀ ad, AV = some ad → 0 < m → ad.block ≠ ga ∧ ad.block < w.heap.size) :
    w'.heap[gv]? = some (.cells #[.slice AV m cv] 23 (0, 0)) ∧ Kd.C k29 w' AV m vals ∧ (∀ ad, AV = some ad → 0 < m → ad.block ≠ ga ∧ some ad.block ≠ va.ownBlock ∧ ad.block < w'.heap.size) := by
  have hk : ∀ k, k < w.heap.size → k ≠ ga → w'.heap[k]? = w.heap[k]? := fun k h1 h2 => h.kp.block k h1 h2 (by simp)
  refine ⟨(hk gv (blk_lt hV) (Ne.symm hne)).trans hV, reads_move hr (fun ad e h0 => hk _ (hap ad e h0).2 (hap ad e h0).1) (fun p c hp => by
      obtain ⟨_, _, rfl, rfl, rfl⟩ := hp
      exact ⟨_, _, rfl, rfl, rfl⟩), fun ad e h0 => ⟨(hap ad e h0).1, fun hb => ?_, Nat.lt_of_lt_of_le (hap ad e h0).2 h.kp.size⟩⟩
  have := own_base h.asked.own _ hb.symm
  have := (hap ad e h0).2
  omega
theorem Samp.call {fr st : Int} {vals : List S29} {w w' w1 : World} {ga gv m cv i : Nat} {AV : Option Addr} {v10 va va' : Value} (h : Samp fr st vals w ga gv m cv AV i v10 va w')
    (hA : Asked w1 w.heap.size ga va' (placesL fr st i ++ [placeAt fr st i])) (hk : Kp ga va.ownBlock w' w1) (hb : va'.ownBlock = va.ownBlock ∨ ∃ b, va'.ownBlock = some b ∧ w'.heap.size ≤ b) :
    w1.ownsRow w.heap.size 58 2 v10 (sampleL fr st vals i).length (pntv (sampleL fr st vals i)) ∧ Asked w1 w.heap.size ga va' (placesL fr st (i + 1)) ∧ Kp ga none w w1 := by
  refine ⟨own_move h.out (fun k hk1 => hk.block k (own_lt h.out k hk1) ?_ ?_), by rw [placesL_succ]; exact hA, ?_⟩
  · rintro rfl
    exact own_ne h.out h.asked.blk (by decide) hk1.symm
  · intro e
    obtain ⟨c1, e1⟩ := own_typed h.out k hk1
    obtain ⟨c2, e2⟩ := own_typed h.asked.own k e.symm
    rw [e1] at e2
    injection e2 with e2
    injection e2 with _ e3
    exact absurd e3 (by decide)
  · rcases hvb : va.ownBlock with _ | b
    · exact h.kp.trans (hvb ▸ hk) (.inl rfl)
    · exact h.kp.trans hk (.inr ⟨b, hvb, own_base h.asked.own b hvb⟩)
theorem boxed {w w1 : World} {base ga : Nat} {v10 va : Value} {ps : List S58} {xs : List Int} (h : w1.ownsRow base 58 2 v10 ps.length (pntv ps) ∧ Asked w1 base ga va xs ∧ Kp ga none w w1) (o : Obj) (k : Nat) :
    ((w1.alloc o).drewN k).ownsRow base 58 2 v10 ps.length (pntv ps) ∧ Asked ((w1.alloc o).drewN k) base ga va xs ∧ Kp ga none w ((w1.alloc o).drewN k) :=
  ⟨own_drewN (h.1.alloc o) k, ⟨blk_alloc h.2.1.blk o, (h.2.1.own.alloc o)⟩, (h.2.2.alloc o).drewN k⟩
end Go.Proofs.Ytfhgomcfpmbhnaa.Y
end

section
namespace Go.Proofs.Ytfhgomcfpmbhnaa.Y
open Go Go.RowKit Go.Proofs.Ytfhgomcfpmbhnaa.PS Go.Proofs.Ytfhgomcfpmbhnaa.F Go.Proofs.YtfhgomcfpmbhnaaW.PrintWords Go.Proofs.YtfhgomcfpmbhnaaW.PrintMore Go.Proofs.YtfhgomcfpmbhnaaW.Fits
attribute [local go_sem] frun_add frun_sub frun_mul frun_quo frun_neg frun_of frun_same frun_store frun_bits frun_from
set_option linter.unusedVariables false
set_option maxRecDepth 100000
def lineL (fr st : Int) (fv : Int → Int) : Nat → List S58
  | 0 => []
  | k + 1 => lineL fr st fv k ++ [⟨placeAt fr st k, fl_of (fv (placeAt fr st k))⟩]
theorem lineL_len (fr st : Int) (fv : Int → Int) (k : Nat) : (lineL fr st fv k).length = k := by
  induction k with
  | zero => rfl
  | succ k ih => rw [lineL, List.length_append, ih]; rfl
structure Line (w : World) (ps : List S58) (v10 : Value) (w' : World) : Prop where
  out : w'.ownsRow w.heap.size 58 2 v10 ps.length (pntv ps)
  below : Below w.heap.size w w'
theorem Line.moved {w w' w1 : World} {ps : List S58} {v10 : Value} (h : Line w ps v10 w') (hb : Below w'.heap.size w' w1) : Line w ps v10 w1 :=
  ⟨own_move h.out (fun k hk => hb.block k (own_lt h.out k hk)), below_then h.below h.below.size hb⟩
theorem Line.boxed {w w' : World} {ps : List S58} {v10 : Value} (h : Line w ps v10 w') (o : Obj) (k : Nat) : Line w ps v10 ((w'.alloc o).drewN k) :=
  h.moved (pw_below_drewN ((Below.refl _ _).alloc (Nat.le_refl _) o) k)
set_option maxHeartbeats 4000000 in
theorem sample_line (n : Nat) (fv : Int → Int) (fr st : Int) (w : World) (hcall : ∀ (w1 : World) (x : Int), Below w.heap.size w w1 → Calls Try.prog 47 #[.int .i64 x] w1 (fun e w' => e = .returned (.agg #[.int .i64 1, .int .i64 (fv x)]) ∧ Below w1.heap.size w1 w'))
    (h1 : 1 ≤ n) (h64 : n ≤ 64) (hst : 1 ≤ st) (hst2 : st ≤ 9223372036854775807) (hf0 : -9999999999999 ≤ fr) (hf1 : fr ≤ 9999999999999) (hq : 1 < n → st ≤ (9999999999999 - fr) / ((n : Int) - 1)) :
    Calls Try.prog 13 #[.func (.func 47) #[] #[], .int .i64 fr, .int .i64 st, .int .i64 n] w
      (fun e w' => ∃ v10, e = .returned (.tuple #[v10, .int .i64 0]) ∧ Line w (lineL fr st fv n) v10 w') := by
  have HCALL := Aside0.mk hcall
  have HQ := Aside0.mk hq
  clear hcall hq
  have b1 : decide ((n : Int) < 1) = false := decide_eq_false (by omega)
  have b2 : decide ((64 : Int) < n) = false := decide_eq_false (by omega)
  have b3 : decide (st < 1) = false := decide_eq_false (by omega)
  have b4 : decide (fr < -9999999999999) = false := decide_eq_false (by omega)
  have b5 : decide (9999999999999 < fr) = false := decide_eq_false (by omega)
  have hcase : decide ((1 : Int) < n) = false ∨ (((1 : Int) < n ∧ decide ((1 : Int) < n) = true) ∧ decide ((9999999999999 - fr) / ((n : Int) - 1) < st) = false) := by
    by_cases h : 1 < n
    · exact .inr ⟨⟨by omega, decide_eq_true (by omega)⟩, decide_eq_false (by have := HQ.out h; omega)⟩
    · exact .inl (decide_eq_false (by omega))
  go_enter Try.func13, Try.ntmps13
  rcases hcase with b6 | ⟨⟨b8, b6⟩, b7⟩
  all_goals go_wp2_with fail
  all_goals try (exfalso; omega)
  all_goals try (exfalso; revert b7; simp; omega)
  all_goals (
    go_loopg [10, 44] (n + 1) (fun kq v10 v44 w' => ∃ (i : Nat), v44 = .int .i64 (i : Int) ∧ Aside0 (kq + i = n + 1) ∧ Aside0 (i ≤ n) ∧ Aside0 (Line w (lineL fr st fv i) v10 w'))
    case atStart => exact ⟨0, rfl, ⟨by omega⟩, ⟨by omega⟩, ⟨⟨own_nil _ _ _ _, Below.refl _ _⟩⟩⟩
    case round =>
      obtain ⟨i, rfl, HK, HI, HS⟩ := hrel
      cases gk with
      | zero => exact absurd HK.out (by have := HI.out; omega)
      | succ k1 =>
        by_cases hlt : i < n
        · have hb0 : decide ((i : Int) < (n : Int)) = true := decide_eq_true (by omega)
          have hi64 : (i : Int) < 64 := by omega
          go_wp2_with fail
          with_reducible refine (HCALL.out wr (wrap64 (fr + wrap64 ((i : Int) * st))) HS.out.below).mono ?_
          rintro e w1 ⟨rfl, hb'⟩
          have HS1 := Aside0.mk (HS.out.moved hb')
          clear hb'
          have HSL : Aside0 (lineL fr st fv (i + 1) = lineL fr st fv i ++ [⟨wrap64 (fr + wrap64 ((i : Int) * st)), fl_of (fv (wrap64 (fr + wrap64 ((i : Int) * st))))⟩]) := ⟨rfl⟩
          generalize wrap64 (fr + wrap64 ((i : Int) * st)) = P at HSL ⊢
          generalize fv P = r at HSL ⊢
          obtain ⟨i0, hi0, hz0, hz1, hz2⟩ := info_parts PS.info58
          have HI0 := Aside0.mk hi0
          have HZ0 := Aside0.mk hz0
          have HZ1 := Aside0.mk hz1
          have HZ2 := Aside0.mk hz2
          clear hi0 hz0 hz1 hz2
          go_wp2_with fail
          with_reducible refine (curve_whole.calls r (fl_of r) _ rfl).mono ?_
          rintro e w2 ⟨rfl, ⟨⟨nd, rfl⟩⟩⟩
          have HS2 := Aside0.mk (HS1.out.boxed (.cells #[.int .i64 1, .int .i64 r] 29) nd)
          clear HS1
          generalize (w1.alloc (.cells #[.int .i64 1, .int .i64 r] 29)).drewN nd = w2 at HS2 ⊢
          go_wp2_with (first | (at_builtin; refine wpList_append_own_at _ rfl _ _ 31 rfl w.heap.size 58 i0 (.agg #[.int .i64 0, .float .f32 0]) 2 16 Try.underlying31 HI0.out HZ0.out HZ1.out HZ2.out rfl (by decide) u10 (lineL fr st fv i).length (pntv (lineL fr st fv i)) rfl (HS2.out.out.alloc _) ⟨w2.heap.size, 0, none⟩ 1 1 [.int .i64 P, .float .f32 (fl_of r)] (by first | rfl | simp) rfl (World.news_of_block (cs := #[.int .i64 P, .float .f32 (fl_of r)]) (t := 58) (fr := (0, 0)) (heap_alloc_new w2 _)) (by simp [Value.oneCell']) (by have := lineL_len fr st fv i; unfold maxLen; omega) (by have := lineL_len fr st fv i; omega) (by simp; have := HS2.out.below.size; omega) ?_; intro v1 w3 hown3 hgrow3 _ hat3))
          go_roundg k1
          case measure => omega
          case rel =>
            have hbb : Below w.heap.size w w3 := (HS2.out.below.alloc HS2.out.below.size _).grown hgrow3 (Nat.le_trans HS2.out.below.size (by simp)) (fun k hk => own_base HS2.out.out k hk)
            refine ⟨i + 1, by simp, ⟨by have := HK.out; omega⟩, ⟨by omega⟩, ⟨⟨?_, hbb⟩⟩⟩
            rw [HSL.out, List.length_append, pntv_snoc]
            exact hown3
        · obtain rfl : i = n := by have := HI.out; omega
          have hb0 : decide ((i : Int) < (i : Int)) = false := decide_eq_false (by omega)
          go_wp2
          go_ret2
          exact ⟨_, rfl, HS.out⟩)
end Go.Proofs.Ytfhgomcfpmbhnaa.Y
end

section
namespace Go.Proofs.Ytfhgomcfpmbhnaa.F
open Go Ieee
theorem cutE_mono (n n' d : Nat) (h : n ≤ n') : cutE n d ≤ cutE n' d := by
  unfold cutE
  have hp : 0 < 2 ^ d := Nat.two_pow_pos d
  generalize 2 ^ d = p at hp
  have h1 : n / p ≤ n' / p := Nat.div_le_div_right h
  by_cases he : n / p = n' / p
  · have e1 := Nat.div_add_mod n p
    have e2 := Nat.div_add_mod n' p
    rw [he] at e1 ⊢
    have h2 : n % p ≤ n' % p := by omega
    split <;> split <;> omega
  · split <;> split <;> omega
def rung (m : Nat) (e : Int) : Nat := if m = 0 then 0 else (lastP m e + 149).toNat * 8388608 + keptN m e
theorem rung_mono (m m' : Nat) (e : Int) (h : m ≤ m') : rung m e ≤ rung m' e := by
  unfold rung
  by_cases h0 : m = 0
  · rw [if_pos h0]; exact Nat.zero_le _
  · have h0' : m' ≠ 0 := by omega
    rw [if_neg h0, if_neg h0']
    have hl : m.log2 ≤ m'.log2 := by
      have := (Nat.le_log2 h0').2 (Nat.le_trans (Nat.log2_self_le h0) h)
      exact this
    obtain ⟨a1, a2, a3⟩ := kept_le m e h0
    obtain ⟨b1, b2, b3⟩ := kept_le m' e h0'
    have hp : lastP m e ≤ lastP m' e := by unfold lastP; omega
    by_cases hq : lastP m e = lastP m' e
    · have : keptN m e ≤ keptN m' e := by
        unfold keptN
        rw [hq]
        exact cutE_mono _ _ _ (Nat.mul_le_mul_right _ h)
      rw [hq]
      omega
    · have hk : 8388608 ≤ keptN m' e := by
        rcases Nat.lt_or_ge (keptN m' e) 8388608 with hlt | hge
        · have := b2 hlt
          omega
        · exact hge
      have : (lastP m e + 149).toNat + 1 ≤ (lastP m' e + 149).toNat := by omega
      omega
theorem nearest_rung (s : Bool) (m : Nat) (e : Int) (hm : m ≠ 0) : single.nearest s m e = single.word s (min (rung m e) 2139095040) := by
  rw [nearest_is s m e hm]
  unfold rung
  rw [if_neg hm]
end Go.Proofs.Ytfhgomcfpmbhnaa.F
end

section
namespace Go.Proofs.Ytfhgomcfpmbhnaa.F
open Go Ieee
theorem cut_zero (neg : Bool) (n d : Nat) : Toward.zero.cut neg n d = n / 2 ^ d := by
  unfold Toward.cut
  simp only [shl_one]
  by_cases h : d ≤ n.log2 + 2
  · rw [Nat.min_eq_left h]
    simp
  · rw [Nat.min_eq_right (by omega)]
    have h1 : n < 2 ^ (n.log2 + 2) := by
      rcases Nat.eq_zero_or_pos n with rfl | hn
      · exact Nat.two_pow_pos _
      · exact Nat.lt_of_lt_of_le (Nat.lt_log2_self) (Nat.pow_le_pow_right (by omega) (by omega))
    have h2 : n < 2 ^ d := Nat.lt_of_lt_of_le h1 (Nat.pow_le_pow_right (by omega) (by omega))
    rw [Nat.div_eq_of_lt h1, Nat.div_eq_of_lt h2]
    simp
def wholeN (x : Nat) : Nat := mX x * 2 ^ (eX x).toNat / 2 ^ (-eX x).toNat
theorem toInt_is (x : Nat) (h : x < 4294967296) (hf : x % 2147483648 < 2139095040) (hs : sX x = false) : (FloatKind.f32.decode x).toInt .zero = some ((wholeN x : Nat) : Int) := by
  have e : FloatKind.f32.decode x = single.read x := rfl
  rw [e, read_fin x h hf, hs]
  unfold Datum.toInt Datum.integral
  simp only []
  rw [cut_zero, Nat.shiftLeft_eq]
  unfold wholeN
  simp [signed]
end Go.Proofs.Ytfhgomcfpmbhnaa.F
end

section
namespace Go.Proofs.Ytfhgomcfpmbhnaa.F
open Go Ieee
set_option linter.unusedVariables false
set_option linter.unusedSimpArgs false
theorem nearest_units (s : Bool) (r : Nat) (hr : r < 2139095040) : single.nearest s (units r) (-149) = single.word s r := by
  unfold units
  by_cases h : r / 8388608 = 0
  · rw [if_pos h, Nat.mod_eq_of_lt (by omega)]
    by_cases h0 : r = 0
    · rw [h0, nearest_zero]
    · rw [nearest_is s r _ h0]
      have hl : r.log2 < 23 := (Nat.log2_lt h0).2 (by omega)
      have hp : lastP r (-149) = -149 := by unfold lastP; omega
      have hk : keptN r (-149) = r := by
        unfold keptN
        rw [hp]
        show cutE (r * 2 ^ 0) 0 = r
        rw [cutE_zero, Nat.pow_zero, Nat.mul_one]
      rw [hp, hk]
      refine congrArg (single.word s) ?_
      show min (0 * 8388608 + r) 2139095040 = r
      omega
  · rw [if_neg h]
    obtain ⟨q, hq⟩ : ∃ q, r / 8388608 = q + 1 := ⟨r / 8388608 - 1, by omega⟩
    rw [hq, Nat.add_sub_cancel]
    have hm : r % 8388608 + 8388608 ≠ 0 := by omega
    have e := nearest_scale s (r % 8388608 + 8388608) q ((q : Int) - 149)
    rw [show (q : Int) - 149 - (q : Int) = -149 by omega] at e
    rw [e, nearest_is s _ _ hm]
    have hl : (r % 8388608 + 8388608).log2 = 23 := log2_23 _ (by omega) (by omega)
    have hp : lastP (r % 8388608 + 8388608) ((q : Int) - 149) = (q : Int) - 149 := by unfold lastP; rw [hl]; omega
    have hk : keptN (r % 8388608 + 8388608) ((q : Int) - 149) = r % 8388608 + 8388608 := by
      unfold keptN
      rw [hp, Int.sub_self]
      show cutE ((r % 8388608 + 8388608) * 2 ^ 0) 0 = _
      rw [cutE_zero, Nat.pow_zero, Nat.mul_one]
    rw [hp, hk]
    refine congrArg (single.word s) ?_
    rw [show ((q : Int) - 149 + 149).toNat = q by omega]
    have hd := Nat.div_add_mod r 8388608
    rw [hq] at hd
    have hmin : q * 8388608 + (r % 8388608 + 8388608) = r := by
      generalize r % 8388608 = z at *
      omega
    rw [hmin]
    exact Nat.min_eq_left (Nat.le_of_lt hr)
def valI (x : Nat) : Int := pm (sX x) (units (x % 2147483648))
theorem valI_lt (x y : Nat) (hx : x < 4294967296) (hy : y < 4294967296) : valI x < valI y ↔ ordI x < ordI y := by
  rw [ordI_pm x hx, ordI_pm y hy]
  exact pm_lt _ _ _ _
theorem valI_opp (y : Nat) (hy : y < 4294967296) : valI (opp y) = - valI y := by
  unfold valI
  rw [opp_sign y hy, opp_mod y hy]
  cases sX y <;> simp [pm]
theorem add_units (x y : Nat) (hx : x < 4294967296) (hy : y < 4294967296) (fx : x % 2147483648 < 2139095040) (fy : y % 2147483648 < 2139095040) :
    single.add x y = some (if valI x + valI y = 0 then single.word (sX x && sX y) 0 else single.nearest (decide (valI x + valI y < 0)) (valI x + valI y).natAbs (-149)) := by
  unfold Format.add
  rw [read_fin x hx fx, read_fin y hy fy]
  have hsum : (Datum.number (sX x) (mX x) (eX x)).sum (Datum.number (sX y) (mX y) (eX y)) = some (sumD (sX x) (mX x) (eX x) (sX y) (mX y) (eX y)) := rfl
  rw [hsum]
  refine congrArg some ?_
  obtain ⟨i0, i1⟩ := e_in x fx
  obtain ⟨j0, j1⟩ := e_in y fy
  obtain ⟨k, hk⟩ : ∃ k : Nat, min (eX x) (eX y) = (k : Int) - 149 := ⟨(min (eX x) (eX y) + 149).toNat, by omega⟩
  have ex : signed (sX x) (mX x) (eX x - min (eX x) (eX y)).toNat * ((2 ^ k : Nat) : Int) = valI x := by
    unfold valI
    rw [signed_pm, pm_mul, Nat.mul_assoc, ← Nat.pow_add, ← units_is x fx]
    congr 3
    omega
  have ey : signed (sX y) (mX y) (eX y - min (eX x) (eX y)).toNat * ((2 ^ k : Nat) : Int) = valI y := by
    unfold valI
    rw [signed_pm, pm_mul, Nat.mul_assoc, ← Nat.pow_add, ← units_is y fy]
    congr 3
    omega
  unfold sumD Format.write
  simp only []
  generalize hA : signed (sX x) (mX x) (eX x - min (eX x) (eX y)).toNat = A at *
  generalize hB : signed (sX y) (mX y) (eX y - min (eX x) (eX y)).toNat = B at *
  have hp : (0 : Int) < ((2 ^ k : Nat) : Int) := by have : 0 < 2 ^ k := Nat.pow_pos (by decide); omega
  have hs : (A + B) * ((2 ^ k : Nat) : Int) = valI x + valI y := by rw [Int.add_mul, ex, ey]
  rw [← hs]
  by_cases h0 : A + B = 0
  · rw [h0, if_pos rfl, Int.zero_mul, if_pos rfl]
    show single.nearest _ 0 _ = _
    rw [nearest_zero]
  · rw [if_neg h0, if_neg (fun h => h0 (by rcases Int.mul_eq_zero.1 h with h | h; exact h; omega))]
    have e := nearest_scale (decide (A + B < 0)) (A + B).natAbs k (min (eX x) (eX y))
    rw [show min (eX x) (eX y) - (k : Int) = -149 by omega] at e
    rw [← e, Int.natAbs_mul, Int.natAbs_natCast]
    congr 1
    have : (A + B) * ((2 ^ k : Nat) : Int) < 0 ↔ A + B < 0 := by
      constructor
      · intro h
        by_cases h1 : A + B < 0
        · exact h1
        · have := Int.mul_nonneg (show 0 ≤ A + B by omega) (Int.le_of_lt hp)
          omega
      · intro h
        exact Int.mul_neg_of_neg_of_pos h hp
    rw [Bool.eq_iff_iff]
    simp only [decide_eq_true_eq]
    exact this.symm
theorem sub_units (x y : Nat) (hx : x < 4294967296) (hy : y < 4294967296) (fx : x % 2147483648 < 2139095040) (fy : y % 2147483648 < 2139095040) :
    single.sub x y = some (if valI x - valI y = 0 then single.word (sX x && !sX y) 0 else single.nearest (decide (valI x - valI y < 0)) (valI x - valI y).natAbs (-149)) := by
  rw [sub_add x y hy, add_units x (opp y) hx (opp_lt y hy) fx (by rw [opp_mod y hy]; exact fy), valI_opp y hy, opp_sign y hy, ← Int.sub_eq_add_neg]
theorem word_false (r : Nat) : single.word false r = r := rfl
theorem nearest_pos (s : Bool) (m : Nat) (hm : m ≠ 0) : ∃ r, 0 < r ∧ r ≤ 2139095040 ∧ single.nearest s m (-149) = single.word s r := by
  have e1 := nearest_units false 1 (by decide)
  rw [show units 1 = 1 by decide, nearest_rung false 1 (-149) (by decide), word_false, word_false] at e1
  have e2 := rung_mono 1 m (-149) (by omega)
  exact ⟨min (rung m (-149)) 2139095040, by omega, by omega, nearest_rung s m _ hm⟩
theorem word_at (s : Bool) (r : Nat) (h : r ≤ 2139095040) : single.word s r < 4294967296 ∧ single.word s r % 2147483648 = r ∧ sX (single.word s r) = s := by
  have hw : single.word s r = (if s then 2147483648 + r else r) := by unfold Format.word; rw [k1]
  refine ⟨by rw [hw]; split <;> omega, by rw [hw]; split <;> omega, ?_⟩
  rw [hw]; unfold sX; cases s
  · rw [if_neg (by decide)]; exact decide_eq_false (by omega)
  · rw [if_pos rfl]; exact decide_eq_true (by omega)
theorem mul_units (x y : Nat) (hx : x < 4294967296) (hy : y < 4294967296) (fx : x % 2147483648 < 2139095040) (fy : y % 2147483648 < 2139095040) :
    single.mul x y = some (single.nearest (sX x ^^ sX y) (units (x % 2147483648) * units (y % 2147483648)) (-149 - ((149 : Nat) : Int))) := by
  rw [mul_ieee x y hx hy fx fy]
  refine congrArg some ?_
  obtain ⟨i0, i1⟩ := e_in x fx
  obtain ⟨j0, j1⟩ := e_in y fy
  rw [← units_is x fx, ← units_is y fy]
  have e := nearest_scale (sX x ^^ sX y) (mX x * mX y) ((eX x + 149).toNat + (eX y + 149).toNat) (eX x + eX y)
  rw [show eX x + eX y - (((eX x + 149).toNat + (eX y + 149).toNat : Nat) : Int) = -149 - ((149 : Nat) : Int) by omega] at e
  rw [← e, Nat.pow_add]
  congr 1
  ac_rfl
theorem mX_zero (x : Nat) (fx : x % 2147483648 < 2139095040) : mX x = 0 ↔ x % 2147483648 = 0 := by
  unfold mX
  split <;> omega
theorem div_le_one (x y : Nat) (hx : x < 4294967296) (hy : y < 4294967296) (fy : y % 2147483648 < 2139095040) (hm : y % 2147483648 ≠ 0) (h : x % 2147483648 ≤ y % 2147483648) :
    ∃ r, r ≤ 1065353216 ∧ single.div x y = some (single.word (sX x ^^ sX y) r) ∧ (x % 2147483648 = 0 → r = 0) := by
  have fx : x % 2147483648 < 2139095040 := by omega
  have hb : mX y ≠ 0 := fun e => hm ((mX_zero y fy).1 e)
  unfold Format.div
  rw [read_fin x hx fx, read_fin y hy fy]
  by_cases h0 : x % 2147483648 = 0
  · rw [(mX_zero x fx).2 h0, quo_zero _ _ _ _ _ hb]
    exact ⟨0, by decide, rfl, fun _ => rfl⟩
  · have ha : mX x ≠ 0 := fun e => h0 ((mX_zero x fx).1 e)
    rw [div_ieee _ _ _ _ _ _ hb]
    obtain ⟨i0, i1⟩ := e_in x fx
    obtain ⟨j0, j1⟩ := e_in y fy
    have hu : mX x * 2 ^ (eX x + 149).toNat ≤ mX y * 2 ^ (eX y + 149).toNat := by
      rw [units_is x fx, units_is y fy]
      rcases Nat.lt_or_ge (x % 2147483648) (y % 2147483648) with h1 | h1
      · exact Nat.le_of_lt (units_lt _ _ h1)
      · rw [show x % 2147483648 = y % 2147483648 by omega]; exact Nat.le_refl _
    have ux := log2_scale (mX x) (eX x + 149).toNat ha
    have uy := log2_scale (mX y) (eX y + 149).toNat hb
    have hl : (mX x).log2 + (eX x + 149).toNat ≤ (mX y).log2 + (eX y + 149).toNat := by
      rw [← ux, ← uy]
      have hn : mX y * 2 ^ (eX y + 149).toNat ≠ 0 := Nat.mul_ne_zero hb (Nat.ne_of_gt (Nat.two_pow_pos _))
      exact (Nat.le_log2 hn).2 (Nat.le_trans (Nat.log2_self_le (Nat.mul_ne_zero ha (Nat.ne_of_gt (Nat.two_pow_pos _)))) hu)
    have la : (mX x).log2 < 24 := (Nat.log2_lt ha).2 (m_lt x)
    have lb : (mX y).log2 < 24 := (Nat.log2_lt hb).2 (m_lt y)
    generalize hi : (eX x + 149).toNat = i at *
    generalize hj : (eX y + 149).toNat = j at *
    rw [show eX x = (i : Int) - 149 by omega, show eX y = (j : Int) - 149 by omega]
    generalize mX x = a at *
    generalize mX y = b at *
    obtain ⟨k, hk⟩ : ∃ k, 25 + b.log2 - a.log2 = k := ⟨_, rfl⟩
    rw [hk, Nat.shiftLeft_eq]
    obtain ⟨p, hp⟩ : ∃ p, j + k = i + p := ⟨j + k - i, by omega⟩
    have hq : a * 2 ^ k ≤ b * 2 ^ p := by
      have h1 : a * 2 ^ i * 2 ^ k ≤ b * 2 ^ j * 2 ^ k := Nat.mul_le_mul_right _ hu
      rw [Nat.mul_assoc b, ← Nat.pow_add, hp, Nat.pow_add, Nat.mul_right_comm a, ← Nat.mul_assoc b, Nat.mul_right_comm b] at h1
      exact Nat.le_of_mul_le_mul_right h1 (Nat.two_pow_pos _)
    have hA0 : a * 2 ^ k ≠ 0 := Nat.mul_ne_zero ha (Nat.ne_of_gt (Nat.two_pow_pos _))
    generalize a * 2 ^ k = A at *
    have hA := Nat.div_add_mod A b
    have hbp : 0 < b := Nat.pos_of_ne_zero hb
    have hM := Nat.mod_lt A hbp
    have h2 : A / b ≤ 2 ^ p := (Nat.div_le_iff_le_mul_add_pred hbp).2 (by omega)
    have h3 : 2 * (A / b) + (A % b != 0).toNat ≤ 2 ^ (p + 1) := by
      rw [Nat.pow_succ]
      have hc : (A % b != 0).toNat ≤ 1 := Bool.toNat_le _
      by_cases h4 : A / b = 2 ^ p
      · rw [h4] at hA
        have h5 : A % b = 0 := by omega
        rw [h5, h4]
        show 2 * 2 ^ p + 0 ≤ _
        omega
      · omega
    have e : (i : Int) - 149 - ((j : Int) - 149) - (k : Int) - 1 = -((p + 1 : Nat) : Int) := by omega
    rw [e]
    have hr := rung_mono _ _ (-((p + 1 : Nat) : Int)) h3
    have e1 := nearest_scale false 1 (p + 1) 0
    rw [Nat.one_mul, nearest_rung false (2 ^ (p + 1)) _ (Nat.ne_of_gt (Nat.two_pow_pos _)), show (0 : Int) - ((p + 1 : Nat) : Int) = -((p + 1 : Nat) : Int) by omega, show single.nearest false 1 0 = 1065353216 by decide +kernel, word_false] at e1
    have hne : 2 * (A / b) + (A % b != 0).toNat ≠ 0 := by
      intro h6
      have h7 : A / b = 0 := by omega
      have h8 : A < b := by
        rcases Nat.lt_or_ge A b with h | h
        · exact h
        · have := Nat.div_pos h hbp
          omega
      have h9 : A % b = A := Nat.mod_eq_of_lt h8
      have h10 : (A % b != 0).toNat = 0 := by omega
      have h11 : A % b = 0 := by
        by_cases h12 : A % b = 0
        · exact h12
        · have : (A % b != 0) = true := by simpa using h12
          rw [this] at h10
          exact absurd h10 (by decide)
      omega
    refine ⟨min (rung (2 * (A / b) + (A % b != 0).toNat) (-((p + 1 : Nat) : Int))) 2139095040, by omega, congrArg some (nearest_rung _ _ _ hne), fun h => absurd h h0⟩
theorem whole_units (x : Nat) (fx : x % 2147483648 < 2139095040) : wholeN x = units (x % 2147483648) / 2 ^ 149 := by
  unfold wholeN
  obtain ⟨i0, i1⟩ := e_in x fx
  rw [← units_is x fx]
  by_cases h : 0 ≤ eX x
  · obtain ⟨n, hn⟩ : ∃ n : Nat, eX x = n := ⟨(eX x).toNat, by omega⟩
    rw [hn, show (-(n : Int)).toNat = 0 by omega, show ((n : Int) + 149).toNat = n + 149 by omega, Nat.pow_zero, Nat.div_one, Nat.pow_add, ← Nat.mul_assoc, Nat.mul_div_cancel _ (Nat.two_pow_pos _)]
    rfl
  · obtain ⟨n, hn⟩ : ∃ n : Nat, eX x = -(n : Int) := ⟨(-eX x).toNat, by omega⟩
    obtain ⟨q, hq⟩ : ∃ q, 149 = q + n := ⟨149 - n, by omega⟩
    rw [hn, show (-(n : Int)).toNat = 0 by omega, show (-(n : Int) + 149).toNat = q by omega, show (-(-(n : Int))).toNat = n by omega, Nat.pow_zero, Nat.mul_one, hq, Nat.pow_add, Nat.mul_comm (2 ^ q), Nat.mul_div_mul_right _ _ (Nat.two_pow_pos _)]
theorem units_le (a b : Nat) (h : a ≤ b) : units a ≤ units b := by
  rcases Nat.lt_or_ge a b with h1 | h1
  · exact Nat.le_of_lt (units_lt _ _ h1)
  · rw [show a = b by omega]; exact Nat.le_refl _
theorem whole_le (x y : Nat) (fy : y % 2147483648 < 2139095040) (h : x % 2147483648 ≤ y % 2147483648) : wholeN x ≤ wholeN y := by
  rw [whole_units x (by omega), whole_units y fy]
  exact Nat.div_le_div_right (units_le _ _ h)
end Go.Proofs.Ytfhgomcfpmbhnaa.F
end

section
namespace Go.Proofs.Ytfhgomcfpmbhnaa.Y
open Go Go.RowKit Go.Proofs.Ytfhgomcfpmbhnaa.PS Go.Proofs.Ytfhgomcfpmbhnaa.F Go.Proofs.YtfhgomcfpmbhnaaW.PrintWords Go.Proofs.YtfhgomcfpmbhnaaW.PrintMore Go.Proofs.YtfhgomcfpmbhnaaW.Fits
set_option linter.unusedVariables false
set_option maxRecDepth 100000
def BadStep (fr st n : Int) : Prop := st < 1 ∨ fr < -9999999999999 ∨ 9999999999999 < fr ∨ (1 < n ∧ (9999999999999 - fr) / (n - 1) < st)
instance (fr st n : Int) : Decidable (BadStep fr st n) := inferInstanceAs (Decidable (_ ∨ _))
end Go.Proofs.Ytfhgomcfpmbhnaa.Y
end

section
namespace Go.Proofs.Ytfhgomcfpmbhnaa.Y
open Go Go.RowKit Go.Proofs.Ytfhgomcfpmbhnaa.PS Go.Proofs.Ytfhgomcfpmbhnaa.F Go.Proofs.YtfhgomcfpmbhnaaW.PrintWords Go.Proofs.YtfhgomcfpmbhnaaW.PrintMore Go.Proofs.YtfhgomcfpmbhnaaW.Fits
attribute [local go_sem] frun_add frun_sub frun_mul frun_quo frun_neg frun_of frun_same frun_store frun_bits frun_from
set_option linter.unusedVariables false
set_option maxRecDepth 100000
theorem whole_quiet (x : Int) (W : World) (n : Nat) : Calls Try.prog 33 #[.int .i64 x] (W.drewN n) fun e w'' => e = .returned (.float .f32 (fl_of x)) ∧ ∃ m, w'' = W.drewN m := by
  refine (curve_whole.calls x (fl_of x) _ rfl).mono ?_
  rintro e w' ⟨rfl, ⟨⟨nd, hnd⟩⟩⟩
  exact ⟨rfl, n + nd, by rw [hnd, World.drewN_drewN]⟩
theorem frun_int (w : World) (x : Nat) (n : Int) (h : (FloatKind.f32.decode x).toInt .zero = some n) (h0 : 0 ≤ n) (h1 : n ≤ 1000) : (convert 56 3 (.float .f32 x)).run Try.prog w = .ok (.int .i64 n) w := by
  have hm : IntKind.i64.min ≤ n ∧ n ≤ IntKind.i64.max := ⟨Int.le_trans (by decide) h0, Int.le_trans h1 (by decide)⟩
  simp [convert, run_underlying Try.underlying3, run_underlying Try.underlying56, Conv.floatToInt, go_sem, h, hm]
  intro h2
  omega
set_option maxHeartbeats 4000000 in
theorem row_zero (a b y : Nat) (h : Int) (w : World) (hb : (FloatKind.f32.format.order b 0 == some Ordering.eq) = true) :
    Calls Try.prog 51 #[.agg #[.float .f32 a, .float .f32 b, .int .i64 h], .float .f32 y] w (fun e w' => e = .returned (.int .i64 0) ∧ Below w.heap.size w w') := by
  go_enter Try.func51, Try.ntmps51
  go_wp2_with fail
  go_ret
  exact ⟨rfl, (Below.refl _ _).alloc (Nat.le_refl _) _⟩
set_option maxHeartbeats 4000000 in
theorem row_calls (a b y : Nat) (h : Int) (w : World) (hb : (FloatKind.f32.format.order b 0 == some Ordering.eq) = false) (h1 : 1 ≤ h) (h2 : h ≤ 1000) (k1 : fk_sub y a = true) (k2 : fk_quo (fl_sub y a) b = true) (k3 : fk_mul (fl_quo (fl_sub y a) b) (fl_of (h - 1)) = true) (k4 : fk_add (fl_mul (fl_quo (fl_sub y a) b) (fl_of (h - 1))) 1056964608 = true)
    (n : Int) (hn : (FloatKind.f32.decode (fl_add (fl_mul (fl_quo (fl_sub y a) b) (fl_of (h - 1))) 1056964608)).toInt .zero = some n) (n0 : 0 ≤ n) (n1 : n ≤ 1000) :
    Calls Try.prog 51 #[.agg #[.float .f32 a, .float .f32 b, .int .i64 h], .float .f32 y] w (fun e w' => e = .returned (.int .i64 n) ∧ Below w.heap.size w w') := by
  have HB := Aside0.mk ((Below.refl w.heap.size w).alloc (Nat.le_refl _) (.cells #[.float .f32 a, .float .f32 b, .int .i64 h] 92))
  have hbk := blk_new w (.cells #[.float .f32 a, .float .f32 b, .int .i64 h] 92)
  have g0 : (w.alloc (.cells #[.float .f32 a, .float .f32 b, .int .i64 h] 92)).cell? ⟨w.heap.size, 0, none⟩ = some (.float .f32 a) := (blk_cell hbk 0).trans rfl
  have g1 : (w.alloc (.cells #[.float .f32 a, .float .f32 b, .int .i64 h] 92)).cell? ⟨w.heap.size, 1, none⟩ = some (.float .f32 b) := (blk_cell hbk 1).trans rfl
  have g2 : (w.alloc (.cells #[.float .f32 a, .float .f32 b, .int .i64 h] 92)).cell? ⟨w.heap.size, 2, none⟩ = some (.int .i64 h) := (blk_cell hbk 2).trans rfl
  clear hbk
  have hw : IntKind.i64.wrap (h - 1) = h - 1 := by rw [IntKind.wrap_i64]; omega
  go_enter Try.func51, Try.ntmps51
  go_wp2_with fail
  go_quiet ((go_at_call 33; exact whole_quiet _ _ _))
  have HBQ := Aside0.mk (pw_below_drewN HB.out nq)
  clear g0 g1 g2 HB
  generalize (w.alloc (.cells #[.float .f32 a, .float .f32 b, .int .i64 h] 92)).drewN nq = wq at HBQ ⊢
  have hi := frun_int wq _ n hn n0 n1
  have ha := frun_add (P := Try.prog) (t := 56) (w := wq) k4
  go_upto_region 4 with (fail)
  apply wp_region_lit
  refine Kd.event_run rfl rfl ?_
  refine Kd.event_run (v := .float .f32 (fl_add (fl_mul (fl_quo (fl_sub y a) b) (fl_of (h - 1))) 1056964608)) (w1 := wq) rfl (by go_simp) ?_
  refine Kd.event_run (v := .int .i64 n) (w1 := wq) rfl (by go_simp) ?_
  refine Kd.event_run rfl rfl ?_
  apply wpList_nil
  go_simp
  go_wp2_with fail
  go_ret
  exact ⟨rfl, HBQ.out⟩
end Go.Proofs.Ytfhgomcfpmbhnaa.Y
end

-- Part 8 of the texts of the claim SA (wrote by programs: words of the kit's print.sh, printed functions; and my own texts; joined by wip/tools/pack.py).
import Derived.Test.YtnjhjaifmgjljaaDoorSA7
import Derived.RangeFuncNested
import Derived.RangeFuncBound
import Derived.RangeFuncCalls
import Derived.RangeFuncLeaves
import Derived.Shelf.Abstract
import Derived.Shelf.RegionOpen
import Derived.OwnWalkIn
import Derived.TacticsInMore
import Derived.LoopNIn
import Derived.LoopIn

section
namespace Go.Proofs.YtnjhjaifmgjljaaDoor.Y
open Go.RowKit Go.Shelf
variable {F : Fence} {n : Nat} {P : Program}
def SeqCounts {α : Type} (F : Fence) (n : Nat) (P : Program) (gf : Nat) (fa : Array Value) (encs : α → Array Value) (R : Nat → World → Prop) (step : Nat → World → World) (xs : List α) : Prop :=
  ∀ (l : Nat) (J J₁ Jx : List α → World → Prop) (W : World), (∀ pre W1, J pre W1 → R pre.length W1) → (∀ pre W1, pre.length < xs.length → J pre W1 → J₁ pre (step pre.length W1)) →
    (∀ pre x W1, pre ++ [x] <+: xs → J₁ pre W1 → YieldAt F (n - 1) P l (encs x) W1 fun e W' =>
      (e = .returned (.bool true) ∧ J (pre ++ [x]) W') ∨ (e = .returned (.bool false) ∧ Jx (pre ++ [x]) W')) →
    J [] W →
    CallsIn F n P gf (fa ++ #[.func (.yield l) #[] #[]]) W fun e W' => (∃ v, e = .returned v) ∧ (J xs W' ∨ ∃ pre, pre <+: xs ∧ Jx pre W')
def leftBy {α : Type} (B : Nat) (I : List α → World → Prop) (Ix : Code → List α → World → Prop) (xs : List α) (W : World) : Exit → Act → World → Prop
  | .normal, _, W' => KeepsFrom B W W' ∧ I xs W'
  | .ret, _, W' => KeepsFrom B W W' ∧ Ix .ret xs W'
  | .exit id, _, W' => KeepsFrom B W W' ∧ Ix (.exit id) xs W'
  | .goto t, _, W' => KeepsFrom B W W' ∧ Ix (.goto t) xs W'
  | .panic _, _, _ => False
  | .outgrown, _, _ => False
theorem range_counts {α : Type} {g : Operand} {ps : Array Tmp} {assign body : Code} {Q : Exit → Act → World → Prop} {a : Act} {w : World}
    (hro : F.round = none) (h1 : 1 ≤ n) {gf : Nat} {fa : Array Value} (hg : a.eval g = .func (.func gf) fa #[]) (hFg : F.fn gf) (eg : ∀ args w, (callFunc gf args).run P w = .ok (.enter gf args) w)
    {encs : α → Array Value} {R : Nat → World → Prop} {step : Nat → World → World} {xs : List α} (hseq : SeqCounts F (n - 1) P gf fa encs R step xs) (hstep : ∀ k W, KeepsOthers W (step k W)) (hps : ∀ x, (encs x).size = ps.size)
    (I I₁ : List α → World → Prop) (Ix : Code → List α → World → Prop) (hI : OwnFrom w.heap.size I) (hI₁ : OwnFrom w.heap.size I₁) (hIx : ∀ c, OwnFrom w.heap.size (Ix c))
    (hR : ∀ pre W, I pre W → R pre.length W) (hinc : ∀ pre W, pre.length < xs.length → I pre W → I₁ pre (step pre.length W)) (h0 : I [] w)
    (Ax : α → Act → World → Prop) (hAx : ∀ x a', OwnFrom w.heap.size (fun (_ : Unit) W => Ax x a' W))
    (hassign : ∀ (l : Nat) (pre : List α) (x : α) (W : World) (K : Act → World → Prop), I₁ pre W → (∀ a' W', KeepsFrom w.heap.size W W' → I₁ pre W' → Ax x a' W' → K a' W') →
      assign.wpIn (F.inRound l) (n - 1 - 1) P (Exit.then K (fun _ _ _ => False)) { tmps := (ps.zip (encs x)).foldl (fun t (p, v) => t.setIfInBounds p v) a.tmps, defers := [] } W)
    (hbody : ∀ (l : Nat) (pre : List α) (x : α) (a' : Act) (W : World), pre ++ [x] <+: xs → I₁ pre W → Ax x a' W → body.wpIn (F.inRound l) (n - 1 - 1) P (leftBy w.heap.size I Ix (pre ++ [x]) W) a' W)
    (hdone : ∀ (D : Nat) (W : World), w.heap.size ≤ D → I xs W → W.heap[D]? = some (.deferred (some [])) → Q .normal { a with defers := { target := .collected D, args := #[] } :: a.defers } W)
    (hstop : ∀ (D : Nat) (c : Code) (pre : List α) (W : World), w.heap.size ≤ D → pre <+: xs → Ix c pre W → W.heap[D]? = some (.deferred (some [])) → c.wpIn F n P Q { a with defers := { target := .collected D, args := #[] } :: a.defers } W) :
    (Code.rangeFunc g ps assign body).wpIn F n P Q a w := by
  refine wpIn_rangeFunc ?_
  intro fn hfn
  rw [hro]
  obtain ⟨rec, hrec⟩ : ∃ rec : LoopState → Option Code → Loop, rec = fun st pe => { state := st, pending := pe, fn, tmps := a.tmps, params := ps, assign, body, defers := w.heap.size } := ⟨_, rfl⟩
  obtain ⟨W1, hW1⟩ : ∃ W1, (w.alloc (.deferred (some []))).alloc (.loop (rec .ready none)) = W1 := ⟨_, rfl⟩
  have hL1 : W1.heap[w.heap.size + 1]? = some (.loop (rec .ready none)) := by
    rw [← hW1]; have := World.alloc_heap_new (w.alloc (.deferred (some []))) (.loop (rec .ready none)); rwa [World.size_alloc] at this
  have hK1 : W1.heap[w.heap.size]? = some (.deferred (some [])) := by
    rw [← hW1]; exact (Below.heap_alloc _ _ _ (by simp)).trans (World.alloc_heap_new w _)
  have hI1 : I [] W1 := by rw [← hW1]; exact hI.alloc _ (hI.alloc _ h0)
  refine ⟨w.heap.size + 1, [{ target := .collected w.heap.size, args := #[] }], W1, { target := .fn (.func gf) #[], args := fa ++ #[.func (.yield (w.heap.size + 1)) #[] #[]] }, W1, gf,
    fa ++ #[.func (.yield (w.heap.size + 1)) #[] #[]], W1, ?_, ?_, ?_, ?_, fun _ => h1, ?_⟩
  · rw [← hW1, hrec]; exact run_enterLoop_outer _ _ _ _ _
  · simp only [resolve, hg]
    simp [go_sem]
  · intro f' hf'; simp [Target.leads] at hf'; subst hf'; exact hFg
  · simp [invoke, go_sem, eg]
  · refine (hseq (w.heap.size + 1)
      (fun pre W => I pre W ∧ W.heap[w.heap.size + 1]? = some (.loop (rec .ready none)) ∧ W.heap[w.heap.size]? = some (.deferred (some [])))
      (fun pre W => I₁ pre W ∧ W.heap[w.heap.size + 1]? = some (.loop (rec .ready none)) ∧ W.heap[w.heap.size]? = some (.deferred (some [])))
      (fun pre W => ∃ c, Ix c pre W ∧ W.heap[w.heap.size + 1]? = some (.loop (rec .done (some c))) ∧ W.heap[w.heap.size]? = some (.deferred (some [])))
      W1 (fun pre W h => hR pre W h.1) (fun pre W hlen h => ⟨hinc pre W hlen h.1, (hstep _ W).same _ _ h.2.1 rfl, (hstep _ W).same _ _ h.2.2 rfl⟩) ?_ ⟨hI1, hL1, hK1⟩).mono ?_
    · rintro pre x W hpx ⟨hi, hl, hk⟩
      have hlt : w.heap.size + 1 < W.heap.size := (Array.getElem?_eq_some_iff.1 hl).1
      have hy := run_yield (P := P) (args := encs x) hl (by rw [hrec]; exact hps x)
      rw [hrec] at hy
      refine ⟨fn, _, assign, body, hy, roundIn_of_wpIn hfn (hassign _ pre x W _ hi ?_)⟩
      clear hy
      intro a' Wa hkfa hia hax
      replace hl := hkfa.same _ _ (by omega) hl rfl
      replace hk := hkfa.same _ _ (Nat.le_refl _) hk rfl
      replace hlt : w.heap.size + 1 < Wa.heap.size := (Array.getElem?_eq_some_iff.1 hl).1
      refine ⟨_, run_beginRound hl (by rw [hrec]), ?_⟩
      have hl2 : (Wa.putObj (w.heap.size + 1) (.loop { rec .ready none with state := .busy })).heap[w.heap.size + 1]? = some (.loop { rec .ready none with state := .busy }) := World.putObj_heap_same hlt
      have hk2 : (Wa.putObj (w.heap.size + 1) (.loop { rec .ready none with state := .busy })).heap[w.heap.size]? = some (.deferred (some [])) := (World.putObj_heap_other (by omega)).trans hk
      refine wpIn_mono (hbody _ pre x a' _ hpx (hI₁.putObj _ hia (by omega) hl rfl) ((hAx x a').putObj (s := ()) _ hax (by omega) hl rfl)) ?_
      have fin : ∀ (jump : Option Code) (W3 : World), KeepsFrom w.heap.size (Wa.putObj (w.heap.size + 1) (.loop { rec .ready none with state := .busy })) W3 →
          (Instr.endRound (w.heap.size + 1) jump).run P W3 = .ok (.bool jump.isNone) (W3.putObj (w.heap.size + 1) (.loop (rec (if jump.isNone then .ready else .done) jump))) ∧
          W3.heap[w.heap.size + 1]? = some (.loop { rec .ready none with state := .busy }) ∧
          (W3.putObj (w.heap.size + 1) (.loop (rec (if jump.isNone then .ready else .done) jump))).heap[w.heap.size + 1]? = some (.loop (rec (if jump.isNone then .ready else .done) jump)) ∧
          (W3.putObj (w.heap.size + 1) (.loop (rec (if jump.isNone then .ready else .done) jump))).heap[w.heap.size]? = some (.deferred (some [])) := fun jump W3 hk3 => by
        have hl3 := hk3.same _ _ (by omega) hl2 rfl
        have := run_endRound (P := P) jump hl3
        rw [hrec] at this ⊢
        exact ⟨this, by rw [hrec] at hl3; exact hl3, World.putObj_heap_same (Array.getElem?_eq_some_iff.1 hl3).1, (World.putObj_heap_other (by omega)).trans (hk3.same _ _ (Nat.le_refl _) hk2 rfl)⟩
      rintro e a3 W3 hp
      cases e with
      | normal =>
        obtain ⟨hk3, hi3⟩ := hp
        obtain ⟨hr, hl3, hl4, hk4⟩ := fin none W3 hk3
        exact ⟨_, _, hr, .inl ⟨rfl, hI.putObj _ hi3 (by omega) hl3 rfl, hl4, hk4⟩⟩
      | ret =>
        obtain ⟨hk3, hi3⟩ := hp
        obtain ⟨hr, hl3, hl4, hk4⟩ := fin (some .ret) W3 hk3
        exact ⟨_, _, hr, .inr ⟨rfl, .ret, (hIx _).putObj _ hi3 (by omega) hl3 rfl, hl4, hk4⟩⟩
      | exit id =>
        obtain ⟨hk3, hi3⟩ := hp
        obtain ⟨hr, hl3, hl4, hk4⟩ := fin (some (.exit id)) W3 hk3
        exact ⟨_, _, hr, .inr ⟨rfl, .exit id, (hIx _).putObj _ hi3 (by omega) hl3 rfl, hl4, hk4⟩⟩
      | goto t =>
        obtain ⟨hk3, hi3⟩ := hp
        obtain ⟨hr, hl3, hl4, hk4⟩ := fin (some (.goto t)) W3 hk3
        exact ⟨_, _, hr, .inr ⟨rfl, .goto t, (hIx _).putObj _ hi3 (by omega) hl3 rfl, hl4, hk4⟩⟩
      | panic ch => exact hp.elim
      | outgrown => exact hp.elim
    · rintro e W2 ⟨⟨v, rfl⟩, (⟨hi, hl, hk⟩ | ⟨pre, hSp, c, hi, hl, hk⟩)⟩
      · exact ⟨none, _, by have := run_endLoop (P := P) hl (by rw [hrec]; simp); rw [hrec] at this; exact this, hdone _ _ (Nat.le_refl _) (hI.putObj _ hi (by omega) hl rfl) ((World.putObj_heap_other (by omega)).trans hk)⟩
      · exact ⟨some c, _, by have := run_endLoop (P := P) hl (by rw [hrec]; simp); rw [hrec] at this; exact this, hstop _ c pre _ (Nat.le_refl _) hSp ((hIx c).putObj _ hi (by omega) hl rfl) ((World.putObj_heap_other (by omega)).trans hk)⟩
end Go.Proofs.YtnjhjaifmgjljaaDoor.Y
end

section
namespace Go.Proofs.YtnjhjaifmgjljaaDoor.Y
open Go.RowKit Go.Shelf Go.Proofs.YtnjhjaifmgjljaaDoor.PM Go.Proofs.YtnjhjaifmgjljaaDoorW.PrintWords
attribute [local go_sem] Oper.semAt_some
def Held (gb : Nat) (A : Option Addr) (cap : Nat) (xs : List S23) (k : Nat) (W : World) : Prop :=
  W.heap[gb]? = some (.cells #[.slice A xs.length cap, .int .i64 (k : Int)] 30 (0, 0)) ∧ Kd.C k23 W A xs.length xs
def count (gb k : Nat) (W : World) : World := W.setCell ⟨gb, 1, none⟩ (.int .i64 ((k : Int) + 1))
def enc23 (x : S23) : Array Value := #[.agg #[.int .i64 x.f0, .int .i64 x.f1]]
set_option maxRecDepth 100000 in
set_option maxHeartbeats 2000000 in
theorem all_counts (F : Fence) (n : Nat) (h21 : F.fn 21) (hro : F.round = none) (hn : 1 ≤ n) (gb : Nat) (A : Option Addr) (cap : Nat) (xs : List S23) (hx : xs.length ≤ 1000000) (hne : 0 < xs.length → ∀ ad, A = some ad → ad.block ≠ gb) :
    SeqCounts F n Tryd.prog 21 #[.pointer (some ⟨gb, 0, none⟩)] enc23 (Held gb A cap xs) (count gb) xs := by
  intro l J J₁ Jx W hR hinc hY h0
  refine callsIn_of_wp Tryd.func21 rfl h21 ?_ hro
  simp only [Tryd.ntmps21, List.size_toArray, List.length_cons, List.length_nil, Nat.reduceAdd, Nat.reduceSub, Array.replicate_succ, Array.replicate_zero, List.push_toArray, List.append_toArray, List.nil_append, List.cons_append]
  gi_wp2
  gi_loopw [4] (fun i wr => ∃ k : Nat, k ≤ xs.length ∧ i = .int .i64 k ∧ J (xs.take k) wr) (fun i _ => xs.length - (intOf i).toNat)
  case atStart => exact ⟨0, Nat.zero_le _, rfl, by simpa using h0⟩
  case round =>
    obtain ⟨k, hk, rfl, hJs⟩ := hrel
    have hlen : (xs.take k).length = k := by simp; omega
    obtain ⟨hgb, hL⟩ := hR _ _ hJs
    rw [hlen] at hgb
    have hc0 : wr.cell? ⟨gb, 0, none⟩ = some (.slice A xs.length cap) := by simp [World.cell?, hgb]
    have hc1 : wr.cell? ⟨gb, 1, none⟩ = some (.int .i64 (k : Int)) := by simp [World.cell?, hgb]
    have hf1 : wr.frozen? ⟨gb, 1, none⟩ = false := by simp [World.frozen?, hgb]
    clear hgb
    by_cases hlt : k < xs.length
    · have hJ1 := hinc _ _ (by rw [hlen]; exact hlt) hJs
      rw [hlen] at hJ1
      obtain ⟨ad, e, hx0, hx1⟩ := at_T23 hL (k : Int) (by omega) (by omega)
      have hadb := hne (by omega) ad e
      subst e
      have hpre : xs.take k ++ [rd_T23 xs k] <+: xs := by
        have : xs.take k ++ [rd_T23 xs k] = xs.take (k + 1) := by
          rw [List.take_add_one]
          simp [rd_T23, List.getD_eq_getElem?_getD, List.getElem?_eq_getElem hlt]
        rw [this]; exact List.take_prefix _ _
      obtain ⟨fn, tmps, assign, body, hy, hRd⟩ := hY (xs.take k) (rd_T23 xs k) (count gb k wr) hpre hJ1
      dsimp only [enc23, count] at hy hRd
      have hb0 : decide ((k : Int) < (xs.length : Int)) = true := decide_eq_true (by omega)
      rw [show ((k : Int)).toNat = k from by omega] at hx0 hx1
      have hblk : (ad.add (k * 2)).block = ad.block := by unfold Addr.add; split <;> rfl
      have y0 : (wr.setCell ⟨gb, 1, none⟩ (.int .i64 ((k : Int) + 1))).cell? (ad.add (k * 2)) = some (.int .i64 (rd_T23 xs k).f0) :=
        (World.cell?_setCell_other _ ⟨gb, 1, none⟩ (ad.add (k * 2)) _ (fun h => hadb (by rw [← hblk, ← h]))).trans hx0
      have y1 : (wr.setCell ⟨gb, 1, none⟩ (.int .i64 ((k : Int) + 1))).cell? ⟨(ad.add (k * 2)).block, (ad.add (k * 2)).off + 1, none⟩ = some (.int .i64 (rd_T23 xs k).f1) :=
        (World.cell?_setCell_other _ ⟨gb, 1, none⟩ ⟨(ad.add (k * 2)).block, (ad.add (k * 2)).off + 1, none⟩ _ (fun h => hadb (by rw [← hblk]; exact (congrArg Addr.block h).symm))).trans hx1
      rw [hblk] at hx1
      gi_wp2
      refine hRd.mono ?_
      rintro e W3 (⟨rfl, hJ3⟩ | ⟨rfl, hJx3⟩)
      · gi_wp2
        go_roundw
        case rel =>
          refine ⟨k + 1, by omega, by simp, ?_⟩
          have : xs.take k ++ [rd_T23 xs k] = xs.take (k + 1) := by
            rw [List.take_add_one]
            simp [rd_T23, List.getD_eq_getElem?_getD, List.getElem?_eq_getElem hlt]
          rw [← this]; exact hJ3
        case measure => simp [intOf]; omega
      · gi_wp2
        refine bodyPost_ret (results_none rfl _ _ _) rfl ?_
        exact ⟨⟨_, rfl⟩, .inr ⟨_, hpre, hJx3⟩⟩
    · obtain rfl : k = xs.length := by omega
      have hb0 : decide ((xs.length : Int) < (xs.length : Int)) = false := decide_eq_false (by omega)
      gi_wp2
      go_end0
      exact ⟨⟨_, rfl⟩, .inl (by simpa using hJs)⟩
end Go.Proofs.YtnjhjaifmgjljaaDoor.Y
end

section
namespace Go.Proofs.YtnjhjaifmgjljaaDoor.Y
open Go.RowKit Go.Shelf Go.Proofs.YtnjhjaifmgjljaaDoor.PM Go.Proofs.YtnjhjaifmgjljaaDoorW.PrintWords
structure But (B gb : Nat) (w w' : World) : Prop where
  os : w'.os = w.os
  tape : w'.tape = w.tape
  output : w'.output = w.output
  size : w.heap.size ≤ w'.heap.size
  block : ∀ k, k < B → k ≠ gb → w'.heap[k]? = w.heap[k]?
theorem But.refl (B gb : Nat) (w : World) : But B gb w w := ⟨rfl, rfl, rfl, Nat.le_refl _, fun _ _ _ => rfl⟩
theorem But.trans {B gb : Nat} {a b c : World} (h : But B gb a b) (k : But B gb b c) : But B gb a c :=
  ⟨k.os.trans h.os, k.tape.trans h.tape, k.output.trans h.output, Nat.le_trans h.size k.size, fun i hi hg => (k.block i hi hg).trans (h.block i hi hg)⟩
theorem But.of_below {B gb : Nat} {a b : World} (h : Below B a b) : But B gb a b := ⟨h.os, h.tape, h.output, h.size, fun i hi _ => h.block i hi⟩
theorem But.below {B gb n : Nat} {a b : World} (h : But B gb a b) (h1 : n ≤ B) (h2 : n ≤ gb) : Below n a b := ⟨h.os, h.tape, h.output, h.size, fun i hi => h.block i (by omega) (by omega)⟩
theorem But.setCell {B gb : Nat} (w : World) (p : Addr) (u : Value) (hp : p.block = gb ∨ B ≤ p.block) : But B gb w (w.setCell p u) :=
  ⟨rfl, rfl, rfl, by simp [World.setCell], fun i hi hg => Below.heap_setCell w p u i (by rcases hp with h | h <;> omega)⟩
theorem But.alloc {B gb : Nat} (w : World) (hB : B ≤ w.heap.size) (o : Obj) : But B gb w (w.alloc o) := .of_below ((Below.refl B w).alloc hB o)
theorem But.grown {B gb : Nat} {w w' : World} {row : Option Nat} (hg : w.grownBy w' row) (hB : B ≤ w.heap.size) (hr : ∀ k, row = some k → B ≤ k) : But B gb w w' := .of_below ((Below.refl B w).grown hg hB hr)
theorem C_but {α : Type} {d : Kd α} (hK : ∀ (w w' : World) x cs, d.K w x cs → d.K w' x cs) {w w' : World} {gb : Nat} {A : Option Addr} {n : Nat} {xs : List α} (h : d.C w A n xs) (hb : But w.heap.size gb w w')
    (hne : 0 < n → ∀ ad, A = some ad → ad.block ≠ gb) : d.C w' A n xs :=
  ⟨h.1, h.2.1, fun hn => by
    obtain ⟨ad, e, hc⟩ := h.2.2 hn
    refine ⟨ad, e, fun j p hj => ?_⟩
    obtain ⟨c, hs, hr, hcell⟩ := hc j p hj
    refine ⟨c, hs, hK _ _ _ _ hr, fun i u hu => ?_⟩
    have h1 := hcell i u hu
    have hblk : (ad.add (j * d.sz + i)).block = ad.block := by unfold Addr.add; split <;> rfl
    exact (World.cell?_of_block (hb.block _ (World.block_lt_of_cell? w _ h1) (by rw [hblk]; exact hne hn ad e))).trans h1⟩
theorem k23_flat (w w' : World) (x : S23) (cs : List Value) (h : k23.K w x cs) : k23.K w' x cs := h
theorem k87_flat (w w' : World) (x : S87) (cs : List Value) (h : k87.K w x cs) : k87.K w' x cs := h
theorem heap_count {gb k : Nat} {W : World} {v : Value} {t : TypeId} (h : W.heap[gb]? = some (.cells #[v, .int .i64 (k : Int)] t (0, 0))) : (count gb k W).heap[gb]? = some (.cells #[v, .int .i64 ((k + 1 : Nat) : Int)] t (0, 0)) := by
  simp [count, World.setCell, Array.getElem?_modify, h]
end Go.Proofs.YtnjhjaifmgjljaaDoor.Y
end

section
namespace Go.Proofs.YtnjhjaifmgjljaaDoor.Y
open Go.RowKit Go.Shelf Go.Proofs.YtnjhjaifmgjljaaDoor.PM Go.Proofs.YtnjhjaifmgjljaaDoor.Q Go.Proofs.YtnjhjaifmgjljaaDoorW.PrintWords
set_option linter.unusedVariables false
attribute [local go_sem] Oper.semAt_some
def sumStep (kind h lo : Int) (v : S23) : (Int × Int) ⊕ (Int × Int) :=
  if vld v.f0 v.f1 = false then .inr (6, 5) else if v.f0 = 6 then .inr (v.f0, v.f1) else if v.f0 = 0 then .inl (h, lo) else if v.f0 ≠ kind then .inr (6, 5)
  else if wrap64 (lo + v.f1) ≥ 1000000000000000000 then .inl (wrap64 (h + 1), wrap64 (wrap64 (lo + v.f1) - 1000000000000000000))
  else if wrap64 (lo + v.f1) ≤ -1000000000000000000 then .inl (wrap64 (h - 1), wrap64 (wrap64 (lo + v.f1) + 1000000000000000000)) else .inl (h, wrap64 (lo + v.f1))
def runs (kind : Int) (l : List S23) : Option (Int × Int) :=
  l.foldl (fun s x => s.bind fun st => match sumStep kind st.1 st.2 x with | .inl st' => some st' | .inr _ => none) (some (0, 0))
theorem runs_snoc (kind : Int) (l : List S23) (x : S23) : runs kind (l ++ [x]) = (runs kind l).bind fun st => match sumStep kind st.1 st.2 x with | .inl st' => some st' | .inr _ => none := by
  simp [runs, List.foldl_append]
def fin (kind h lo : Int) : Int × Int := if h ≠ 0 ∧ (h > 1 ∨ h < -1) then (6, 1) else boundS kind (wrap64 (wrap64 (h * 1000000000000000000) + lo))
structure St (w : World) (gb : Nat) (s : Value) (kind h lo : Int) (c : Nat) (W : World) : Prop where
  but : But w.heap.size gb w W
  size : w.heap.size + 4 ≤ W.heap.size
  b2 : W.heap[w.heap.size]? = some (.cells #[.int .i64 kind] 3 (0, 0))
  b4 : W.heap[w.heap.size + 1]? = some (.cells #[.int .i64 0, .int .i64 0] 23 (0, 0))
  b5 : W.heap[w.heap.size + 1 + 1]? = some (.cells #[.int .i64 h] 2 (0, 0))
  b6 : W.heap[w.heap.size + 1 + 1 + 1]? = some (.cells #[.int .i64 lo] 2 (0, 0))
  g : W.heap[gb]? = some (.cells #[s, .int .i64 (c : Int)] 30 (0, 0))
structure Told (w : World) (gb : Nat) (s : Value) (a : Int × Int) (c : Nat) (W : World) : Prop where
  but : But w.heap.size gb w W
  size : w.heap.size + 4 ≤ W.heap.size
  b4 : W.heap[w.heap.size + 1]? = some (.cells #[.int .i64 a.1, .int .i64 a.2] 23 (0, 0))
  g : W.heap[gb]? = some (.cells #[s, .int .i64 (c : Int)] 30 (0, 0))
theorem St.below {w : World} {gb : Nat} {s : Value} {kind h lo : Int} {c : Nat} {W W' : World} (hs : St w gb s kind h lo c W) (hgb : gb < w.heap.size) (hb : Below (w.heap.size + 4) W W') : St w gb s kind h lo c W' :=
  ⟨hs.but.trans (.of_below (hb.mono (by omega))), Nat.le_trans hs.size hb.size, (hb.block _ (by omega)).trans hs.b2, (hb.block _ (by omega)).trans hs.b4, (hb.block _ (by omega)).trans hs.b5, (hb.block _ (by omega)).trans hs.b6, (hb.block _ (by omega)).trans hs.g⟩
theorem kept_cells {W W' : World} {row : Option Nat} {b : Nat} {cs : Array Value} {t : TypeId} {f : Nat × Nat} (h : W.heap[b]? = some (.cells cs t f)) (hg : W.grownBy W' row)
    (hr : ∀ r, row = some r → ∃ o : Obj, W.heap[r]? = some o ∧ o.isCells = false) : W'.heap[b]? = some (.cells cs t f) := by
  refine (hg.block b (Array.getElem?_eq_some_iff.1 h).1 (fun e => ?_)).trans h
  obtain ⟨o, ho, hc⟩ := hr b e.symm
  rw [h] at ho
  cases ho
  simp [Obj.isCells] at hc
theorem St.own {w : World} {gb : Nat} {s : Value} {kind h lo : Int} {c : Nat} {W W' : World} {row : Option Nat} (hs : St w gb s kind h lo c W) (hg : W.grownBy W' row)
    (hr : ∀ r, row = some r → w.heap.size + 4 ≤ r ∧ ∃ o : Obj, W.heap[r]? = some o ∧ o.isCells = false) : St w gb s kind h lo c W' := by
  have hr2 := fun r e => (hr r e).2
  have hb : But w.heap.size gb W W' := But.grown hg (by have := hs.size; omega) (fun k e => by have := (hr k e).1; omega)
  exact ⟨hs.but.trans hb, Nat.le_trans hs.size hb.size, kept_cells hs.b2 hg hr2, kept_cells hs.b4 hg hr2, kept_cells hs.b5 hg hr2, kept_cells hs.b6 hg hr2, kept_cells hs.g hg hr2⟩
theorem Told.own {w : World} {gb : Nat} {s : Value} {a : Int × Int} {c : Nat} {W W' : World} {row : Option Nat} (hs : Told w gb s a c W) (hg : W.grownBy W' row)
    (hr : ∀ r, row = some r → w.heap.size + 4 ≤ r ∧ ∃ o : Obj, W.heap[r]? = some o ∧ o.isCells = false) : Told w gb s a c W' := by
  have hr2 := fun r e => (hr r e).2
  have hb : But w.heap.size gb W W' := But.grown hg (by have := hs.size; omega) (fun k e => by have := (hr k e).1; omega)
  exact ⟨hs.but.trans hb, Nat.le_trans hs.size hb.size, kept_cells hs.b4 hg hr2, kept_cells hs.g hg hr2⟩
theorem St.count {w : World} {gb : Nat} {s : Value} {kind h lo : Int} {c : Nat} {W : World} (hs : St w gb s kind h lo c W) (hgb : gb < w.heap.size) : St w gb s kind h lo (c + 1) (count gb c W) := by
  have ne : ∀ b, b ≠ gb → (Y.count gb c W).heap[b]? = W.heap[b]? := fun b hb => Below.heap_setCell _ _ _ _ hb
  have hb : But w.heap.size gb W (Y.count gb c W) := But.setCell _ _ _ (.inl rfl)
  exact ⟨hs.but.trans hb, Nat.le_trans hs.size hb.size, (ne _ (by omega)).trans hs.b2, (ne _ (by omega)).trans hs.b4, (ne _ (by omega)).trans hs.b5, (ne _ (by omega)).trans hs.b6, heap_count hs.g⟩
theorem cells_at {W : World} {b : Nat} {u : Value} {t : TypeId} (h : W.heap[b]? = some (.cells #[u] t (0, 0))) : W.cell? ⟨b, 0, none⟩ = some u ∧ W.frozen? ⟨b, 0, none⟩ = false := ⟨by simp [World.cell?, h], by simp [World.frozen?, h]⟩
theorem cells_at2 {W : World} {b : Nat} {u v : Value} {t : TypeId} (h : W.heap[b]? = some (.cells #[u, v] t (0, 0))) :
    W.cell? ⟨b, 0, none⟩ = some u ∧ W.cell? ⟨b, 1, none⟩ = some v ∧ W.frozen? ⟨b, 0, none⟩ = false ∧ W.frozen? ⟨b, 1, none⟩ = false := ⟨by simp [World.cell?, h], by simp [World.cell?, h], by simp [World.frozen?, h], by simp [World.frozen?, h]⟩
theorem kf_below {B : Nat} {W W' : World} (hb : Below W.heap.size W W') : KeepsFrom B W W' :=
  ⟨hb.size, fun k o _ hk _ => (hb.block k (Array.getElem?_eq_some_iff.1 hk).1).trans hk⟩
theorem kf_set {B : Nat} (W : World) (p : Addr) (u : Value) : KeepsFrom B W (W.setCell p u) := (KeepsOthers.setCell W p u).from B
theorem set_one {W : World} {b : Nat} {u v : Value} {t : TypeId} (h : W.heap[b]? = some (.cells #[u] t (0, 0))) : (W.setCell ⟨b, 0, none⟩ v).heap[b]? = some (.cells #[v] t (0, 0)) := by
  simp [World.setCell, Array.getElem?_modify, h]
theorem set_two {W : World} {b : Nat} {u v u' v' : Value} {t : TypeId} (h : W.heap[b]? = some (.cells #[u, v] t (0, 0))) : ((W.setCell ⟨b, 0, none⟩ u').setCell ⟨b, 1, none⟩ v').heap[b]? = some (.cells #[u', v'] t (0, 0)) := by
  simp [World.setCell, Array.getElem?_modify, h]
theorem other {W : World} {b : Nat} {p : Addr} {u : Value} {r : Option Obj} (h : W.heap[b]? = r) (hne : b ≠ p.block) : (W.setCell p u).heap[b]? = r := (Below.heap_setCell W p u b hne).trans h
theorem St.tell {w : World} {gb : Nat} {s : Value} {kind h lo : Int} {c : Nat} {W : World} (hs : St w gb s kind h lo c W) (hgb : gb < w.heap.size) (a b : Int) :
    Told w gb s (a, b) c ((W.setCell ⟨w.heap.size + 1, 0, none⟩ (.int .i64 a)).setCell ⟨w.heap.size + 1, 1, none⟩ (.int .i64 b)) :=
  ⟨hs.but.trans ((But.setCell _ _ _ (.inr (by simp only; omega))).trans (But.setCell _ _ _ (.inr (by simp only; omega)))), by have := hs.size; simp [World.setCell]; omega, set_two hs.b4, other (other hs.g (by simp only; omega)) (by simp only; omega)⟩
theorem St.set6 {w : World} {gb : Nat} {s : Value} {kind h lo : Int} {c : Nat} {W : World} (hs : St w gb s kind h lo c W) (hgb : gb < w.heap.size) (v : Int) :
    St w gb s kind h v c (W.setCell ⟨w.heap.size + 1 + 1 + 1, 0, none⟩ (.int .i64 v)) :=
  ⟨hs.but.trans (But.setCell _ _ _ (.inr (by simp only; omega))), by have := hs.size; simp [World.setCell]; omega, other hs.b2 (by simp only; omega), other hs.b4 (by simp only; omega), other hs.b5 (by simp only; omega), set_one hs.b6, other hs.g (by simp only; omega)⟩
theorem St.set5 {w : World} {gb : Nat} {s : Value} {kind h lo : Int} {c : Nat} {W : World} (hs : St w gb s kind h lo c W) (hgb : gb < w.heap.size) (v : Int) :
    St w gb s kind v lo c (W.setCell ⟨w.heap.size + 1 + 1, 0, none⟩ (.int .i64 v)) :=
  ⟨hs.but.trans (But.setCell _ _ _ (.inr (by simp only; omega))), by have := hs.size; simp [World.setCell]; omega, other hs.b2 (by simp only; omega), other hs.b4 (by simp only; omega), set_one hs.b5, other hs.b6 (by simp only; omega), other hs.g (by simp only; omega)⟩
def Round (w : World) (gb : Nat) (kind : Int) (x : S23) (a' : Act) (W : World) : Prop :=
  ∃ (B7 : Nat) (v8 v9 v10 v11 v12 v13 v14 v15 v16 v17 v18 : Value), w.heap.size + 4 ≤ B7 ∧ W.heap[B7]? = some (.cells #[.int .i64 x.f0, .int .i64 x.f1] 23 (0, 0)) ∧
    a' = { tmps := #[.int .i64 kind, .func (.func 21) #[.pointer (some ⟨gb, 0, none⟩)] #[], .pointer (some ⟨w.heap.size, 0, none⟩), undef, .pointer (some ⟨w.heap.size + 1, 0, none⟩), .pointer (some ⟨w.heap.size + 1 + 1, 0, none⟩), .pointer (some ⟨w.heap.size + 1 + 1 + 1, 0, none⟩), .pointer (some ⟨B7, 0, none⟩), v8, v9, v10, v11, v12, v13, v14, v15, v16, v17, v18, .func (.func 21) #[.pointer (some ⟨gb, 0, none⟩)] #[], .agg #[.int .i64 x.f0, .int .i64 x.f1], undef, undef, undef, undef, undef, undef, undef, undef, undef, undef, undef, undef, undef, undef, undef, undef, undef, undef, undef, undef, undef, undef, undef, undef, undef, undef, undef, undef, undef, undef, undef, undef, undef, undef, undef, undef, undef, undef, undef, undef, undef, undef, undef, undef, undef, undef, undef, undef, undef, undef, undef, undef, undef, undef, undef], defers := [] }
end Go.Proofs.YtnjhjaifmgjljaaDoor.Y
end

section
namespace Go.Proofs.YtnjhjaifmgjljaaDoor.Y
open Go.RowKit Go.Shelf Go.Proofs.YtnjhjaifmgjljaaDoor.PM Go.Proofs.YtnjhjaifmgjljaaDoor.Q Go.Proofs.YtnjhjaifmgjljaaDoorW.PrintWords
set_option linter.unusedVariables false
attribute [local go_sem] Oper.semAt_some
set_option maxRecDepth 100000 in
set_option maxHeartbeats 8000000 in
theorem sum_calls (gb : Nat) (A : Option Addr) (cap : Nat) (xs : List S23) (hx : xs.length ≤ 1000000) (kind : Int) (hkind : kind = 1 ∨ kind = 2) (w : World) (hgb : gb < w.heap.size) (hgb0 : 0 < gb)
    (hne : 0 < xs.length → ∀ ad, A = some ad → ad.block ≠ gb) (hh : Held gb A cap xs 0 w) (hg0 : Kd.C k87 w (some ⟨0, 0, none⟩) gtab0.length gtab0) :
    Calls Tryd.prog 22 #[.int .i64 kind, .func (.func 21) #[.pointer (some ⟨gb, 0, none⟩)] #[]] w fun e w' =>
      (∃ h lo, runs kind xs = some (h, lo) ∧ e = .returned (.agg #[.int .i64 (fin kind h lo).1, .int .i64 (fin kind h lo).2]) ∧ But w.heap.size gb w w' ∧ Held gb A cap xs xs.length w') ∨
      (∃ pre x h lo a, pre ++ [x] <+: xs ∧ runs kind pre = some (h, lo) ∧ sumStep kind h lo x = .inr a ∧ e = .returned (.agg #[.int .i64 a.1, .int .i64 a.2]) ∧ But w.heap.size gb w w' ∧ Held gb A cap xs (pre.length + 1) w') := by
  have hnil : ∀ W : World, Sem.run Tryd.prog (binOp BinOp.eql 91 (Value.func (Fn.func 21) #[Value.pointer (some { block := gb, off := 0 })] #[]) Value.nilFunc) W = Result.ok (.bool false) W := fun W => rfl
  have hT : ∀ W, But w.heap.size gb w W → Kd.C k87 W (some ⟨0, 0, none⟩) gtab0.length gtab0 := fun W hb => C_but k87_flat hg0 hb (fun _ ad e => by cases e; simp only; omega)
  have hL : ∀ W, But w.heap.size gb w W → Kd.C k23 W A xs.length xs := fun W hb => C_but k23_flat hh.2 hb hne
  refine (callsIn_wide (n := 8)).1 ?_
  refine callsIn_of_wp_marks Tryd.func22 rfl trivial ?_ rfl
  simp only [Tryd.ntmps22, List.size_toArray, List.length_cons, List.length_nil, Nat.reduceAdd, Nat.reduceSub, Array.replicate_succ, Array.replicate_zero, List.push_toArray, List.append_toArray, List.nil_append, List.cons_append]
  have hks : (kind != 1) = false ∨ ((kind != 1) = true ∧ (kind != 2) = false) := by rcases hkind with h | h <;> subst h <;> decide
  obtain ⟨W0, hW0⟩ : ∃ W0, ((((w.alloc (Obj.cells #[Value.int IntKind.i64 kind] 3)).alloc (Obj.cells #[Value.int IntKind.i64 0, Value.int IntKind.i64 0] 23)).alloc (Obj.cells #[Value.int IntKind.i64 0] 2)).alloc (Obj.cells #[Value.int IntKind.i64 0] 2)) = W0 := ⟨_, rfl⟩
  have hs0 : St w gb (.slice A xs.length cap) kind 0 0 0 W0 := by
    rw [← hW0]
    have o4 : ∀ (W : World) (o : Obj) (b : Nat) (r : Option Obj), b < W.heap.size → W.heap[b]? = r → (W.alloc o).heap[b]? = r := fun W o b r hb h => (Below.heap_alloc W o b hb).trans h
    have n4 : ∀ (W : World) (o : Obj) (b : Nat), W.heap.size = b → (W.alloc o).heap[b]? = some o := fun W o b hb => by subst hb; exact World.alloc_heap_new W o
    refine ⟨?_, by simp, ?_, ?_, ?_, ?_, ?_⟩
    · exact (((But.alloc w (Nat.le_refl _) _).trans (But.alloc _ (by simp) _)).trans (But.alloc _ (by simp; omega) _)).trans (But.alloc _ (by simp; omega) _)
    · exact o4 _ _ _ _ (by simp; omega) (o4 _ _ _ _ (by simp; omega) (o4 _ _ _ _ (by simp) (n4 _ _ _ rfl)))
    · exact o4 _ _ _ _ (by simp) (o4 _ _ _ _ (by simp) (n4 _ _ _ (by simp)))
    · exact o4 _ _ _ _ (by simp) (n4 _ _ _ (by simp))
    · exact n4 _ _ _ (by simp)
    · exact o4 _ _ _ _ (by simp; omega) (o4 _ _ _ _ (by simp; omega) (o4 _ _ _ _ (by simp; omega) (o4 _ _ _ _ hgb hh.1)))
  have hsz : W0.heap.size = w.heap.size + 4 := by rw [← hW0]; simp
  have hIo : ∀ f : List S23 → Nat, OwnFrom W0.heap.size (fun (pre : List S23) W => ∃ h lo, runs kind pre = some (h, lo) ∧ St w gb (.slice A xs.length cap) kind h lo (f pre) W) :=
    fun f pre W W' row ⟨h, lo, hr, hs⟩ hg hrow => ⟨h, lo, hr, hs.own hg (fun r e => by have := hrow r e; rw [hsz] at this; exact this)⟩
  rcases hks with hk1 | ⟨hk1, hk2⟩
  all_goals gi_wp2
  all_goals (try rw [hW0])
  all_goals
    refine range_counts (xs := xs) rfl (by decide) (gf := 21) (fa := #[.pointer (some ⟨gb, 0, none⟩)]) rfl trivial (enters_of Tryd.func21 (by kernel_rfl) rfl) (all_counts Fence.wide _ trivial rfl (by decide) gb A cap xs hx hne)
      (fun k W => KeepsOthers.setCell _ _ _) (fun _ => rfl)
      (fun pre W => ∃ h lo, runs kind pre = some (h, lo) ∧ St w gb (.slice A xs.length cap) kind h lo pre.length W)
      (fun pre W => ∃ h lo, runs kind pre = some (h, lo) ∧ St w gb (.slice A xs.length cap) kind h lo (pre.length + 1) W)
      (fun c pre W => c = .ret ∧ ∃ init x h lo a, pre = init ++ [x] ∧ runs kind init = some (h, lo) ∧ sumStep kind h lo x = .inr a ∧ Told w gb (.slice A xs.length cap) a (init.length + 1) W)
      (hIo _) (hIo _) (fun c pre W W' row ⟨hc, init, x, h, lo, a, e, hr, hs, ht⟩ hg hrow => ⟨hc, init, x, h, lo, a, e, hr, hs, ht.own hg (fun r e => by have := hrow r e; rw [hsz] at this; exact this)⟩)
      (fun pre W ⟨h, lo, hr, hs⟩ => ⟨hs.g, hL W hs.but⟩) (fun pre W _ ⟨h, lo, hr, hs⟩ => ⟨h, lo, hr, hs.count hgb⟩) ⟨0, 0, rfl, hs0⟩ (Round w gb kind)
      (fun x a' _ W W' row ⟨B7, v8, v9, v10, v11, v12, v13, v14, v15, v16, v17, v18, hB, hc, e⟩ hg hrow => ⟨B7, v8, v9, v10, v11, v12, v13, v14, v15, v16, v17, v18, hB, kept_cells hc hg (fun r e => (hrow r e).2), e⟩) ?_ ?_ ?_ ?_
    · rintro l pre x W K ⟨h, lo, hr, hs⟩ hK
      simp only [enc23]
      gi_wp2
      exact hK _ _ ((KeepsOthers.alloc _ _).from _) ⟨h, lo, hr, hs.below hgb ((Below.refl _ W).alloc hs.size _)⟩ ⟨W.heap.size, _, _, _, _, _, _, _, _, _, _, _, hs.size, World.alloc_heap_new W _, rfl⟩
    · rintro l pre x a' W hpx ⟨h, lo, hr, hs⟩ ⟨B7, v8, v9, v10, v11, v12, v13, v14, v15, v16, v17, v18, hB7, hc7, rfl⟩
      obtain ⟨x0, x1, xf0, xf1⟩ := cells_at2 hc7
      have hsz7 : B7 < W.heap.size := (Array.getElem?_eq_some_iff.1 hc7).1
      by_cases c1 : vld x.f0 x.f1 = false
      · gi_wp2_with (first
          | (refine ⟨trivial, ?_⟩; gi_at_call 18; refine (CallsIn.inRound l (callsIn_wide.2 (money_Valid.calls x.f0 x.f1 false W ((money_valid _ _).trans (by rw [c1])) (hT W hs.but)))).mono ?_; rintro e W2 ⟨rfl, hb2⟩)
          | (refine ⟨trivial, ?_⟩; gi_at_call 59; refine (CallsIn.inRound l (callsIn_wide.2 (money_fault.calls 5 6 5 _ rfl))).mono ?_; rintro e W3 ⟨rfl, hb3⟩; have hs3 := (hs.below hgb (hb2.mono hs.size)).below hgb (hb3.mono (Nat.le_trans hs.size hb2.size)); obtain ⟨k40, k41, k4f, k4g⟩ := cells_at2 hs3.b4))
        exact ⟨((kf_below hb2).trans (kf_below hb3)).trans ((kf_set _ _ _).trans (kf_set _ _ _)), rfl, pre, x, h, lo, (6, 5), rfl, hr, by unfold sumStep; rw [if_pos c1], hs3.tell hgb 6 5⟩
      · replace c1 : vld x.f0 x.f1 = true := by simpa using c1
        by_cases c2 : x.f0 = 6
        · have c2b : (x.f0 == 6) = true := beq_iff_eq.mpr c2
          have C2 := Aside0.mk c2
          clear c2
          gi_wp2_with (first | (refine ⟨trivial, ?_⟩; gi_at_call 18; refine (CallsIn.inRound l (callsIn_wide.2 (money_Valid.calls x.f0 x.f1 true W ((money_valid _ _).trans (by rw [c1])) (hT W hs.but)))).mono ?_; rintro e W2 ⟨rfl, hb2⟩; have hs2 := hs.below hgb (hb2.mono hs.size); have hc72 := (hb2.block _ hsz7).trans hc7; obtain ⟨y0, y1, yf0, yf1⟩ := cells_at2 hc72; obtain ⟨k2, k2f⟩ := cells_at hs2.b2; obtain ⟨k5, k5f⟩ := cells_at hs2.b5; obtain ⟨k6, k6f⟩ := cells_at hs2.b6; obtain ⟨k40, k41, k4f, k4g⟩ := cells_at2 hs2.b4))
          exact ⟨(kf_below hb2).trans ((kf_set _ _ _).trans (kf_set _ _ _)), rfl, pre, x, h, lo, (x.f0, x.f1), rfl, hr, by unfold sumStep; rw [if_neg (show ¬ vld x.f0 x.f1 = false by rw [c1]; decide), if_pos C2.out], hs2.tell hgb x.f0 x.f1⟩
        · have c2b : (x.f0 == 6) = false := beq_eq_false_iff_ne.mpr c2
          have C2 := Aside0.mk c2
          clear c2
          by_cases c3 : x.f0 = 0
          · have c3b : (x.f0 == 0) = true := beq_iff_eq.mpr c3
            have C3 := Aside0.mk c3
            clear c3
            gi_wp2_with (first | (refine ⟨trivial, ?_⟩; gi_at_call 18; refine (CallsIn.inRound l (callsIn_wide.2 (money_Valid.calls x.f0 x.f1 true W ((money_valid _ _).trans (by rw [c1])) (hT W hs.but)))).mono ?_; rintro e W2 ⟨rfl, hb2⟩; have hs2 := hs.below hgb (hb2.mono hs.size); have hc72 := (hb2.block _ hsz7).trans hc7; obtain ⟨y0, y1, yf0, yf1⟩ := cells_at2 hc72; obtain ⟨k2, k2f⟩ := cells_at hs2.b2; obtain ⟨k5, k5f⟩ := cells_at hs2.b5; obtain ⟨k6, k6f⟩ := cells_at hs2.b6; obtain ⟨k40, k41, k4f, k4g⟩ := cells_at2 hs2.b4))
            exact ⟨kf_below hb2, h, lo, by rw [runs_snoc, hr]; simp only [Option.bind_some]; unfold sumStep; rw [if_neg (show ¬ vld x.f0 x.f1 = false by rw [c1]; decide), if_neg C2.out, if_pos C3.out], by simpa using hs2⟩
          · have c3b : (x.f0 == 0) = false := beq_eq_false_iff_ne.mpr c3
            have C3 := Aside0.mk c3
            clear c3
            by_cases c4 : x.f0 = kind
            · have c4b : (x.f0 != kind) = false := bne_eq_false_iff_eq.mpr c4
              have C4 := Aside0.mk c4
              clear c4
              by_cases c5 : wrap64 (lo + x.f1) ≥ 1000000000000000000
              · have c5b : decide (1000000000000000000 ≤ wrap64 (lo + x.f1)) = true := decide_eq_true c5
                have C5 := Aside0.mk c5
                clear c5
                gi_wp2_with (first | (refine ⟨trivial, ?_⟩; gi_at_call 18; refine (CallsIn.inRound l (callsIn_wide.2 (money_Valid.calls x.f0 x.f1 true W ((money_valid _ _).trans (by rw [c1])) (hT W hs.but)))).mono ?_; rintro e W2 ⟨rfl, hb2⟩; have hs2 := hs.below hgb (hb2.mono hs.size); have hc72 := (hb2.block _ hsz7).trans hc7; obtain ⟨y0, y1, yf0, yf1⟩ := cells_at2 hc72; obtain ⟨k2, k2f⟩ := cells_at hs2.b2; obtain ⟨k5, k5f⟩ := cells_at hs2.b5; obtain ⟨k6, k6f⟩ := cells_at hs2.b6; obtain ⟨k40, k41, k4f, k4g⟩ := cells_at2 hs2.b4))
                exact ⟨(kf_below hb2).trans ((kf_set _ _ _).trans ((kf_set _ _ _).trans (kf_set _ _ _))), _, _, by rw [runs_snoc, hr]; simp only [Option.bind_some]; unfold sumStep; rw [if_neg (show ¬ vld x.f0 x.f1 = false by rw [c1]; decide), if_neg C2.out, if_neg C3.out, if_neg (fun hh => hh C4.out), if_pos C5.out], by rw [List.length_append]; exact ((hs2.set6 hgb _).set5 hgb _).set6 hgb _⟩
              · have c5b : decide (1000000000000000000 ≤ wrap64 (lo + x.f1)) = false := decide_eq_false c5
                have C5 := Aside0.mk c5
                clear c5
                by_cases c6 : wrap64 (lo + x.f1) ≤ -1000000000000000000
                · have c6b : decide (wrap64 (lo + x.f1) ≤ -1000000000000000000) = true := decide_eq_true c6
                  have C6 := Aside0.mk c6
                  clear c6
                  gi_wp2_with (first | (refine ⟨trivial, ?_⟩; gi_at_call 18; refine (CallsIn.inRound l (callsIn_wide.2 (money_Valid.calls x.f0 x.f1 true W ((money_valid _ _).trans (by rw [c1])) (hT W hs.but)))).mono ?_; rintro e W2 ⟨rfl, hb2⟩; have hs2 := hs.below hgb (hb2.mono hs.size); have hc72 := (hb2.block _ hsz7).trans hc7; obtain ⟨y0, y1, yf0, yf1⟩ := cells_at2 hc72; obtain ⟨k2, k2f⟩ := cells_at hs2.b2; obtain ⟨k5, k5f⟩ := cells_at hs2.b5; obtain ⟨k6, k6f⟩ := cells_at hs2.b6; obtain ⟨k40, k41, k4f, k4g⟩ := cells_at2 hs2.b4))
                  exact ⟨(kf_below hb2).trans ((kf_set _ _ _).trans ((kf_set _ _ _).trans (kf_set _ _ _))), _, _, by rw [runs_snoc, hr]; simp only [Option.bind_some]; unfold sumStep; rw [if_neg (show ¬ vld x.f0 x.f1 = false by rw [c1]; decide), if_neg C2.out, if_neg C3.out, if_neg (fun hh => hh C4.out), if_neg (by have := C5.out; omega), if_pos C6.out], by rw [List.length_append]; exact ((hs2.set6 hgb _).set5 hgb _).set6 hgb _⟩
                · have c6b : decide (wrap64 (lo + x.f1) ≤ -1000000000000000000) = false := decide_eq_false c6
                  have C6 := Aside0.mk c6
                  clear c6
                  gi_wp2_with (first | (refine ⟨trivial, ?_⟩; gi_at_call 18; refine (CallsIn.inRound l (callsIn_wide.2 (money_Valid.calls x.f0 x.f1 true W ((money_valid _ _).trans (by rw [c1])) (hT W hs.but)))).mono ?_; rintro e W2 ⟨rfl, hb2⟩; have hs2 := hs.below hgb (hb2.mono hs.size); have hc72 := (hb2.block _ hsz7).trans hc7; obtain ⟨y0, y1, yf0, yf1⟩ := cells_at2 hc72; obtain ⟨k2, k2f⟩ := cells_at hs2.b2; obtain ⟨k5, k5f⟩ := cells_at hs2.b5; obtain ⟨k6, k6f⟩ := cells_at hs2.b6; obtain ⟨k40, k41, k4f, k4g⟩ := cells_at2 hs2.b4))
                  exact ⟨(kf_below hb2).trans (kf_set _ _ _), _, _, by rw [runs_snoc, hr]; simp only [Option.bind_some]; unfold sumStep; rw [if_neg (show ¬ vld x.f0 x.f1 = false by rw [c1]; decide), if_neg C2.out, if_neg C3.out, if_neg (fun hh => hh C4.out), if_neg (by have := C5.out; omega), if_neg (by have := C6.out; omega)], by rw [List.length_append]; exact hs2.set6 hgb _⟩
            · have c4b : (x.f0 != kind) = true := bne_iff_ne.mpr c4
              have C4 := Aside0.mk c4
              clear c4
              gi_wp2_with (first
                | (refine ⟨trivial, ?_⟩; gi_at_call 18; refine (CallsIn.inRound l (callsIn_wide.2 (money_Valid.calls x.f0 x.f1 true W ((money_valid _ _).trans (by rw [c1])) (hT W hs.but)))).mono ?_; rintro e W2 ⟨rfl, hb2⟩; have hs2 := hs.below hgb (hb2.mono hs.size); have hc72 := (hb2.block _ hsz7).trans hc7; obtain ⟨y0, y1, yf0, yf1⟩ := cells_at2 hc72; obtain ⟨k2, k2f⟩ := cells_at hs2.b2; obtain ⟨k5, k5f⟩ := cells_at hs2.b5; obtain ⟨k6, k6f⟩ := cells_at hs2.b6; obtain ⟨k40, k41, k4f, k4g⟩ := cells_at2 hs2.b4)
                | (refine ⟨trivial, ?_⟩; gi_at_call 59; refine (CallsIn.inRound l (callsIn_wide.2 (money_fault.calls 5 6 5 _ rfl))).mono ?_; rintro e W3 ⟨rfl, hb3⟩; have hs3 := hs2.below hgb (hb3.mono hs2.size); obtain ⟨k40', k41', k4f', k4g'⟩ := cells_at2 hs3.b4))
              exact ⟨((kf_below hb2).trans (kf_below hb3)).trans ((kf_set _ _ _).trans (kf_set _ _ _)), rfl, pre, x, h, lo, (6, 5), rfl, hr, by unfold sumStep; rw [if_neg (show ¬ vld x.f0 x.f1 = false by rw [c1]; decide), if_neg C2.out, if_neg C3.out, if_pos C4.out], hs3.tell hgb 6 5⟩
    · rintro D W hD ⟨h, lo, hr, hs⟩ hK
      obtain ⟨k2, k2f⟩ := cells_at hs.b2
      obtain ⟨k5, k5f⟩ := cells_at hs.b5
      obtain ⟨k6, k6f⟩ := cells_at hs.b6
      obtain ⟨k40, k41, k4f, k4g⟩ := cells_at2 hs.b4
      have hDlt : D < W.heap.size := (Array.getElem?_eq_some_iff.1 hK).1
      have hDg : w.heap.size + 4 ≤ D := by rw [hsz] at hD; exact hD
      have hk0 : 0 ≤ kind := by rcases hkind with e | e <;> omega
      have hk6 : kind ≤ 6 := by rcases hkind with e | e <;> omega
      obtain ⟨b1, b2, hb12⟩ : ∃ b1 b2, boundS kind (wrap64 (wrap64 (h * 1000000000000000000) + lo)) = (b1, b2) := ⟨_, _, rfl⟩
      by_cases c1 : h = 0
      · have hb1 : (h != 0) = false := bne_eq_false_iff_eq.mpr c1
        have C1 := Aside0.mk c1
        clear c1
        have hf : fin kind h lo = (b1, b2) := by unfold fin; rw [if_neg (fun hh => hh.1 C1.out), hb12]
        gi_wp2_with (first | (refine ⟨trivial, ?_⟩; gi_at_call 60; refine (callsIn_wide.2 (money_checked.calls kind (wrap64 (wrap64 (h * 1000000000000000000) + lo)) b1 b2 W ((checked_is kind _ hk0 hk6).trans (by rw [hb12])) (hT W hs.but))).mono ?_; rintro e W3 ⟨rfl, hb3⟩; have hs3 := hs.below hgb (hb3.mono hs.size); obtain ⟨k40', k41', k4f', k4g'⟩ := cells_at2 hs3.b4))
        have hK3 := (hb3.block D hDlt).trans hK
        have hK4 := ((KeepsOthers.setCell W3 ⟨w.heap.size + 1, 0, none⟩ (.int .i64 b1)).trans (KeepsOthers.setCell _ ⟨w.heap.size + 1, 1, none⟩ (.int .i64 b2))).same D _ hK3 rfl
        refine ⟨by simp, .inl ⟨_, _, rfl, run_takeDeferred hK4, ?_⟩⟩
        have ht' := (hs3.tell hgb b1 b2).own (grownBy_putObj' _ D (.deferred none)) (fun r e => by cases e; exact ⟨hDg, _, hK4, rfl⟩)
        obtain ⟨q0, q1, q0f, q1f⟩ := cells_at2 ht'.b4
        refine ⟨.agg #[.int .i64 b1, .int .i64 b2], ?_, .inl ⟨h, lo, hr, by rw [hf], ht'.but, ht'.g, hL _ ht'.but⟩⟩
        simp [results, Tryd.f22, go_sem, q0, q1]
      · have hb1 : (h != 0) = true := bne_iff_ne.mpr c1
        have C1 := Aside0.mk c1
        clear c1
        by_cases c2 : h > 1
        · have hb2 : decide (1 < h) = true := decide_eq_true c2
          have C2 := Aside0.mk c2
          clear c2
          have hf : fin kind h lo = (6, 1) := by unfold fin; rw [if_pos ⟨C1.out, Or.inl C2.out⟩]
          gi_wp2_with (first | (refine ⟨trivial, ?_⟩; gi_at_call 59; refine (callsIn_wide.2 (money_fault.calls 1 6 1 _ rfl)).mono ?_; rintro e W3 ⟨rfl, hb3⟩; have hs3 := hs.below hgb (hb3.mono hs.size); obtain ⟨k40', k41', k4f', k4g'⟩ := cells_at2 hs3.b4))
          have hK3 := (hb3.block D hDlt).trans hK
          have hK4 := ((KeepsOthers.setCell W3 ⟨w.heap.size + 1, 0, none⟩ (.int .i64 (6))).trans (KeepsOthers.setCell _ ⟨w.heap.size + 1, 1, none⟩ (.int .i64 (1)))).same D _ hK3 rfl
          refine ⟨by simp, .inl ⟨_, _, rfl, run_takeDeferred hK4, ?_⟩⟩
          have ht' := (hs3.tell hgb (6) (1)).own (grownBy_putObj' _ D (.deferred none)) (fun r e => by cases e; exact ⟨hDg, _, hK4, rfl⟩)
          obtain ⟨q0, q1, q0f, q1f⟩ := cells_at2 ht'.b4
          refine ⟨.agg #[.int .i64 (6), .int .i64 (1)], ?_, .inl ⟨h, lo, hr, by rw [hf], ht'.but, ht'.g, hL _ ht'.but⟩⟩
          simp [results, Tryd.f22, go_sem, q0, q1]
        · have hb2 : decide (1 < h) = false := decide_eq_false c2
          have C2 := Aside0.mk c2
          clear c2
          by_cases c3 : h < -1
          · have hbc : decide (h < -1) = true := decide_eq_true c3
            have C3 := Aside0.mk c3
            clear c3
            have hf : fin kind h lo = (6, 1) := by unfold fin; rw [if_pos ⟨C1.out, Or.inr C3.out⟩]
            gi_wp2_with (first | (refine ⟨trivial, ?_⟩; gi_at_call 59; refine (callsIn_wide.2 (money_fault.calls 1 6 1 _ rfl)).mono ?_; rintro e W3 ⟨rfl, hb3⟩; have hs3 := hs.below hgb (hb3.mono hs.size); obtain ⟨k40', k41', k4f', k4g'⟩ := cells_at2 hs3.b4))
            have hK3 := (hb3.block D hDlt).trans hK
            have hK4 := ((KeepsOthers.setCell W3 ⟨w.heap.size + 1, 0, none⟩ (.int .i64 (6))).trans (KeepsOthers.setCell _ ⟨w.heap.size + 1, 1, none⟩ (.int .i64 (1)))).same D _ hK3 rfl
            refine ⟨by simp, .inl ⟨_, _, rfl, run_takeDeferred hK4, ?_⟩⟩
            have ht' := (hs3.tell hgb (6) (1)).own (grownBy_putObj' _ D (.deferred none)) (fun r e => by cases e; exact ⟨hDg, _, hK4, rfl⟩)
            obtain ⟨q0, q1, q0f, q1f⟩ := cells_at2 ht'.b4
            refine ⟨.agg #[.int .i64 (6), .int .i64 (1)], ?_, .inl ⟨h, lo, hr, by rw [hf], ht'.but, ht'.g, hL _ ht'.but⟩⟩
            simp [results, Tryd.f22, go_sem, q0, q1]
          · have hbc : decide (h < -1) = false := decide_eq_false c3
            have C3 := Aside0.mk c3
            clear c3
            have hf : fin kind h lo = (b1, b2) := by unfold fin; rw [if_neg (fun hh => hh.2.elim C2.out C3.out), hb12]
            gi_wp2_with (first | (refine ⟨trivial, ?_⟩; gi_at_call 60; refine (callsIn_wide.2 (money_checked.calls kind (wrap64 (wrap64 (h * 1000000000000000000) + lo)) b1 b2 W ((checked_is kind _ hk0 hk6).trans (by rw [hb12])) (hT W hs.but))).mono ?_; rintro e W3 ⟨rfl, hb3⟩; have hs3 := hs.below hgb (hb3.mono hs.size); obtain ⟨k40', k41', k4f', k4g'⟩ := cells_at2 hs3.b4))
            have hK3 := (hb3.block D hDlt).trans hK
            have hK4 := ((KeepsOthers.setCell W3 ⟨w.heap.size + 1, 0, none⟩ (.int .i64 b1)).trans (KeepsOthers.setCell _ ⟨w.heap.size + 1, 1, none⟩ (.int .i64 b2))).same D _ hK3 rfl
            refine ⟨by simp, .inl ⟨_, _, rfl, run_takeDeferred hK4, ?_⟩⟩
            have ht' := (hs3.tell hgb b1 b2).own (grownBy_putObj' _ D (.deferred none)) (fun r e => by cases e; exact ⟨hDg, _, hK4, rfl⟩)
            obtain ⟨q0, q1, q0f, q1f⟩ := cells_at2 ht'.b4
            refine ⟨.agg #[.int .i64 b1, .int .i64 b2], ?_, .inl ⟨h, lo, hr, by rw [hf], ht'.but, ht'.g, hL _ ht'.but⟩⟩
            simp [results, Tryd.f22, go_sem, q0, q1]
    · rintro D c pre W hD hpre ⟨rfl, init, x, h, lo, a, rfl, hr, hst, ht⟩ hK
      have hDg : w.heap.size + 4 ≤ D := by rw [hsz] at hD; exact hD
      gi_wp2
      refine ⟨by simp, .inl ⟨_, _, rfl, run_takeDeferred hK, ?_⟩⟩
      have ht' := ht.own (grownBy_putObj' W D (.deferred none)) (fun r e => by cases e; exact ⟨hDg, _, hK, rfl⟩)
      obtain ⟨q0, q1, q0f, q1f⟩ := cells_at2 ht'.b4
      refine ⟨.agg #[.int .i64 a.1, .int .i64 a.2], ?_, .inr ⟨init, x, h, lo, a, hpre, hr, hst, rfl, ht'.but, ht'.g, hL _ ht'.but⟩⟩
      simp [results, Tryd.f22, go_sem, q0, q1]
end Go.Proofs.YtnjhjaifmgjljaaDoor.Y
end

section
namespace Go.Proofs.YtnjhjaifmgjljaaDoor.Y
open Go.RowKit Go.Proofs.YtnjhjaifmgjljaaDoor.PM Go.Proofs.YtnjhjaifmgjljaaDoor.Q Go.Proofs.YtnjhjaifmgjljaaDoorW.PrintWords
set_option linter.unusedVariables false
def tk (kind : Int) : List S23 → Int → Nat → (Int × Int) × Nat
  | [], s, k => (boundS kind s, k)
  | v :: l, s, k => if vld v.f0 v.f1 = false then ((6, 5), k + 1) else if v.f0 = 6 then ((v.f0, v.f1), k + 1) else if v.f0 = 0 then tk kind l s (k + 1) else if v.f0 ≠ kind then ((6, 5), k + 1) else tk kind l (s + v.f1) (k + 1)
theorem vld_num {a b : Int} (h : vld a b = true) (hk : a = 1 ∨ a = 2) : -10000000000000 ≤ b ∧ b ≤ 10000000000000 := by
  rcases hk with rfl | rfl <;> simp [vld] at h <;> omega
theorem step_small (kind s : Int) (hkind : kind = 1 ∨ kind = 2) (v : S23) (hs : -900000000000000000 ≤ s) (hs1 : s ≤ 900000000000000000) :
    sumStep kind 0 s v = if vld v.f0 v.f1 = false then .inr (6, 5) else if v.f0 = 6 then .inr (v.f0, v.f1) else if v.f0 = 0 then .inl (0, s) else if v.f0 ≠ kind then .inr (6, 5) else .inl (0, s + v.f1) := by
  unfold sumStep
  by_cases c1 : vld v.f0 v.f1 = false
  · rw [if_pos c1, if_pos c1]
  · rw [if_neg c1, if_neg c1]
    by_cases c2 : v.f0 = 6
    · rw [if_pos c2, if_pos c2]
    · rw [if_neg c2, if_neg c2]
      by_cases c3 : v.f0 = 0
      · rw [if_pos c3, if_pos c3]
      · rw [if_neg c3, if_neg c3]
        by_cases c4 : v.f0 = kind
        · have hv := vld_num (by simpa using c1 : vld v.f0 v.f1 = true) (by rw [c4]; exact hkind)
          have hw : wrap64 (s + v.f1) = s + v.f1 := by unfold wrap64; omega
          rw [if_neg (show ¬ v.f0 ≠ kind from fun h => h c4), if_neg (show ¬ v.f0 ≠ kind from fun h => h c4), hw, if_neg (by omega), if_neg (by omega)]
        · rw [if_pos c4, if_pos c4]
theorem tk_spec (kind : Int) (hkind : kind = 1 ∨ kind = 2) : ∀ (rest pre : List S23) (s : Int), runs kind pre = some (0, s) → -(pre.length : Int) * 10000000000000 ≤ s → s ≤ (pre.length : Int) * 10000000000000 → pre.length + rest.length ≤ 20000 →
    (∀ h lo, runs kind (pre ++ rest) = some (h, lo) → tk kind rest s pre.length = (fin kind h lo, (pre ++ rest).length)) ∧
    (∀ q x h lo a, q ++ [x] <+: pre ++ rest → pre.length ≤ q.length → runs kind q = some (h, lo) → sumStep kind h lo x = .inr a → tk kind rest s pre.length = (a, q.length + 1)) := by
  intro rest
  induction rest with
  | nil =>
    intro pre s hr hs0 hs1 hl
    constructor
    · intro h lo e
      rw [List.append_nil, hr] at e
      cases e
      have hw : wrap64 (wrap64 (0 * 1000000000000000000) + s) = s := by unfold wrap64; simp at hl; omega
      simp only [tk, fin, List.append_nil]
      rw [if_neg (by simp), hw]
    · intro q x h lo a hq hpq _ _
      have := hq.length_le
      simp at this
      omega
  | cons v rest IH =>
    intro pre s hr hs0 hs1 hl
    have hl2 : pre.length + (rest.length + 1) ≤ 20000 := hl
    have hst := step_small kind s hkind v (by omega) (by omega)
    have hsn : runs kind (pre ++ [v]) = match sumStep kind 0 s v with | .inl st' => some st' | .inr _ => none := by rw [runs_snoc, hr]; rfl

    have none_on : ∀ (l : List S23), runs kind (pre ++ [v]) = none → runs kind (pre ++ [v] ++ l) = none := by
      intro l hn
      unfold runs at hn ⊢
      rw [List.foldl_append, hn]
      clear hn
      induction l with
      | nil => rfl
      | cons y l ih => simpa using ih
    have eapp : pre ++ v :: rest = pre ++ [v] ++ rest := by simp
    have stop : ∀ a, sumStep kind 0 s v = .inr a → (∀ h lo, runs kind (pre ++ v :: rest) = some (h, lo) → False) ∧ (∀ q x h lo a', q ++ [x] <+: pre ++ v :: rest → pre.length ≤ q.length → runs kind q = some (h, lo) → sumStep kind h lo x = .inr a' → a' = a ∧ q.length = pre.length) := by
      intro a ha
      rw [ha] at hsn
      refine ⟨fun h lo e => (by rw [eapp, none_on rest hsn] at e; cases e), ?_⟩
      intro q x h lo a' hq hpq hrq hsx
      by_cases hle : q.length = pre.length
      · have h1 : q = pre := by
          have h2 := (List.prefix_append q [x]).trans hq
          have h3 := List.prefix_of_prefix_length_le h2 (List.prefix_append pre (v :: rest)) (by omega)
          exact h3.eq_of_length hle
        subst h1
        have h4 : x = v := by
          obtain ⟨z, hz⟩ := hq
          have h5 : q ++ ([x] ++ z) = q ++ (v :: rest) := by rw [← List.append_assoc]; exact hz
          have := List.append_cancel_left h5
          simp at this; exact this.1
        subst h4
        rw [hr] at hrq; cases hrq
        rw [ha] at hsx; cases hsx
        exact ⟨rfl, rfl⟩
      · exfalso
        have h2 := (List.prefix_append q [x]).trans hq
        have h3 : pre ++ [v] <+: q := List.prefix_of_prefix_length_le (by rw [eapp]; exact List.prefix_append _ _) h2 (by simp; omega)
        obtain ⟨z, hz⟩ := h3
        rw [← hz, none_on z hsn] at hrq
        cases hrq
    have go : ∀ s', sumStep kind 0 s v = .inl (0, s') → -((pre ++ [v]).length : Int) * 10000000000000 ≤ s' → s' ≤ ((pre ++ [v]).length : Int) * 10000000000000 →
        (∀ h lo, runs kind (pre ++ v :: rest) = some (h, lo) → tk kind rest s' (pre.length + 1) = (fin kind h lo, (pre ++ v :: rest).length)) ∧
        (∀ q x h lo a, q ++ [x] <+: pre ++ v :: rest → pre.length ≤ q.length → runs kind q = some (h, lo) → sumStep kind h lo x = .inr a → tk kind rest s' (pre.length + 1) = (a, q.length + 1)) := by
      intro s' hs' b0 b1
      rw [hs'] at hsn
      have ih := IH (pre ++ [v]) s' hsn b0 b1 (by simp; omega)
      rw [eapp]
      rw [show (pre ++ [v]).length = pre.length + 1 by simp] at ih
      refine ⟨ih.1, ?_⟩
      intro q x h lo a hq hpq hrq hsx
      by_cases hle : q.length = pre.length
      · exfalso
        have h1 : q = pre := by
          have h2 := (List.prefix_append q [x]).trans hq
          rw [← eapp] at h2
          have h3 := List.prefix_of_prefix_length_le h2 (List.prefix_append pre (v :: rest)) (by omega)
          exact h3.eq_of_length hle
        subst h1
        have h4 : x = v := by
          obtain ⟨z, hz⟩ := hq
          rw [← eapp] at hz
          have h5 : q ++ ([x] ++ z) = q ++ (v :: rest) := by rw [← List.append_assoc]; exact hz
          have := List.append_cancel_left h5
          simp at this; exact this.1
        subst h4
        rw [hr] at hrq; cases hrq
        rw [hs'] at hsx; cases hsx
      · exact ih.2 q x h lo a hq (by omega) hrq hsx
    simp only [tk]
    by_cases c1 : vld v.f0 v.f1 = false
    · rw [if_pos c1] at hst ⊢
      obtain ⟨h1, h2⟩ := stop _ hst
      exact ⟨fun h lo e => (h1 h lo e).elim, fun q x h lo a e1 e2 e3 e4 => by obtain ⟨rfl, e⟩ := h2 q x h lo a e1 e2 e3 e4; rw [e]⟩
    · rw [if_neg c1] at hst ⊢
      by_cases c2 : v.f0 = 6
      · rw [if_pos c2] at hst ⊢
        obtain ⟨h1, h2⟩ := stop _ hst
        exact ⟨fun h lo e => (h1 h lo e).elim, fun q x h lo a e1 e2 e3 e4 => by obtain ⟨rfl, e⟩ := h2 q x h lo a e1 e2 e3 e4; rw [e]⟩
      · rw [if_neg c2] at hst ⊢
        by_cases c3 : v.f0 = 0
        · rw [if_pos c3] at hst ⊢
          exact go s hst (by simp; omega) (by simp; omega)
        · rw [if_neg c3] at hst ⊢
          by_cases c4 : v.f0 = kind
          · have hv := vld_num (by simpa using c1 : vld v.f0 v.f1 = true) (by rw [c4]; exact hkind)
            rw [if_neg (fun h => h c4)] at hst ⊢
            exact go _ hst (by simp; omega) (by simp; omega)
          · rw [if_pos c4] at hst ⊢
            obtain ⟨h1, h2⟩ := stop _ hst
            exact ⟨fun h lo e => (h1 h lo e).elim, fun q x h lo a e1 e2 e3 e4 => by obtain ⟨rfl, e⟩ := h2 q x h lo a e1 e2 e3 e4; rw [e]⟩
end Go.Proofs.YtnjhjaifmgjljaaDoor.Y
end

section
namespace Go.Proofs.YtnjhjaifmgjljaaDoor.Y
open Go.RowKit Go.Proofs.YtnjhjaifmgjljaaDoor.PM Go.Proofs.YtnjhjaifmgjljaaDoor.Q Go.Proofs.YtnjhjaifmgjljaaDoorW.PrintWords
set_option linter.unusedVariables false
def tell (t : (Int × Int) × Nat) : Int × Int × Int := (t.1.1, t.1.2, (t.2 : Int))
theorem taken_from (kind : Int) (hkind : kind = 1 ∨ kind = 2) (l : List S23) (hl : l.length ≤ 20000) : ∀ (d i : Nat) (s : Int), i + d = l.length → -(i : Int) * 10000000000000 ≤ s → s ≤ (i : Int) * 10000000000000 →
    Ev (fun k => levyref1_Taken.l0 k kind l s (i : Int)) (tell (tk kind (l.drop i) s i)) := by
  intro d
  induction d with
  | zero =>
    intro i s hi h0 h1
    rw [List.drop_of_length_le (by omega)]
    refine Ev.step (f := fun _ => some (tell (tk kind [] s i))) (fun k => ?_) (Ev.now _)
    simp only [levyref1_Taken.l0]
    rw [if_neg (by omega), bounded_is]
    simp only [tk, tell, Option.bind_some]
    rw [show l.length = i by omega]
  | succ d IH =>
    intro i s hi h0 h1
    rw [drop_cons (by omega : i < l.length)]
    have hw : wrap64 ((i : Int) + 1) = ((i + 1 : Nat) : Int) := by unfold wrap64; omega
    generalize hv : rd_T23 l (i : Int) = v
    have hstep : Ev (fun k => levyref1_Taken.j2 k kind l s (i : Int) (decide (v.f0 = 0 ∧ v.f1 = 0))) (tell (tk kind (v :: l.drop (i + 1)) s i)) := by
      by_cases hz : v.f0 = 0 ∧ v.f1 = 0
      · rw [decide_eq_true hz]
        have e : tk kind (v :: l.drop (i + 1)) s i = tk kind (l.drop (i + 1)) s (i + 1) := by
          simp only [tk]
          rw [if_neg (by rw [hz.1, hz.2]; decide), if_neg (by rw [hz.1]; decide), if_pos hz.1]
        rw [e]
        refine Ev.step (fun k => ?_) (IH (i + 1) s (by omega) (by omega) (by omega))
        simp only [levyref1_Taken.j2]
        rw [if_pos trivial, hw]
      · rw [decide_eq_false hz]
        by_cases c1 : vld v.f0 v.f1 = false
        · refine Ev.step (f := fun _ => some (tell (tk kind (v :: l.drop (i + 1)) s i))) (fun k => ?_) (Ev.now _)
          simp only [levyref1_Taken.j2]
          rw [if_neg (by decide), if_pos (by omega), if_pos (by omega), hv, ref_valid, c1, hw]
          simp only [tk, c1]
          rfl
        · have c1' : vld v.f0 v.f1 = true := by simpa using c1
          by_cases c2 : v.f0 = 6
          · refine Ev.step (f := fun _ => some (tell (tk kind (v :: l.drop (i + 1)) s i))) (fun k => ?_) (Ev.now _)
            simp only [levyref1_Taken.j2]
            rw [if_neg (by decide), if_pos (by omega), if_pos (by omega), hv, ref_valid, c1', hw]
            simp only [Option.bind_some]
            rw [if_pos trivial, if_pos c2]
            simp only [tk]
            rw [if_neg c1, if_pos c2]
            rfl
          · by_cases c4 : v.f0 = kind
            · have hv2 := vld_num c1' (by rw [c4]; exact hkind)
              have e : tk kind (v :: l.drop (i + 1)) s i = tk kind (l.drop (i + 1)) (s + v.f1) (i + 1) := by
                simp only [tk]
                rw [if_neg c1, if_neg c2, if_neg (by omega), if_neg (fun h => h c4)]
              rw [e]
              refine Ev.step (fun k => ?_) (IH (i + 1) (s + v.f1) (by omega) (by omega) (by omega))
              simp only [levyref1_Taken.j2]
              rw [if_neg (by decide), if_pos (by omega), if_pos (by omega), hv, ref_valid, c1', hw]
              simp only [Option.bind_some]
              rw [if_pos trivial, if_neg c2, if_pos c4, show wrap64 (s + v.f1) = s + v.f1 by unfold wrap64; omega]
            · have c3 : v.f0 ≠ 0 := by
                intro h0'
                have : vld 0 v.f1 = true := by rw [← h0']; exact c1'
                exact hz ⟨h0', by simpa [vld] using this⟩
              refine Ev.step (f := fun _ => some (tell (tk kind (v :: l.drop (i + 1)) s i))) (fun k => ?_) (Ev.now _)
              simp only [levyref1_Taken.j2]
              rw [if_neg (by decide), if_pos (by omega), if_pos (by omega), hv, ref_valid, c1', hw]
              simp only [Option.bind_some]
              rw [if_pos trivial, if_neg c2, if_neg c4]
              simp only [tk]
              rw [if_neg c1, if_neg c2, if_neg c3, if_pos c4]
              rfl
    refine Ev.step (fun k => ?_) hstep
    simp only [levyref1_Taken.l0]
    rw [if_pos (by omega), if_pos (by omega), hv]
    by_cases h0' : v.f0 = 0
    · rw [if_pos h0']
      by_cases h1' : v.f1 = 0
      · rw [h1', decide_eq_true ⟨h0', rfl⟩]; rfl
      · rw [decide_eq_false (fun h => h1' h.2), beq_eq_false_iff_ne.mpr h1']
    · rw [if_neg h0', decide_eq_false (fun h => h0' h.1)]
theorem taken_is (kind : Int) (hkind : kind = 1 ∨ kind = 2) (l : List S23) (hl : l.length ≤ 20000) : Ev (fun k => levyref1_Taken.f k kind l) (tell (tk kind l 0 0)) := by
  have h := taken_from kind hkind l hl l.length 0 0 (by omega) (by omega) (by omega)
  refine Ev.congr (f := fun k => levyref1_Taken.j0 k kind l false) (fun k => ?_) (Ev.step (fun k => ?_) h)
  · unfold levyref1_Taken.f
    rcases hkind with rfl | rfl
    · rw [if_pos rfl]
    · rw [if_neg (by decide)]; rfl
  · simp [levyref1_Taken.j0]
theorem taken_other (kind : Int) (h1 : kind ≠ 1) (h2 : kind ≠ 2) (l : List S23) : Ev (fun k => levyref1_Taken.f k kind l) (6, 5, 0) := by
  refine Ev.congr (f := fun k => levyref1_Taken.j0 k kind l true) (fun k => ?_) (Ev.step (f := fun _ => some (6, 5, 0)) (fun k => by simp [levyref1_Taken.j0, levyref1_bad.f]) (Ev.now _))
  unfold levyref1_Taken.f
  rw [if_neg h1, show (kind != 2) = true from bne_iff_ne.mpr h2]
end Go.Proofs.YtnjhjaifmgjljaaDoor.Y
end

section
namespace Go.Proofs.YtnjhjaifmgjljaaDoor.Y
open Go.RowKit Go.Shelf Go.Proofs.YtnjhjaifmgjljaaDoor.PM Go.Proofs.YtnjhjaifmgjljaaDoor.Q Go.Proofs.YtnjhjaifmgjljaaDoorW.PrintWords
set_option linter.unusedVariables false
theorem sum_tk (gb : Nat) (A : Option Addr) (cap : Nat) (xs : List S23) (hx : xs.length ≤ 20000) (kind : Int) (hkind : kind = 1 ∨ kind = 2) (w : World) (hgb : gb < w.heap.size) (hgb0 : 0 < gb)
    (hne : 0 < xs.length → ∀ ad, A = some ad → ad.block ≠ gb) (hh : Held gb A cap xs 0 w) (hg0 : Kd.C k87 w (some ⟨0, 0, none⟩) gtab0.length gtab0) :
    Calls Tryd.prog 22 #[.int .i64 kind, .func (.func 21) #[.pointer (some ⟨gb, 0, none⟩)] #[]] w fun e w' =>
      e = .returned (.agg #[.int .i64 (tk kind xs 0 0).1.1, .int .i64 (tk kind xs 0 0).1.2]) ∧ But w.heap.size gb w w' ∧ Held gb A cap xs (tk kind xs 0 0).2 w' := by
  refine (sum_calls gb A cap xs (by omega) kind hkind w hgb hgb0 hne hh hg0).mono ?_
  have hs := tk_spec kind hkind xs [] 0 rfl (by simp) (by simp) (by simpa using hx)
  rintro e w' (⟨h, lo, hr, rfl, hb, hH⟩ | ⟨pre, x, h, lo, a, hp, hr, hst, rfl, hb, hH⟩)
  · have := hs.1 h lo (by simpa using hr)
    simp only [List.length_nil, List.nil_append] at this
    rw [this]; exact ⟨rfl, hb, hH⟩
  · have := hs.2 pre x h lo a (by simpa using hp) (by simp) hr hst
    simp only [List.length_nil] at this
    rw [this]; exact ⟨rfl, hb, hH⟩
attribute [local go_sem] Oper.semAt_some
set_option maxRecDepth 100000 in
set_option maxHeartbeats 4000000 in
theorem sum_other (f : Value) (kind : Int) (h1 : kind ≠ 1) (h2 : kind ≠ 2) (w : World) :
    Calls Tryd.prog 22 #[.int .i64 kind, f] w fun e w' => e = .returned (.agg #[.int .i64 6, .int .i64 5]) ∧ Below w.heap.size w w' := by
  have hb1 : (kind != 1) = true := bne_iff_ne.mpr h1
  have hb2 : (kind != 2) = true := bne_iff_ne.mpr h2
  have C1 := Aside0.mk h1
  have C2 := Aside0.mk h2
  clear h1 h2
  refine (callsIn_wide (n := 8)).1 ?_
  refine callsIn_of_wp Tryd.func22 rfl trivial ?_ rfl
  simp only [Tryd.ntmps22, List.size_toArray, List.length_cons, List.length_nil, Nat.reduceAdd, Nat.reduceSub, Array.replicate_succ, Array.replicate_zero, List.push_toArray, List.append_toArray, List.nil_append, List.cons_append]
  have hB0 : Below w.heap.size w ((w.alloc (Obj.cells #[Value.int IntKind.i64 kind] 3)).alloc (Obj.cells #[Value.int IntKind.i64 0, Value.int IntKind.i64 0] 23)) := ((Below.refl _ w).alloc (Nat.le_refl _) _).alloc (by simp) _
  have hq4 : ((w.alloc (Obj.cells #[Value.int IntKind.i64 kind] 3)).alloc (Obj.cells #[Value.int IntKind.i64 0, Value.int IntKind.i64 0] 23)).heap[w.heap.size + 1]? = some (.cells #[.int .i64 0, .int .i64 0] 23 (0, 0)) := by
    have := World.alloc_heap_new (w.alloc (Obj.cells #[Value.int IntKind.i64 kind] 3)) (Obj.cells #[Value.int IntKind.i64 0, Value.int IntKind.i64 0] 23)
    rwa [World.size_alloc] at this
  gi_wp2_with (first
    | (refine ⟨trivial, ?_⟩; gi_at_call 59; refine (callsIn_wide.2 (money_fault.calls 5 6 5 _ rfl)).mono ?_; rintro e W3 ⟨rfl, hb3⟩; have hq := (hb3.block _ (by simp)).trans hq4; obtain ⟨k40, k41, k4f, k4g⟩ := cells_at2 hq))
  have hq2 := set_two (u' := .int .i64 6) (v' := .int .i64 5) hq
  obtain ⟨q0, q1, q0f, q1f⟩ := cells_at2 hq2
  refine bodyPost_ret (v := .agg #[.int .i64 6, .int .i64 5]) (by simp [results, Tryd.f22, go_sem, q0, q1]) rfl ?_
  exact ⟨rfl, ((hB0.trans (hb3.mono (by simp; omega))).setCell (by simp) _).setCell (by simp) _⟩
end Go.Proofs.YtnjhjaifmgjljaaDoor.Y
end

section
namespace Go.Proofs.YtnjhjaifmgjljaaDoor.Y
open Go.RowKit Go.Shelf Go.Proofs.YtnjhjaifmgjljaaDoor.PM Go.Proofs.YtnjhjaifmgjljaaDoor.Q Go.Proofs.YtnjhjaifmgjljaaDoorW.PrintWords
set_option linter.unusedVariables false
theorem block_of_C {w : World} {A : Option Addr} {l : List S23} (h : Kd.C k23 w A l.length l) (hl : 0 < l.length) (ad : Addr) (e : A = some ad) : ad.block < w.heap.size := by
  obtain ⟨ad', e', hx, _⟩ := at_T23 h 0 (by omega) (by omega)
  rw [e] at e'
  cases e'
  have := World.block_lt_of_cell? w _ hx
  simpa [Addr.add] using this
def tkA (kind : Int) (l : List S23) : (Int × Int) × Nat := if kind = 1 ∨ kind = 2 then tk kind l 0 0 else ((6, 5), 0)
theorem taken_any (kind : Int) (l : List S23) (hl : l.length ≤ 20000) : Ev (fun k => levyref1_Taken.f k kind l) (tell (tkA kind l)) := by
  unfold tkA
  by_cases h : kind = 1 ∨ kind = 2
  · rw [if_pos h]; exact taken_is kind h l hl
  · rw [if_neg h]; exact taken_other kind (fun e => h (.inl e)) (fun e => h (.inr e)) l
theorem sum_any (gb : Nat) (A : Option Addr) (cap : Nat) (xs : List S23) (hx : xs.length ≤ 20000) (kind : Int) (w : World) (hgb : gb < w.heap.size) (hgb0 : 0 < gb)
    (hne : 0 < xs.length → ∀ ad, A = some ad → ad.block ≠ gb) (hh : Held gb A cap xs 0 w) (hg0 : Kd.C k87 w (some ⟨0, 0, none⟩) gtab0.length gtab0) :
    Calls Tryd.prog 22 #[.int .i64 kind, .func (.func 21) #[.pointer (some ⟨gb, 0, none⟩)] #[]] w fun e w' =>
      e = .returned (.agg #[.int .i64 (tkA kind xs).1.1, .int .i64 (tkA kind xs).1.2]) ∧ But w.heap.size gb w w' ∧ Held gb A cap xs (tkA kind xs).2 w' := by
  unfold tkA
  by_cases h : kind = 1 ∨ kind = 2
  · rw [if_pos h]; exact sum_tk gb A cap xs hx kind h w hgb hgb0 hne hh hg0
  · rw [if_neg h]
    refine (sum_other _ kind (fun e => h (.inl e)) (fun e => h (.inr e)) w).mono ?_
    rintro e w' ⟨rfl, hb⟩
    exact ⟨rfl, .of_below hb, (hb.block _ hgb).trans hh.1, Kd.C_below hh.2 hb⟩
structure BB (w w' : World) : Prop where mk :: (out : Below w.heap.size w w')
theorem BB.refl (w : World) : BB w w := ⟨Below.refl _ _⟩
theorem BB.drew {w w' : World} (h : BB w w') : BB w w'.drew := ⟨below_drew h.out⟩
theorem BB.step {w w' w2 : World} (h : BB w w') (k : Below w'.heap.size w' w2) : BB w w2 := ⟨h.out.trans (k.mono h.out.size)⟩
theorem heap_pos {w : World} (hg0 : Kd.C k87 w (some ⟨0, 0, none⟩) gtab0.length gtab0) : 0 < w.heap.size := by
  obtain ⟨ad, e, hx, _⟩ := at_T87 hg0 0 (by decide) (by decide)
  cases e
  have := World.block_lt_of_cell? w _ hx
  simpa [Addr.add] using this
end Go.Proofs.YtnjhjaifmgjljaaDoor.Y
end

section
namespace Go.Proofs.YtnjhjaifmgjljaaDoor.PM
open Go.RowKit Go.Shelf Go.Proofs.YtnjhjaifmgjljaaDoor.Y Go.Proofs.YtnjhjaifmgjljaaDoorW.PrintWords
set_option linter.unusedVariables false
attribute [local go_sem] Oper.semAt_some
def levylaw1_does.f (k : Nat) (a0_0 : Int) (a0_1 : Int) (a0_2 : Int) (a0_3 : Int) (a0_4 : Int) (a0_5 : Int) (a0_6 : Int) (a0_7 : Int) (a0_8 : Int) (a0_9 : Int) (l0_10 : List S72) (l0_11 : List S23) : Option (Int × Int) := if a0_0 = 1 then money_Add.f k a0_1 a0_2 a0_3 a0_4 else if a0_0 = 2 then money_Sub.f k a0_1 a0_2 a0_3 a0_4 else if a0_0 = 3 then money_Neg.f k a0_1 a0_2 else if a0_0 = 4 then money_Abs.f k a0_1 a0_2 else if a0_0 = 5 then money_Min.f k a0_1 a0_2 a0_3 a0_4 else if a0_0 = 6 then money_Max.f k a0_1 a0_2 a0_3 a0_4 else if a0_0 = 7 then money_Clamp.f k a0_1 a0_2 a0_3 a0_4 a0_5 a0_6 else if a0_0 = 8 then money_Scale.f k a0_1 a0_2 a0_7 a0_8 a0_9 else if a0_0 = 9 then money_Times.f k a0_1 a0_2 a0_3 a0_4 else if a0_0 = 10 then money_Split.f k a0_1 a0_2 a0_3 a0_4 a0_9 else if a0_0 = 11 then money_Round.f k a0_1 a0_2 a0_7 a0_9 else if a0_0 = 12 then money_Compare.f k a0_9 a0_1 a0_2 a0_3 a0_4 else if a0_0 = 13 then money_Bracket.f k l0_10 a0_1 a0_2 else if a0_0 = 14 then (if l0_11.length ≤ 20000 then some (Y.tkA a0_9 l0_11).1 else none) else ((money_Valid.f a0_1 a0_2).bind fun t => if t = true then some (3, 1) else some (3, 0))
theorem levylaw1_does.mono : ∀ a0_0 a0_1 a0_2 a0_3 a0_4 a0_5 a0_6 a0_7 a0_8 a0_9 a0_10 a0_11 k, LeO (levylaw1_does.f k a0_0 a0_1 a0_2 a0_3 a0_4 a0_5 a0_6 a0_7 a0_8 a0_9 a0_10 a0_11) (levylaw1_does.f (k + 1) a0_0 a0_1 a0_2 a0_3 a0_4 a0_5 a0_6 a0_7 a0_8 a0_9 a0_10 a0_11) := by
  intro a0_0 a0_1 a0_2 a0_3 a0_4 a0_5 a0_6 a0_7 a0_8 a0_9 a0_10 a0_11 k
  unfold levylaw1_does.f
  refine LeO.ite (money_Add.mono _ _ _ _ _) ?_
  refine LeO.ite (money_Sub.mono _ _ _ _ _) ?_
  refine LeO.ite (money_Neg.mono _ _ _) ?_
  refine LeO.ite (money_Abs.mono _ _ _) ?_
  refine LeO.ite (money_Min.mono _ _ _ _ _) ?_
  refine LeO.ite (money_Max.mono _ _ _ _ _) ?_
  refine LeO.ite (money_Clamp.mono _ _ _ _ _ _ _) ?_
  refine LeO.ite (money_Scale.mono _ _ _ _ _ _) ?_
  refine LeO.ite (money_Times.mono _ _ _ _ _) ?_
  refine LeO.ite (money_Split.mono _ _ _ _ _ _) ?_
  refine LeO.ite (money_Round.mono _ _ _ _ _) ?_
  refine LeO.ite (money_Compare.mono _ _ _ _ _ _) ?_
  refine LeO.ite (money_Bracket.mono _ _ _ _) ?_
  exact LeO.refl _
theorem two_new (w : World) (A B : Obj) : ((w.alloc A).alloc B).heap[w.heap.size + 1]? = some B := by
  have := World.alloc_heap_new (w.alloc A) B
  rwa [World.size_alloc] at this
set_option maxRecDepth 100000 in
set_option maxHeartbeats 16000000 in
theorem levylaw1_does.calls (k : Nat) (a0_0 : Int) (a0_1 : Int) (a0_2 : Int) (a0_3 : Int) (a0_4 : Int) (a0_5 : Int) (a0_6 : Int) (a0_7 : Int) (a0_8 : Int) (a0_9 : Int) (A0_10 : Option Addr) (c0_10 : Nat) (l0_10 : List (S72)) (A0_11 : Option Addr) (c0_11 : Nat) (l0_11 : List (S23)) (r1 : Int) (r2 : Int) (w : World) (hr0_10 : Kd.C k72 w A0_10 l0_10.length l0_10) (hc0_10 : l0_10.length ≤ c0_10) (hr0_11 : Kd.C k23 w A0_11 l0_11.length l0_11) (hc0_11 : l0_11.length ≤ c0_11) (h : levylaw1_does.f k a0_0 a0_1 a0_2 a0_3 a0_4 a0_5 a0_6 a0_7 a0_8 a0_9 l0_10 l0_11 = some (r1, r2)) (hg0 : Kd.C k87 w (some ⟨0, 0, none⟩) gtab0.length gtab0) :
    Calls Tryd.prog 54 #[.agg #[.int .i64 a0_0, .int .i64 a0_1, .int .i64 a0_2, .int .i64 a0_3, .int .i64 a0_4, .int .i64 a0_5, .int .i64 a0_6, .int .i64 a0_7, .int .i64 a0_8, .int .i64 a0_9, .slice A0_10 l0_10.length c0_10, .slice A0_11 l0_11.length c0_11]] w fun e w' => e = .returned (.agg #[.int .i64 r1, .int .i64 r2]) ∧ Below w.heap.size w w' := by
  have hu83 := Tryd.underlying83
  have hu23 := Tryd.underlying23
  have hmf : ∀ (fn : Fn) (first cap : Array Value) (w : World), (Instr.makeFunc fn first cap).run Tryd.prog w = .ok (.func fn first cap) w := fun _ _ _ _ => rfl
  have hw0 := heap_pos hg0
  have hq4 := two_new w (Obj.cells #[.int .i64 a0_0, .int .i64 a0_1, .int .i64 a0_2, .int .i64 a0_3, .int .i64 a0_4, .int .i64 a0_5, .int .i64 a0_6, .int .i64 a0_7, .int .i64 a0_8, .int .i64 a0_9, .slice A0_10 l0_10.length c0_10, .slice A0_11 l0_11.length c0_11] 83) (Obj.cells #[.int .i64 0, .int .i64 0] 23)
  have hB0 : Below w.heap.size w ((w.alloc (Obj.cells #[.int .i64 a0_0, .int .i64 a0_1, .int .i64 a0_2, .int .i64 a0_3, .int .i64 a0_4, .int .i64 a0_5, .int .i64 a0_6, .int .i64 a0_7, .int .i64 a0_8, .int .i64 a0_9, .slice A0_10 l0_10.length c0_10, .slice A0_11 l0_11.length c0_11] 83)).alloc (Obj.cells #[.int .i64 0, .int .i64 0] 23)) := ((Below.refl _ w).alloc (Nat.le_refl _) _).alloc (by simp) _
  have hT := Kd.C_below hg0 hB0
  unfold levylaw1_does.f at h
  by_cases e1 : a0_0 = 1
  · rw [if_pos e1] at h
    have b1 : (a0_0 == 1) = true := beq_iff_eq.mpr e1
    have H := Aside0.mk h
    clear h e1
    go_enter Tryd.func54, Tryd.ntmps54
    go_wp2_with (first | (go_at_call 23; refine (money_Add.calls k a0_1 a0_2 a0_3 a0_4 r1 r2 _ H.out hT).mono ?_; rintro e w1 ⟨rfl, hb1⟩; have hq := (hb1.block _ (by simp)).trans hq4; obtain ⟨k40, k41, k4f, k4g⟩ := cells_at2 hq))
    have hq2 := set_two (u' := .int .i64 r1) (v' := .int .i64 r2) hq
    obtain ⟨q0, q1, q0f, q1f⟩ := cells_at2 hq2
    refine bodyPost_ret (v := .agg #[.int .i64 r1, .int .i64 r2]) (by simp [results, Tryd.f54, go_sem, q0, q1]) rfl ?_
    exact ⟨rfl, ((hB0.trans (hb1.mono (by simp; omega))).setCell (by simp) _).setCell (by simp) _⟩
  · rw [if_neg e1] at h
    have b1 : (a0_0 == 1) = false := beq_eq_false_iff_ne.mpr e1
    by_cases e2 : a0_0 = 2
    · rw [if_pos e2] at h
      have b2 : (a0_0 == 2) = true := beq_iff_eq.mpr e2
      have H := Aside0.mk h
      clear h e1 e2
      go_enter Tryd.func54, Tryd.ntmps54
      go_wp2_with (first | (go_at_call 25; refine (money_Sub.calls k a0_1 a0_2 a0_3 a0_4 r1 r2 _ H.out hT).mono ?_; rintro e w1 ⟨rfl, hb1⟩; have hq := (hb1.block _ (by simp)).trans hq4; obtain ⟨k40, k41, k4f, k4g⟩ := cells_at2 hq))
      have hq2 := set_two (u' := .int .i64 r1) (v' := .int .i64 r2) hq
      obtain ⟨q0, q1, q0f, q1f⟩ := cells_at2 hq2
      refine bodyPost_ret (v := .agg #[.int .i64 r1, .int .i64 r2]) (by simp [results, Tryd.f54, go_sem, q0, q1]) rfl ?_
      exact ⟨rfl, ((hB0.trans (hb1.mono (by simp; omega))).setCell (by simp) _).setCell (by simp) _⟩
    · rw [if_neg e2] at h
      have b2 : (a0_0 == 2) = false := beq_eq_false_iff_ne.mpr e2
      by_cases e3 : a0_0 = 3
      · rw [if_pos e3] at h
        have b3 : (a0_0 == 3) = true := beq_iff_eq.mpr e3
        have H := Aside0.mk h
        clear h e1 e2 e3
        go_enter Tryd.func54, Tryd.ntmps54
        go_wp2_with (first | (go_at_call 27; refine (money_Neg.calls k a0_1 a0_2 r1 r2 _ H.out hT).mono ?_; rintro e w1 ⟨rfl, hb1⟩; have hq := (hb1.block _ (by simp)).trans hq4; obtain ⟨k40, k41, k4f, k4g⟩ := cells_at2 hq))
        have hq2 := set_two (u' := .int .i64 r1) (v' := .int .i64 r2) hq
        obtain ⟨q0, q1, q0f, q1f⟩ := cells_at2 hq2
        refine bodyPost_ret (v := .agg #[.int .i64 r1, .int .i64 r2]) (by simp [results, Tryd.f54, go_sem, q0, q1]) rfl ?_
        exact ⟨rfl, ((hB0.trans (hb1.mono (by simp; omega))).setCell (by simp) _).setCell (by simp) _⟩
      · rw [if_neg e3] at h
        have b3 : (a0_0 == 3) = false := beq_eq_false_iff_ne.mpr e3
        by_cases e4 : a0_0 = 4
        · rw [if_pos e4] at h
          have b4 : (a0_0 == 4) = true := beq_iff_eq.mpr e4
          have H := Aside0.mk h
          clear h e1 e2 e3 e4
          go_enter Tryd.func54, Tryd.ntmps54
          go_wp2_with (first | (go_at_call 29; refine (money_Abs.calls k a0_1 a0_2 r1 r2 _ H.out hT).mono ?_; rintro e w1 ⟨rfl, hb1⟩; have hq := (hb1.block _ (by simp)).trans hq4; obtain ⟨k40, k41, k4f, k4g⟩ := cells_at2 hq))
          have hq2 := set_two (u' := .int .i64 r1) (v' := .int .i64 r2) hq
          obtain ⟨q0, q1, q0f, q1f⟩ := cells_at2 hq2
          refine bodyPost_ret (v := .agg #[.int .i64 r1, .int .i64 r2]) (by simp [results, Tryd.f54, go_sem, q0, q1]) rfl ?_
          exact ⟨rfl, ((hB0.trans (hb1.mono (by simp; omega))).setCell (by simp) _).setCell (by simp) _⟩
        · rw [if_neg e4] at h
          have b4 : (a0_0 == 4) = false := beq_eq_false_iff_ne.mpr e4
          by_cases e5 : a0_0 = 5
          · rw [if_pos e5] at h
            have b5 : (a0_0 == 5) = true := beq_iff_eq.mpr e5
            have H := Aside0.mk h
            clear h e1 e2 e3 e4 e5
            go_enter Tryd.func54, Tryd.ntmps54
            go_wp2_with (first | (go_at_call 31; refine (money_Min.calls k a0_1 a0_2 a0_3 a0_4 r1 r2 _ H.out hT).mono ?_; rintro e w1 ⟨rfl, hb1⟩; have hq := (hb1.block _ (by simp)).trans hq4; obtain ⟨k40, k41, k4f, k4g⟩ := cells_at2 hq))
            have hq2 := set_two (u' := .int .i64 r1) (v' := .int .i64 r2) hq
            obtain ⟨q0, q1, q0f, q1f⟩ := cells_at2 hq2
            refine bodyPost_ret (v := .agg #[.int .i64 r1, .int .i64 r2]) (by simp [results, Tryd.f54, go_sem, q0, q1]) rfl ?_
            exact ⟨rfl, ((hB0.trans (hb1.mono (by simp; omega))).setCell (by simp) _).setCell (by simp) _⟩
          · rw [if_neg e5] at h
            have b5 : (a0_0 == 5) = false := beq_eq_false_iff_ne.mpr e5
            by_cases e6 : a0_0 = 6
            · rw [if_pos e6] at h
              have b6 : (a0_0 == 6) = true := beq_iff_eq.mpr e6
              have H := Aside0.mk h
              clear h e1 e2 e3 e4 e5 e6
              go_enter Tryd.func54, Tryd.ntmps54
              go_wp2_with (first | (go_at_call 33; refine (money_Max.calls k a0_1 a0_2 a0_3 a0_4 r1 r2 _ H.out hT).mono ?_; rintro e w1 ⟨rfl, hb1⟩; have hq := (hb1.block _ (by simp)).trans hq4; obtain ⟨k40, k41, k4f, k4g⟩ := cells_at2 hq))
              have hq2 := set_two (u' := .int .i64 r1) (v' := .int .i64 r2) hq
              obtain ⟨q0, q1, q0f, q1f⟩ := cells_at2 hq2
              refine bodyPost_ret (v := .agg #[.int .i64 r1, .int .i64 r2]) (by simp [results, Tryd.f54, go_sem, q0, q1]) rfl ?_
              exact ⟨rfl, ((hB0.trans (hb1.mono (by simp; omega))).setCell (by simp) _).setCell (by simp) _⟩
            · rw [if_neg e6] at h
              have b6 : (a0_0 == 6) = false := beq_eq_false_iff_ne.mpr e6
              by_cases e7 : a0_0 = 7
              · rw [if_pos e7] at h
                have b7 : (a0_0 == 7) = true := beq_iff_eq.mpr e7
                have H := Aside0.mk h
                clear h e1 e2 e3 e4 e5 e6 e7
                go_enter Tryd.func54, Tryd.ntmps54
                go_wp2_with (first | (go_at_call 35; refine (money_Clamp.calls k a0_1 a0_2 a0_3 a0_4 a0_5 a0_6 r1 r2 _ H.out hT).mono ?_; rintro e w1 ⟨rfl, hb1⟩; have hq := (hb1.block _ (by simp)).trans hq4; obtain ⟨k40, k41, k4f, k4g⟩ := cells_at2 hq))
                have hq2 := set_two (u' := .int .i64 r1) (v' := .int .i64 r2) hq
                obtain ⟨q0, q1, q0f, q1f⟩ := cells_at2 hq2
                refine bodyPost_ret (v := .agg #[.int .i64 r1, .int .i64 r2]) (by simp [results, Tryd.f54, go_sem, q0, q1]) rfl ?_
                exact ⟨rfl, ((hB0.trans (hb1.mono (by simp; omega))).setCell (by simp) _).setCell (by simp) _⟩
              · rw [if_neg e7] at h
                have b7 : (a0_0 == 7) = false := beq_eq_false_iff_ne.mpr e7
                by_cases e8 : a0_0 = 8
                · rw [if_pos e8] at h
                  have b8 : (a0_0 == 8) = true := beq_iff_eq.mpr e8
                  have H := Aside0.mk h
                  clear h e1 e2 e3 e4 e5 e6 e7 e8
                  go_enter Tryd.func54, Tryd.ntmps54
                  go_wp2_with (first | (go_at_call 49; refine (money_Scale.calls k a0_1 a0_2 a0_7 a0_8 a0_9 r1 r2 _ H.out hT).mono ?_; rintro e w1 ⟨rfl, hb1⟩; have hq := (hb1.block _ (by simp)).trans hq4; obtain ⟨k40, k41, k4f, k4g⟩ := cells_at2 hq))
                  have hq2 := set_two (u' := .int .i64 r1) (v' := .int .i64 r2) hq
                  obtain ⟨q0, q1, q0f, q1f⟩ := cells_at2 hq2
                  refine bodyPost_ret (v := .agg #[.int .i64 r1, .int .i64 r2]) (by simp [results, Tryd.f54, go_sem, q0, q1]) rfl ?_
                  exact ⟨rfl, ((hB0.trans (hb1.mono (by simp; omega))).setCell (by simp) _).setCell (by simp) _⟩
                · rw [if_neg e8] at h
                  have b8 : (a0_0 == 8) = false := beq_eq_false_iff_ne.mpr e8
                  by_cases e9 : a0_0 = 9
                  · rw [if_pos e9] at h
                    have b9 : (a0_0 == 9) = true := beq_iff_eq.mpr e9
                    have H := Aside0.mk h
                    clear h e1 e2 e3 e4 e5 e6 e7 e8 e9
                    go_enter Tryd.func54, Tryd.ntmps54
                    go_wp2_with (first | (go_at_call 41; refine (money_Times.calls k a0_1 a0_2 a0_3 a0_4 r1 r2 _ H.out hT).mono ?_; rintro e w1 ⟨rfl, hb1⟩; have hq := (hb1.block _ (by simp)).trans hq4; obtain ⟨k40, k41, k4f, k4g⟩ := cells_at2 hq))
                    have hq2 := set_two (u' := .int .i64 r1) (v' := .int .i64 r2) hq
                    obtain ⟨q0, q1, q0f, q1f⟩ := cells_at2 hq2
                    refine bodyPost_ret (v := .agg #[.int .i64 r1, .int .i64 r2]) (by simp [results, Tryd.f54, go_sem, q0, q1]) rfl ?_
                    exact ⟨rfl, ((hB0.trans (hb1.mono (by simp; omega))).setCell (by simp) _).setCell (by simp) _⟩
                  · rw [if_neg e9] at h
                    have b9 : (a0_0 == 9) = false := beq_eq_false_iff_ne.mpr e9
                    by_cases e10 : a0_0 = 10
                    · rw [if_pos e10] at h
                      have b10 : (a0_0 == 10) = true := beq_iff_eq.mpr e10
                      have H := Aside0.mk h
                      clear h e1 e2 e3 e4 e5 e6 e7 e8 e9 e10
                      go_enter Tryd.func54, Tryd.ntmps54
                      go_wp2_with (first | (go_at_call 47; refine (money_Split.calls k a0_1 a0_2 a0_3 a0_4 a0_9 r1 r2 _ H.out hT).mono ?_; rintro e w1 ⟨rfl, hb1⟩; have hq := (hb1.block _ (by simp)).trans hq4; obtain ⟨k40, k41, k4f, k4g⟩ := cells_at2 hq))
                      have hq2 := set_two (u' := .int .i64 r1) (v' := .int .i64 r2) hq
                      obtain ⟨q0, q1, q0f, q1f⟩ := cells_at2 hq2
                      refine bodyPost_ret (v := .agg #[.int .i64 r1, .int .i64 r2]) (by simp [results, Tryd.f54, go_sem, q0, q1]) rfl ?_
                      exact ⟨rfl, ((hB0.trans (hb1.mono (by simp; omega))).setCell (by simp) _).setCell (by simp) _⟩
                    · rw [if_neg e10] at h
                      have b10 : (a0_0 == 10) = false := beq_eq_false_iff_ne.mpr e10
                      by_cases e11 : a0_0 = 11
                      · rw [if_pos e11] at h
                        have b11 : (a0_0 == 11) = true := beq_iff_eq.mpr e11
                        have H := Aside0.mk h
                        clear h e1 e2 e3 e4 e5 e6 e7 e8 e9 e10 e11
                        go_enter Tryd.func54, Tryd.ntmps54
                        go_wp2_with (first | (go_at_call 39; refine (money_Round.calls k a0_1 a0_2 a0_7 a0_9 r1 r2 _ H.out hT).mono ?_; rintro e w1 ⟨rfl, hb1⟩; have hq := (hb1.block _ (by simp)).trans hq4; obtain ⟨k40, k41, k4f, k4g⟩ := cells_at2 hq))
                        have hq2 := set_two (u' := .int .i64 r1) (v' := .int .i64 r2) hq
                        obtain ⟨q0, q1, q0f, q1f⟩ := cells_at2 hq2
                        refine bodyPost_ret (v := .agg #[.int .i64 r1, .int .i64 r2]) (by simp [results, Tryd.f54, go_sem, q0, q1]) rfl ?_
                        exact ⟨rfl, ((hB0.trans (hb1.mono (by simp; omega))).setCell (by simp) _).setCell (by simp) _⟩
                      · rw [if_neg e11] at h
                        have b11 : (a0_0 == 11) = false := beq_eq_false_iff_ne.mpr e11
                        by_cases e12 : a0_0 = 12
                        · rw [if_pos e12] at h
                          have b12 : (a0_0 == 12) = true := beq_iff_eq.mpr e12
                          have H := Aside0.mk h
                          clear h e1 e2 e3 e4 e5 e6 e7 e8 e9 e10 e11 e12
                          go_enter Tryd.func54, Tryd.ntmps54
                          go_wp2_with (first | (go_at_call 37; refine (money_Compare.calls k a0_9 a0_1 a0_2 a0_3 a0_4 r1 r2 _ H.out hT).mono ?_; rintro e w1 ⟨rfl, hb1⟩; have hq := (hb1.block _ (by simp)).trans hq4; obtain ⟨k40, k41, k4f, k4g⟩ := cells_at2 hq))
                          have hq2 := set_two (u' := .int .i64 r1) (v' := .int .i64 r2) hq
                          obtain ⟨q0, q1, q0f, q1f⟩ := cells_at2 hq2
                          refine bodyPost_ret (v := .agg #[.int .i64 r1, .int .i64 r2]) (by simp [results, Tryd.f54, go_sem, q0, q1]) rfl ?_
                          exact ⟨rfl, ((hB0.trans (hb1.mono (by simp; omega))).setCell (by simp) _).setCell (by simp) _⟩
                        · rw [if_neg e12] at h
                          have b12 : (a0_0 == 12) = false := beq_eq_false_iff_ne.mpr e12
                          by_cases e13 : a0_0 = 13
                          · rw [if_pos e13] at h
                            have b13 : (a0_0 == 13) = true := beq_iff_eq.mpr e13
                            have H := Aside0.mk h
                            clear h e1 e2 e3 e4 e5 e6 e7 e8 e9 e10 e11 e12 e13
                            go_enter Tryd.func54, Tryd.ntmps54
                            go_wp2_with (first | (go_at_call 45; refine (money_Bracket.calls k A0_10 c0_10 l0_10 a0_1 a0_2 r1 r2 _ (Kd.C_below hr0_10 hB0) hc0_10 H.out hT).mono ?_; rintro e w1 ⟨rfl, hb1⟩; have hq := (hb1.block _ (by simp)).trans hq4; obtain ⟨k40, k41, k4f, k4g⟩ := cells_at2 hq))
                            have hq2 := set_two (u' := .int .i64 r1) (v' := .int .i64 r2) hq
                            obtain ⟨q0, q1, q0f, q1f⟩ := cells_at2 hq2
                            refine bodyPost_ret (v := .agg #[.int .i64 r1, .int .i64 r2]) (by simp [results, Tryd.f54, go_sem, q0, q1]) rfl ?_
                            exact ⟨rfl, ((hB0.trans (hb1.mono (by simp; omega))).setCell (by simp) _).setCell (by simp) _⟩
                          · rw [if_neg e13] at h
                            have b13 : (a0_0 == 13) = false := beq_eq_false_iff_ne.mpr e13
                            by_cases e14 : a0_0 = 14
                            · rw [if_pos e14] at h
                              by_cases hl : l0_11.length ≤ 20000
                              · rw [if_pos hl] at h
                                obtain ⟨n1, ht1⟩ : ∃ n1, tkA a0_9 l0_11 = ((r1, r2), n1) := ⟨(tkA a0_9 l0_11).2, by rw [← Option.some.inj h]⟩
                                have b14 : (a0_0 == 14) = true := beq_iff_eq.mpr e14
                                have H := Aside0.mk h
                                clear h e1 e2 e3 e4 e5 e6 e7 e8 e9 e10 e11 e12 e13 e14
                                go_enter Tryd.func54, Tryd.ntmps54
                                go_wp2_with (first | (go_at_call 22; refine (sum_any (w.heap.size + 1 + 1) A0_11 c0_11 l0_11 hl a0_9 _ (by simp) (by omega) (fun h0 ad e => by have h1 := block_of_C hr0_11 h0 ad e; omega) ⟨by have := World.alloc_heap_new ((w.alloc (Obj.cells #[.int .i64 a0_0, .int .i64 a0_1, .int .i64 a0_2, .int .i64 a0_3, .int .i64 a0_4, .int .i64 a0_5, .int .i64 a0_6, .int .i64 a0_7, .int .i64 a0_8, .int .i64 a0_9, .slice A0_10 l0_10.length c0_10, .slice A0_11 l0_11.length c0_11] 83)).alloc (Obj.cells #[.int .i64 0, .int .i64 0] 23)) (Obj.cells #[.slice A0_11 l0_11.length c0_11, .int .i64 0] 30); simpa using this, Kd.C_alloc (Kd.C_below hr0_11 hB0) _⟩ (Kd.C_alloc hT _)).mono ?_; rw [ht1]; rintro e w1 ⟨rfl, hb1, _⟩; have hq := (hb1.block (w.heap.size + 1) (by simp) (by omega)).trans ((Below.heap_alloc _ _ _ (by simp)).trans hq4); obtain ⟨k40, k41, k4f, k4g⟩ := cells_at2 hq))
                                have hq2 := set_two (u' := .int .i64 r1) (v' := .int .i64 r2) hq
                                obtain ⟨q0, q1, q0f, q1f⟩ := cells_at2 hq2
                                refine bodyPost_ret (v := .agg #[.int .i64 r1, .int .i64 r2]) (by simp [results, Tryd.f54, go_sem, q0, q1]) rfl ?_
                                exact ⟨rfl, ((hB0.trans (((Below.refl _ _).alloc (Nat.le_refl _) _ |>.trans (hb1.below (by simp) (by simp))).mono (by simp; omega))).setCell (by simp) _).setCell (by simp) _⟩
                              · rw [if_neg hl] at h; cases h
                            · rw [if_neg e14] at h
                              have b14 : (a0_0 == 14) = false := beq_eq_false_iff_ne.mpr e14
                              obtain ⟨t, hv, h⟩ := Option.bind_eq_some_iff.mp h
                              have HV := Aside0.mk hv
                              clear hv
                              cases t
                              · rw [if_neg (by decide)] at h
                                cases h
                                clear e1 e2 e3 e4 e5 e6 e7 e8 e9 e10 e11 e12 e13 e14
                                go_enter Tryd.func54, Tryd.ntmps54
                                go_wp2_with (first | (go_at_call 18; refine (money_Valid.calls a0_1 a0_2 false _ HV.out hT).mono ?_; rintro e w1 ⟨rfl, hb1⟩; have hq := (hb1.block _ (by simp)).trans hq4; obtain ⟨k40, k41, k4f, k4g⟩ := cells_at2 hq))
                                have hq2 := set_two (u' := .int .i64 (3)) (v' := .int .i64 (0)) hq
                                obtain ⟨q0, q1, q0f, q1f⟩ := cells_at2 hq2
                                refine bodyPost_ret (v := .agg #[.int .i64 (3), .int .i64 (0)]) (by simp [results, Tryd.f54, go_sem, q0, q1]) rfl ?_
                                exact ⟨rfl, ((hB0.trans (hb1.mono (by simp; omega))).setCell (by simp) _).setCell (by simp) _⟩
                              · rw [if_pos rfl] at h
                                cases h
                                clear e1 e2 e3 e4 e5 e6 e7 e8 e9 e10 e11 e12 e13 e14
                                go_enter Tryd.func54, Tryd.ntmps54
                                go_wp2_with (first | (go_at_call 18; refine (money_Valid.calls a0_1 a0_2 true _ HV.out hT).mono ?_; rintro e w1 ⟨rfl, hb1⟩; have hq := (hb1.block _ (by simp)).trans hq4; obtain ⟨k40, k41, k4f, k4g⟩ := cells_at2 hq))
                                have hq2 := set_two (u' := .int .i64 (3)) (v' := .int .i64 (1)) hq
                                obtain ⟨q0, q1, q0f, q1f⟩ := cells_at2 hq2
                                refine bodyPost_ret (v := .agg #[.int .i64 (3), .int .i64 (1)]) (by simp [results, Tryd.f54, go_sem, q0, q1]) rfl ?_
                                exact ⟨rfl, ((hB0.trans (hb1.mono (by simp; omega))).setCell (by simp) _).setCell (by simp) _⟩
end Go.Proofs.YtnjhjaifmgjljaaDoor.PM
end

section
namespace Go.Proofs.YtnjhjaifmgjljaaDoor.PM
open Go.RowKit Go.Proofs.YtnjhjaifmgjljaaDoorW.PrintWords Go.Proofs.YtnjhjaifmgjljaaDoorW.PrintLast Go.Proofs.YtnjhjaifmgjljaaDoorW.PrintMore
attribute [local go_sem] max2_int min2_int max_two min_two max_three min_three max_four min_four
set_option linter.unusedVariables false
set_option linter.unusedSimpArgs false
attribute [local go_sem high] eqA23
mutual
def levylaw1_MoneySafe.l0 : Nat → List (S83) → Int → Int → Int → Option (Bool)
 | 0, _, _, _, _ => none
 | k + 1, x0, x4, x900000, x900001 => if x4 < (x0.length : Int) then (levylaw1_MoneySafe.j1 k x0 x4 (decide (x4 < 60)) x900000 x900001) else (levylaw1_MoneySafe.j1 k x0 x4 false x900000 x900001)
def levylaw1_MoneySafe.j1 : Nat → List (S83) → Int → Bool → Int → Int → Option (Bool)
 | 0, _, _, _, _, _ => none
 | k + 1, x0, x4, x17, x900000, x900001 => if x17 = true then (if 0 ≤ x4 then (if x4 < (x0.length : Int) then (if (((rd_T83 x0 x4).f8).length : Int) > 16384 then (some true) else (if ((rd_T83 x0 x4).f0) = 0 then (levylaw1_MoneySafe.j2 k x0 x4 (wrap64 (1 + (wrap64 (Int.tmod (IntKind.u64.wrap ((rd_T83 x0 x4).f4)) 13)))) x900000 x900001 ((rd_T83 x0 x4).f2.f0) ((rd_T83 x0 x4).f2.f1) ((rd_T83 x0 x4).f3.f0) ((rd_T83 x0 x4).f3.f1) ((rd_T83 x0 x4).f4) ((rd_T83 x0 x4).f5) ((rd_T83 x0 x4).f6) ((rd_T83 x0 x4).f7) ((rd_T83 x0 x4).f8)) else (levylaw1_MoneySafe.j2 k x0 x4 ((rd_T83 x0 x4).f0) ((rd_T83 x0 x4).f1.f0) ((rd_T83 x0 x4).f1.f1) ((rd_T83 x0 x4).f2.f0) ((rd_T83 x0 x4).f2.f1) ((rd_T83 x0 x4).f3.f0) ((rd_T83 x0 x4).f3.f1) ((rd_T83 x0 x4).f4) ((rd_T83 x0 x4).f5) ((rd_T83 x0 x4).f6) ((rd_T83 x0 x4).f7) ((rd_T83 x0 x4).f8)))) else (none)) else (none)) else (some true)
def levylaw1_MoneySafe.j2 : Nat → List (S83) → Int → Int → Int → Int → Int → Int → Int → Int → Int → Int → Int → List (S72) → List (S23) → Option (Bool)
 | 0, _, _, _, _, _, _, _, _, _, _, _, _, _, _ => none
 | k + 1, x0, x4, x902000, x902001, x902002, x902003, x902004, x902005, x902006, x902007, x902008, x902009, x902010, x902011 => (levylaw1_does.f k x902000 x902001 x902002 x902003 x902004 x902005 x902006 x902007 x902008 x902009 x902010 x902011).bind fun bt902 => ((money_Valid.f bt902.1 bt902.2).bind fun t905 => (if t905 = true then (levylaw1_MoneySafe.j3 k x0 x4 (bt902.1 == 0) x902000 x902001 x902002 x902003 x902004 x902005 x902006 x902007 x902008 x902009 x902010 x902011 bt902.1 bt902.2) else (levylaw1_MoneySafe.j3 k x0 x4 true x902000 x902001 x902002 x902003 x902004 x902005 x902006 x902007 x902008 x902009 x902010 x902011 bt902.1 bt902.2)))
def levylaw1_MoneySafe.j3 : Nat → List (S83) → Int → Bool → Int → Int → Int → Int → Int → Int → Int → Int → Int → Int → List (S72) → List (S23) → Int → Int → Option (Bool)
 | 0, _, _, _, _, _, _, _, _, _, _, _, _, _, _, _, _, _ => none
 | k + 1, x0, x4, x49, x902000, x902001, x902002, x902003, x902004, x902005, x902006, x902007, x902008, x902009, x902010, x902011, x905000, x905001 => if x49 = true then (some false) else (if x902000 ≥ 1 then (if x902000 ≤ 13 then (if x902001 = 6 then ((money_Valid.f x902001 x902002).bind fun t906 => (if t906 = true then (if (!(x905000 == x902001) || (!(x905001 == x902002))) = true then (some false) else (levylaw1_MoneySafe.l0 k x0 (wrap64 (x4 + 1)) x905000 x905001)) else (levylaw1_MoneySafe.l0 k x0 (wrap64 (x4 + 1)) x905000 x905001))) else (levylaw1_MoneySafe.l0 k x0 (wrap64 (x4 + 1)) x905000 x905001)) else (levylaw1_MoneySafe.l0 k x0 (wrap64 (x4 + 1)) x905000 x905001)) else (levylaw1_MoneySafe.l0 k x0 (wrap64 (x4 + 1)) x905000 x905001))
end
def levylaw1_MoneySafe.f (k : Nat) (l0 : List (S83)) : Option (Bool) := (levylaw1_known.f k).bind fun t896 => (if t896 = true then ((levylaw1_c.f 1).bind fun bt897 => (levylaw1_MoneySafe.l0 k l0 0 bt897.1 bt897.2)) else (some false))
theorem levylaw1_MoneySafe.mono_l : ∀ k, (∀ y0 y1 y2 y3, LeO (levylaw1_MoneySafe.l0 k y0 y1 y2 y3) (levylaw1_MoneySafe.l0 (k + 1) y0 y1 y2 y3)) ∧ (∀ y0 y1 y2 y3 y4, LeO (levylaw1_MoneySafe.j1 k y0 y1 y2 y3 y4) (levylaw1_MoneySafe.j1 (k + 1) y0 y1 y2 y3 y4)) ∧ (∀ y0 y1 y2 y3 y4 y5 y6 y7 y8 y9 y10 y11 y12 y13, LeO (levylaw1_MoneySafe.j2 k y0 y1 y2 y3 y4 y5 y6 y7 y8 y9 y10 y11 y12 y13) (levylaw1_MoneySafe.j2 (k + 1) y0 y1 y2 y3 y4 y5 y6 y7 y8 y9 y10 y11 y12 y13)) ∧ (∀ y0 y1 y2 y3 y4 y5 y6 y7 y8 y9 y10 y11 y12 y13 y14 y15 y16, LeO (levylaw1_MoneySafe.j3 k y0 y1 y2 y3 y4 y5 y6 y7 y8 y9 y10 y11 y12 y13 y14 y15 y16) (levylaw1_MoneySafe.j3 (k + 1) y0 y1 y2 y3 y4 y5 y6 y7 y8 y9 y10 y11 y12 y13 y14 y15 y16))
 | 0 => ⟨fun _ _ _ _ r h => by simp [levylaw1_MoneySafe.l0] at h, fun _ _ _ _ _ r h => by simp [levylaw1_MoneySafe.j1] at h, fun _ _ _ _ _ _ _ _ _ _ _ _ _ _ r h => by simp [levylaw1_MoneySafe.j2] at h, fun _ _ _ _ _ _ _ _ _ _ _ _ _ _ _ _ _ r h => by simp [levylaw1_MoneySafe.j3] at h⟩
 | k + 1 => by
  obtain ⟨ih0, ih1, ih2, ih3⟩ := levylaw1_MoneySafe.mono_l k
  refine ⟨?_, ?_, ?_, ?_⟩
  ·intro y0 y1 y2 y3
   unfold levylaw1_MoneySafe.l0
   repeat' first
   | (with_reducible exact ih0 _ _ _ _)
   | (with_reducible exact ih1 _ _ _ _ _)
   | (with_reducible exact ih2 _ _ _ _ _ _ _ _ _ _ _ _ _ _)
   | (with_reducible exact ih3 _ _ _ _ _ _ _ _ _ _ _ _ _ _ _ _ _)
   | (with_reducible exact levylaw1_does.mono _ _ _ _ _ _ _ _ _ _ _ _ _)
   | (with_reducible exact levylaw1_known.mono _)
   | (with_reducible exact LeO.refl _)
   | (with_reducible exact LeO.none _)
   | (with_reducible refine LeO.ite ?_ ?_)
   | (with_reducible refine LeO.bind ?_ (fun _ => ?_))
   | exact ih0 _ _ _ _
   | exact ih1 _ _ _ _ _
   | exact ih2 _ _ _ _ _ _ _ _ _ _ _ _ _ _
   | exact ih3 _ _ _ _ _ _ _ _ _ _ _ _ _ _ _ _ _
   | exact levylaw1_does.mono _ _ _ _ _ _ _ _ _ _ _ _ _
   | exact levylaw1_known.mono _
   | exact LeO.none _
   | refine LeO.ite ?_ ?_
   | refine LeO.bind ?_ (fun _ => ?_)
  ·intro y0 y1 y2 y3 y4
   unfold levylaw1_MoneySafe.j1
   repeat' first
   | (with_reducible exact ih0 _ _ _ _)
   | (with_reducible exact ih1 _ _ _ _ _)
   | (with_reducible exact ih2 _ _ _ _ _ _ _ _ _ _ _ _ _ _)
   | (with_reducible exact ih3 _ _ _ _ _ _ _ _ _ _ _ _ _ _ _ _ _)
   | (with_reducible exact levylaw1_does.mono _ _ _ _ _ _ _ _ _ _ _ _ _)
   | (with_reducible exact levylaw1_known.mono _)
   | (with_reducible exact LeO.refl _)
   | (with_reducible exact LeO.none _)
   | (with_reducible refine LeO.ite ?_ ?_)
   | (with_reducible refine LeO.bind ?_ (fun _ => ?_))
   | exact ih0 _ _ _ _
   | exact ih1 _ _ _ _ _
   | exact ih2 _ _ _ _ _ _ _ _ _ _ _ _ _ _
   | exact ih3 _ _ _ _ _ _ _ _ _ _ _ _ _ _ _ _ _
   | exact levylaw1_does.mono _ _ _ _ _ _ _ _ _ _ _ _ _
   | exact levylaw1_known.mono _
   | exact LeO.none _
   | refine LeO.ite ?_ ?_
   | refine LeO.bind ?_ (fun _ => ?_)
  ·intro y0 y1 y2 y3 y4 y5 y6 y7 y8 y9 y10 y11 y12 y13
   unfold levylaw1_MoneySafe.j2
   repeat' first
   | (with_reducible exact ih0 _ _ _ _)
   | (with_reducible exact ih1 _ _ _ _ _)
   | (with_reducible exact ih2 _ _ _ _ _ _ _ _ _ _ _ _ _ _)
   | (with_reducible exact ih3 _ _ _ _ _ _ _ _ _ _ _ _ _ _ _ _ _)
   | (with_reducible exact levylaw1_does.mono _ _ _ _ _ _ _ _ _ _ _ _ _)
   | (with_reducible exact levylaw1_known.mono _)
   | (with_reducible exact LeO.refl _)
   | (with_reducible exact LeO.none _)
   | (with_reducible refine LeO.ite ?_ ?_)
   | (with_reducible refine LeO.bind ?_ (fun _ => ?_))
   | exact ih0 _ _ _ _
   | exact ih1 _ _ _ _ _
   | exact ih2 _ _ _ _ _ _ _ _ _ _ _ _ _ _
   | exact ih3 _ _ _ _ _ _ _ _ _ _ _ _ _ _ _ _ _
   | exact levylaw1_does.mono _ _ _ _ _ _ _ _ _ _ _ _ _
   | exact levylaw1_known.mono _
   | exact LeO.none _
   | refine LeO.ite ?_ ?_
   | refine LeO.bind ?_ (fun _ => ?_)
  ·intro y0 y1 y2 y3 y4 y5 y6 y7 y8 y9 y10 y11 y12 y13 y14 y15 y16
   unfold levylaw1_MoneySafe.j3
   repeat' first
   | (with_reducible exact ih0 _ _ _ _)
   | (with_reducible exact ih1 _ _ _ _ _)
   | (with_reducible exact ih2 _ _ _ _ _ _ _ _ _ _ _ _ _ _)
   | (with_reducible exact ih3 _ _ _ _ _ _ _ _ _ _ _ _ _ _ _ _ _)
   | (with_reducible exact levylaw1_does.mono _ _ _ _ _ _ _ _ _ _ _ _ _)
   | (with_reducible exact levylaw1_known.mono _)
   | (with_reducible exact LeO.refl _)
   | (with_reducible exact LeO.none _)
   | (with_reducible refine LeO.ite ?_ ?_)
   | (with_reducible refine LeO.bind ?_ (fun _ => ?_))
   | exact ih0 _ _ _ _
   | exact ih1 _ _ _ _ _
   | exact ih2 _ _ _ _ _ _ _ _ _ _ _ _ _ _
   | exact ih3 _ _ _ _ _ _ _ _ _ _ _ _ _ _ _ _ _
   | exact levylaw1_does.mono _ _ _ _ _ _ _ _ _ _ _ _ _
   | exact levylaw1_known.mono _
   | exact LeO.none _
   | refine LeO.ite ?_ ?_
   | refine LeO.bind ?_ (fun _ => ?_)
theorem levylaw1_MoneySafe.mono : ∀ a0 k, LeO (levylaw1_MoneySafe.f k a0) (levylaw1_MoneySafe.f (k + 1) a0) := by
 intro a0 k
 obtain ⟨ih0, ih1, ih2, ih3⟩ := levylaw1_MoneySafe.mono_l k
 unfold levylaw1_MoneySafe.f
 repeat' first
   | (with_reducible exact ih0 _ _ _ _)
   | (with_reducible exact ih1 _ _ _ _ _)
   | (with_reducible exact ih2 _ _ _ _ _ _ _ _ _ _ _ _ _ _)
   | (with_reducible exact ih3 _ _ _ _ _ _ _ _ _ _ _ _ _ _ _ _ _)
   | (with_reducible exact levylaw1_does.mono _ _ _ _ _ _ _ _ _ _ _ _ _)
   | (with_reducible exact levylaw1_known.mono _)
   | (with_reducible exact LeO.refl _)
   | (with_reducible exact LeO.none _)
   | (with_reducible refine LeO.ite ?_ ?_)
   | (with_reducible refine LeO.bind ?_ (fun _ => ?_))
   | exact ih0 _ _ _ _
   | exact ih1 _ _ _ _ _
   | exact ih2 _ _ _ _ _ _ _ _ _ _ _ _ _ _
   | exact ih3 _ _ _ _ _ _ _ _ _ _ _ _ _ _ _ _ _
   | exact levylaw1_does.mono _ _ _ _ _ _ _ _ _ _ _ _ _
   | exact levylaw1_known.mono _
   | exact LeO.none _
   | refine LeO.ite ?_ ?_
   | refine LeO.bind ?_ (fun _ => ?_)
set_option maxHeartbeats 8000000 in
set_option maxRecDepth 100000 in
theorem levylaw1_MoneySafe.calls (k : Nat) (A0 : Option Addr) (c0 : Nat) (l0 : List (S83)) (r : Bool) (w : World) (hr0 : Kd.C k83 w A0 l0.length l0) (hc0 : l0.length ≤ c0) (h : levylaw1_MoneySafe.f k l0 = some r) (hg0 : Kd.C k87 w (some ⟨0, 0, none⟩) gtab0.length gtab0) :
  Calls Tryd.prog 16 #[.slice A0 l0.length c0] w fun e w' => e = .returned (.bool r) ∧ Below w.heap.size w w' := by
 have HG0 := Aside0.mk hg0
 clear hg0
 have hu23 := Tryd.underlying23
 have hu83 := Tryd.underlying83
 have HR0 := Aside0.mk hr0
 have HC0 := Aside0.mk hc0
 clear hr0 hc0
 have HB := Aside0.mk (Below.refl w.heap.size w)
 have H : ((levylaw1_known.f k).bind fun t896 => (if t896 = true then ((levylaw1_c.f 1).bind fun bt897 => (levylaw1_MoneySafe.l0 k l0 0 bt897.1 bt897.2)) else (some false))) = some r := h
 clear h
 replace H := Option.bind_eq_some_iff.mp H
 obtain ⟨t896, A20, H⟩ := H
 replace H : (if t896 = true then ((levylaw1_c.f 1).bind fun bt897 => (levylaw1_MoneySafe.l0 k l0 0 bt897.1 bt897.2)) else (some false)) = some r := H
 have A2 := Aside0.mk A20
 clear A20
 by_cases c3 : t896 = true
 ·subst c3
  have H1 : ((levylaw1_c.f 1).bind fun bt897 => (levylaw1_MoneySafe.l0 k l0 0 bt897.1 bt897.2)) = some r := by rw [if_pos rfl] at H; exact H
  clear H
  have H := H1
  clear H1
  replace H := Option.bind_eq_some_iff.mp H
  obtain ⟨⟨t897, t898⟩, A40, H⟩ := H
  replace H : (levylaw1_MoneySafe.l0 k l0 0 t897 t898) = some r := H
  have A4 := Aside0.mk A40
  clear A40
  have H' := Aside0.mk H
  clear H
  go_enter Tryd.func16, Tryd.ntmps16
  go_wp2_with (first | ((with_reducible refine gate_callee (f := 51) rfl ?_); refine goesL_ (some 7) rfl rfl Tryd.func51 (by kernel_rfl) rfl #[] rfl agx ?_; (with_reducible refine (levylaw1_known.calls k  true _ A2.out (by first | exact HG0.out | exact Kd.C_below HG0.out blx)).mono ?_); rintro e w5 ⟨rfl, hb⟩; refine ⟨_, rfl, ?_⟩; replace HB := Aside0.mk (below_step blx hb); (try clear hb); (try clear hb2); (try clear hk); (try clear hi)) | ((with_reducible refine gate_callee (f := 52) rfl ?_); refine goesL_ (some 9) rfl rfl Tryd.func52 (by kernel_rfl) rfl #[.int .i64 1] rfl agx ?_; (with_reducible refine (levylaw1_c.calls 1 t897 t898 _ A4.out).mono ?_); rintro e w6 ⟨rfl, hb⟩; refine ⟨_, rfl, ?_⟩; replace HB := Aside0.mk (below_step blx hb); (try clear hb); (try clear hb2); (try clear hk); (try clear hi)) | ((with_reducible refine gate_dst (N := 3) rfl ?_); refine bxe (N := 3) (cs := #[.int .i64 0, .int .i64 0]) (t := 23) ?_; intro gb899 hg w7 hbox hb; have BK899 := Aside0.mk (hbox); have GW899 : Aside0 (w.heap.size ≤ gb899) := gwx hg; have GE899 : Aside0 (w.heap.size ≤ gb899) := gwx hg; replace HB := Aside0.mk (below_step blx hb); clear hb hbox hg; obtain ⟨hcz8_0, hcz8_1, hfz8_0, hfz8_1⟩ := c2_ BK899))
  go_loopg [4] k (fun kq v4 w' => ∃ (x4_1 : Int) (x900000_1 : Int) (x900001_1 : Int), v4 = .int .i64 x4_1 ∧ Aside0 (levylaw1_MoneySafe.l0 kq l0 x4_1 x900000_1 x900001_1 = some r) ∧ Aside0 (kq ≤ k) ∧ Aside0 (w'.heap[gb899]? = some (.cells #[.int .i64 x900000_1, .int .i64 x900001_1] 23 (0, 0))) ∧ Aside0 (Below w.heap.size w w'))
  case atStart => exact ⟨(0), (t897), (t898), (by first | rfl | (simp; done) | (simp [*]; done)), H', ⟨Nat.le_refl _⟩, ⟨by (with_reducible repeat (first | refine blk_drewN ?_ _ | refine blk_drew ?_ | refine blk_alloc ?_ _)); refine blk_put (cs := #[.int .i64 t897, .int .i64 0]) ?_ 1 _ rfl; (with_reducible repeat (first | refine blk_drewN ?_ _ | refine blk_drew ?_ | refine blk_alloc ?_ _)); refine blk_put (cs := #[.int .i64 0, .int .i64 0]) ?_ 0 _ rfl; (with_reducible repeat (first | refine blk_drewN ?_ _ | refine blk_drew ?_ | refine blk_alloc ?_ _)); exact BK899.out⟩, ⟨blx⟩⟩
  case round =>
   clear H'
   try clear c1
   try clear p2
   try clear c3
   try clear c5
   try clear hcz8_0
   try clear hcz8_1
   try clear hfz8_0
   try clear hfz8_1
   obtain ⟨x4_1, x900000_1, x900001_1, rfl, HA, HK1, BK899, HB⟩ := hrel
   cases gk with
   | zero => exact absurd HA.out (by simp [levylaw1_MoneySafe.l0])
   | succ k1 =>
    have H := HA.out
    clear HA
    simp only [levylaw1_MoneySafe.l0] at H
    have HC9 := Aside0.mk H
    clear H
    go_upto_region 5 with (fail)
    go_cut [17] (fun v17 wc => ∃ (kq : Nat) (x17_8 : Bool), v17 = .bool x17_8 ∧ Aside0 (levylaw1_MoneySafe.j1 kq l0 x4_1 x17_8 x900000_1 x900001_1 = some r) ∧ Aside0 (kq ≤ k1) ∧ Aside0 (wc.heap[gb899]? = some (.cells #[.int .i64 x900000_1, .int .i64 x900001_1] 23 (0, 0))) ∧ Aside0 (Below w.heap.size w wc))
    case first =>
     have H := HC9.out
     clear HC9
     by_cases c10 : x4_1 < (l0.length : Int)
     ·rw [if_pos c10] at H
      have c10b0 : decide (x4_1 < (l0.length : Int)) = true := decide_eq_true c10
      clear c10
      (first | rw [c10b0] | (simp only [i64_w, i32_w]; rw [c10b0]) | skip)
      have H' := Aside0.mk H
      clear H
      go_wp2
      go_meet
      case rel => exact ⟨_, (decide (x4_1 < 60)), (by first | rfl | (simp; done) | (simp [*]; done)), H', ⟨by have := HK1.out; first | omega | exact Nat.le_refl _⟩, ⟨bkx⟩, ⟨blx⟩⟩
     ·rw [if_neg c10] at H
      have c10b0 : decide (x4_1 < (l0.length : Int)) = false := decide_eq_false c10
      clear c10
      (first | rw [c10b0] | (simp only [i64_w, i32_w]; rw [c10b0]) | skip)
      have H' := Aside0.mk H
      clear H
      go_wp2
      go_meet
      case rel => exact ⟨_, (false), (by first | rfl | (simp; done) | (simp [*]; done)), H', ⟨by have := HK1.out; first | omega | exact Nat.le_refl _⟩, ⟨bkx⟩, ⟨blx⟩⟩
    case rest =>
     clear HC9
     try clear c1
     try clear p2
     try clear c3
     try clear c5
     try clear c10
     try clear c10b0
     try clear hcz8_0
     try clear hcz8_1
     try clear hfz8_0
     try clear hfz8_1
     try clear p2
     obtain ⟨kq, x17_8, rfl, HA, HJ8, BK899, HB⟩ := hcut
     cases kq with
     | zero => exact absurd HA.out (by simp [levylaw1_MoneySafe.j1])
     | succ kj8 =>
      have H := HA.out
      clear HA
      simp only [levylaw1_MoneySafe.j1] at H
      by_cases c11 : x17_8 = true
      ·subst c11
       have H1 : (if 0 ≤ x4_1 then (if x4_1 < (l0.length : Int) then (if (((rd_T83 l0 x4_1).f8).length : Int) > 16384 then (some true) else (if ((rd_T83 l0 x4_1).f0) = 0 then (levylaw1_MoneySafe.j2 kj8 l0 x4_1 (wrap64 (1 + (wrap64 (Int.tmod (IntKind.u64.wrap ((rd_T83 l0 x4_1).f4)) 13)))) x900000_1 x900001_1 ((rd_T83 l0 x4_1).f2.f0) ((rd_T83 l0 x4_1).f2.f1) ((rd_T83 l0 x4_1).f3.f0) ((rd_T83 l0 x4_1).f3.f1) ((rd_T83 l0 x4_1).f4) ((rd_T83 l0 x4_1).f5) ((rd_T83 l0 x4_1).f6) ((rd_T83 l0 x4_1).f7) ((rd_T83 l0 x4_1).f8)) else (levylaw1_MoneySafe.j2 kj8 l0 x4_1 ((rd_T83 l0 x4_1).f0) ((rd_T83 l0 x4_1).f1.f0) ((rd_T83 l0 x4_1).f1.f1) ((rd_T83 l0 x4_1).f2.f0) ((rd_T83 l0 x4_1).f2.f1) ((rd_T83 l0 x4_1).f3.f0) ((rd_T83 l0 x4_1).f3.f1) ((rd_T83 l0 x4_1).f4) ((rd_T83 l0 x4_1).f5) ((rd_T83 l0 x4_1).f6) ((rd_T83 l0 x4_1).f7) ((rd_T83 l0 x4_1).f8)))) else (none)) else (none)) = some r := by rw [if_pos rfl] at H; exact H
       clear H
       have H := H1
       clear H1
       by_cases c12 : 0 ≤ x4_1
       ·rw [if_pos c12] at H
        have c12b0 : decide (0 ≤ x4_1) = true := decide_eq_true c12
        clear c12
        by_cases c13 : x4_1 < (l0.length : Int)
        ·rw [if_pos c13] at H
         have c13b0 : decide (x4_1 < (l0.length : Int)) = true := decide_eq_true c13
         clear c13
         by_cases c14 : (((rd_T83 l0 x4_1).f8).length : Int) > 16384
         ·rw [if_pos c14] at H
          have c14b0 : decide (16384 < (((rd_T83 l0 x4_1).f8).length : Int)) = true := decide_eq_true c14
          have c14b1 : decide (16384 < ((rd_T83 l0 x4_1).f8).length) = true := decide_eq_true (by omega)
          clear c14
          obtain rfl := Option.some.inj H
          have p900 : 0 ≤ (x4_1 : Int) := odx
          have q900 : x4_1 < (l0.length : Int) := odx
          obtain ⟨ad900, A900_10, c900_10, A900_11, c900_11, e900, hx900_0, hx900_1, hx900_2, hx900_3, hx900_4, hx900_5, hx900_6, hx900_7, hx900_8, hx900_9, hx900_10, hx900_11, hl900_10, hi900_10, hl900_11, hi900_11⟩ := at_T83 HR0.out x4_1 p900 q900
          cases e900
          replace hx900_0 := (HB.out.cell (World.block_lt_of_cell? w _ hx900_0)).trans hx900_0
          replace hx900_1 := (HB.out.cell (World.block_lt_of_cell? w _ hx900_1)).trans hx900_1
          replace hx900_2 := (HB.out.cell (World.block_lt_of_cell? w _ hx900_2)).trans hx900_2
          replace hx900_3 := (HB.out.cell (World.block_lt_of_cell? w _ hx900_3)).trans hx900_3
          replace hx900_4 := (HB.out.cell (World.block_lt_of_cell? w _ hx900_4)).trans hx900_4
          replace hx900_5 := (HB.out.cell (World.block_lt_of_cell? w _ hx900_5)).trans hx900_5
          replace hx900_6 := (HB.out.cell (World.block_lt_of_cell? w _ hx900_6)).trans hx900_6
          replace hx900_7 := (HB.out.cell (World.block_lt_of_cell? w _ hx900_7)).trans hx900_7
          replace hx900_8 := (HB.out.cell (World.block_lt_of_cell? w _ hx900_8)).trans hx900_8
          replace hx900_9 := (HB.out.cell (World.block_lt_of_cell? w _ hx900_9)).trans hx900_9
          replace hx900_10 := (HB.out.cell (World.block_lt_of_cell? w _ hx900_10)).trans hx900_10
          replace hx900_11 := (HB.out.cell (World.block_lt_of_cell? w _ hx900_11)).trans hx900_11
          have HR900_10 := Aside0.mk hi900_10
          have HC900_10 := Aside0.mk hl900_10
          clear hi900_10 hl900_10
          have HR900_11 := Aside0.mk hi900_11
          have HC900_11 := Aside0.mk hl900_11
          clear hi900_11 hl900_11
          replace p900 := eq_true p900
          replace q900 := eq_true q900
          go_wp2_with (first | ((with_reducible refine gate_dst (N := 5) rfl ?_); refine bxe (N := 5) (cs := #[.int .i64 0, .int .i64 0, .int .i64 0, .int .i64 0, .int .i64 0, .int .i64 0, .int .i64 0, .int .i64 0, .int .i64 0, .int .i64 0, .slice none 0 0, .slice none 0 0]) (t := 83) ?_; intro gb901 hg w15 hbox hb; have BK901 := Aside0.mk (hbox); have GW901 : Aside0 (w.heap.size ≤ gb901) := gwx hg; have GE901 : Aside0 (w.heap.size ≤ gb901) := gwx hg; replace HB := Aside0.mk (below_step blx hb); have NB899_901 := nbl BK899 hg; have NB901_899 := nbg BK899 hg; replace BK899 := bkq BK899 hb; clear hb hbox hg; have hnb16 := NB901_899.out; have hnc16 := NB899_901.out; have hcz17_0 : w15.cell? ⟨gb901, 0, none⟩ = some (.int .i64 0) := (blk_cell BK901.out 0).trans rfl; have hcz17_1 : w15.cell? ⟨gb901, 1, none⟩ = some (.int .i64 0) := (blk_cell BK901.out 1).trans rfl; have hcz17_2 : w15.cell? ⟨gb901, 2, none⟩ = some (.int .i64 0) := (blk_cell BK901.out 2).trans rfl; have hcz17_3 : w15.cell? ⟨gb901, 3, none⟩ = some (.int .i64 0) := (blk_cell BK901.out 3).trans rfl; have hcz17_4 : w15.cell? ⟨gb901, 4, none⟩ = some (.int .i64 0) := (blk_cell BK901.out 4).trans rfl; have hcz17_5 : w15.cell? ⟨gb901, 5, none⟩ = some (.int .i64 0) := (blk_cell BK901.out 5).trans rfl; have hcz17_6 : w15.cell? ⟨gb901, 6, none⟩ = some (.int .i64 0) := (blk_cell BK901.out 6).trans rfl; have hcz17_7 : w15.cell? ⟨gb901, 7, none⟩ = some (.int .i64 0) := (blk_cell BK901.out 7).trans rfl; have hcz17_8 : w15.cell? ⟨gb901, 8, none⟩ = some (.int .i64 0) := (blk_cell BK901.out 8).trans rfl; have hcz17_9 : w15.cell? ⟨gb901, 9, none⟩ = some (.int .i64 0) := (blk_cell BK901.out 9).trans rfl; have hcz17_10 : w15.cell? ⟨gb901, 10, none⟩ = some (.slice none 0 0) := (blk_cell BK901.out 10).trans rfl; have hcz17_11 : w15.cell? ⟨gb901, 11, none⟩ = some (.slice none 0 0) := (blk_cell BK901.out 11).trans rfl; have hfz17_0 := blk_frozen BK901.out 0; have hfz17_1 := blk_frozen BK901.out 1; have hfz17_2 := blk_frozen BK901.out 2; have hfz17_3 := blk_frozen BK901.out 3; have hfz17_4 := blk_frozen BK901.out 4; have hfz17_5 := blk_frozen BK901.out 5; have hfz17_6 := blk_frozen BK901.out 6; have hfz17_7 := blk_frozen BK901.out 7; have hfz17_8 := blk_frozen BK901.out 8; have hfz17_9 := blk_frozen BK901.out 9; have hfz17_10 := blk_frozen BK901.out 10; have hfz17_11 := blk_frozen BK901.out 11))
          go_ret
          exact ⟨by first | rfl | (simp [errW_none, errW_some] <;> rfl) | (simp [*, errW_none, errW_some] <;> rfl), blx⟩
         ·rw [if_neg c14] at H
          have c14b0 : decide (16384 < (((rd_T83 l0 x4_1).f8).length : Int)) = false := decide_eq_false c14
          have c14b1 : decide (16384 < ((rd_T83 l0 x4_1).f8).length) = false := decide_eq_false (by omega)
          clear c14
          have HC18 := Aside0.mk H
          clear H
          have p900 : 0 ≤ (x4_1 : Int) := odx
          have q900 : x4_1 < (l0.length : Int) := odx
          obtain ⟨ad900, A900_10, c900_10, A900_11, c900_11, e900, hx900_0, hx900_1, hx900_2, hx900_3, hx900_4, hx900_5, hx900_6, hx900_7, hx900_8, hx900_9, hx900_10, hx900_11, hl900_10, hi900_10, hl900_11, hi900_11⟩ := at_T83 HR0.out x4_1 p900 q900
          cases e900
          replace hx900_0 := (HB.out.cell (World.block_lt_of_cell? w _ hx900_0)).trans hx900_0
          replace hx900_1 := (HB.out.cell (World.block_lt_of_cell? w _ hx900_1)).trans hx900_1
          replace hx900_2 := (HB.out.cell (World.block_lt_of_cell? w _ hx900_2)).trans hx900_2
          replace hx900_3 := (HB.out.cell (World.block_lt_of_cell? w _ hx900_3)).trans hx900_3
          replace hx900_4 := (HB.out.cell (World.block_lt_of_cell? w _ hx900_4)).trans hx900_4
          replace hx900_5 := (HB.out.cell (World.block_lt_of_cell? w _ hx900_5)).trans hx900_5
          replace hx900_6 := (HB.out.cell (World.block_lt_of_cell? w _ hx900_6)).trans hx900_6
          replace hx900_7 := (HB.out.cell (World.block_lt_of_cell? w _ hx900_7)).trans hx900_7
          replace hx900_8 := (HB.out.cell (World.block_lt_of_cell? w _ hx900_8)).trans hx900_8
          replace hx900_9 := (HB.out.cell (World.block_lt_of_cell? w _ hx900_9)).trans hx900_9
          replace hx900_10 := (HB.out.cell (World.block_lt_of_cell? w _ hx900_10)).trans hx900_10
          replace hx900_11 := (HB.out.cell (World.block_lt_of_cell? w _ hx900_11)).trans hx900_11
          have HR900_10 := Aside0.mk hi900_10
          have HC900_10 := Aside0.mk hl900_10
          clear hi900_10 hl900_10
          have HR900_11 := Aside0.mk hi900_11
          have HC900_11 := Aside0.mk hl900_11
          clear hi900_11 hl900_11
          replace p900 := eq_true p900
          replace q900 := eq_true q900
          go_upto_if 30 with (first | ((with_reducible refine gate_dst (N := 5) rfl ?_); refine bxe (N := 5) (cs := #[.int .i64 0, .int .i64 0, .int .i64 0, .int .i64 0, .int .i64 0, .int .i64 0, .int .i64 0, .int .i64 0, .int .i64 0, .int .i64 0, .slice none 0 0, .slice none 0 0]) (t := 83) ?_; intro gb901 hg w19 hbox hb; have BK901 := Aside0.mk (hbox); have GW901 : Aside0 (w.heap.size ≤ gb901) := gwx hg; have GE901 : Aside0 (w.heap.size ≤ gb901) := gwx hg; replace HB := Aside0.mk (below_step blx hb); have NB899_901 := nbl BK899 hg; have NB901_899 := nbg BK899 hg; replace BK899 := bkq BK899 hb; clear hb hbox hg; have hnb20 := NB901_899.out; have hnc20 := NB899_901.out; have hcz21_0 : w19.cell? ⟨gb901, 0, none⟩ = some (.int .i64 0) := (blk_cell BK901.out 0).trans rfl; have hcz21_1 : w19.cell? ⟨gb901, 1, none⟩ = some (.int .i64 0) := (blk_cell BK901.out 1).trans rfl; have hcz21_2 : w19.cell? ⟨gb901, 2, none⟩ = some (.int .i64 0) := (blk_cell BK901.out 2).trans rfl; have hcz21_3 : w19.cell? ⟨gb901, 3, none⟩ = some (.int .i64 0) := (blk_cell BK901.out 3).trans rfl; have hcz21_4 : w19.cell? ⟨gb901, 4, none⟩ = some (.int .i64 0) := (blk_cell BK901.out 4).trans rfl; have hcz21_5 : w19.cell? ⟨gb901, 5, none⟩ = some (.int .i64 0) := (blk_cell BK901.out 5).trans rfl; have hcz21_6 : w19.cell? ⟨gb901, 6, none⟩ = some (.int .i64 0) := (blk_cell BK901.out 6).trans rfl; have hcz21_7 : w19.cell? ⟨gb901, 7, none⟩ = some (.int .i64 0) := (blk_cell BK901.out 7).trans rfl; have hcz21_8 : w19.cell? ⟨gb901, 8, none⟩ = some (.int .i64 0) := (blk_cell BK901.out 8).trans rfl; have hcz21_9 : w19.cell? ⟨gb901, 9, none⟩ = some (.int .i64 0) := (blk_cell BK901.out 9).trans rfl; have hcz21_10 : w19.cell? ⟨gb901, 10, none⟩ = some (.slice none 0 0) := (blk_cell BK901.out 10).trans rfl; have hcz21_11 : w19.cell? ⟨gb901, 11, none⟩ = some (.slice none 0 0) := (blk_cell BK901.out 11).trans rfl; have hfz21_0 := blk_frozen BK901.out 0; have hfz21_1 := blk_frozen BK901.out 1; have hfz21_2 := blk_frozen BK901.out 2; have hfz21_3 := blk_frozen BK901.out 3; have hfz21_4 := blk_frozen BK901.out 4; have hfz21_5 := blk_frozen BK901.out 5; have hfz21_6 := blk_frozen BK901.out 6; have hfz21_7 := blk_frozen BK901.out 7; have hfz21_8 := blk_frozen BK901.out 8; have hfz21_9 := blk_frozen BK901.out 9; have hfz21_10 := blk_frozen BK901.out 10; have hfz21_11 := blk_frozen BK901.out 11))
          (try simp only [Act.put, List.setIfInBounds_toArray, List.set_cons_zero, List.set_cons_succ])
          go_cut [] (fun wc => ∃ (kq : Nat) (x902000_17 : Int) (x902001_17 : Int) (x902002_17 : Int), Aside0 (levylaw1_MoneySafe.j2 kq l0 x4_1 x902000_17 x902001_17 x902002_17 ((rd_T83 l0 x4_1).f2.f0) ((rd_T83 l0 x4_1).f2.f1) ((rd_T83 l0 x4_1).f3.f0) ((rd_T83 l0 x4_1).f3.f1) ((rd_T83 l0 x4_1).f4) ((rd_T83 l0 x4_1).f5) ((rd_T83 l0 x4_1).f6) ((rd_T83 l0 x4_1).f7) ((rd_T83 l0 x4_1).f8) = some r) ∧ Aside0 (kq ≤ kj8) ∧ Aside0 (wc.heap[gb899]? = some (.cells #[.int .i64 x900000_1, .int .i64 x900001_1] 23 (0, 0))) ∧ Aside0 (wc.heap[gb901]? = some (.cells #[.int .i64 x902000_17, .int .i64 x902001_17, .int .i64 x902002_17, .int .i64 ((rd_T83 l0 x4_1).f2.f0), .int .i64 ((rd_T83 l0 x4_1).f2.f1), .int .i64 ((rd_T83 l0 x4_1).f3.f0), .int .i64 ((rd_T83 l0 x4_1).f3.f1), .int .i64 ((rd_T83 l0 x4_1).f4), .int .i64 ((rd_T83 l0 x4_1).f5), .int .i64 ((rd_T83 l0 x4_1).f6), (.slice A900_10 ((rd_T83 l0 x4_1).f7).length c900_10), (.slice A900_11 ((rd_T83 l0 x4_1).f8).length c900_11)] 83 (0, 0))) ∧ Aside0 (Below w.heap.size w wc))
          case first =>
           have H := HC18.out
           clear HC18
           by_cases c22 : ((rd_T83 l0 x4_1).f0) = 0
           ·rw [if_pos c22] at H
            have c22b0 : (((rd_T83 l0 x4_1).f0) == 0) = true := beq_iff_eq.mpr c22
            have c22b1 : (((rd_T83 l0 x4_1).f0) != 0) = false := bne_eq_false_iff_eq.mpr c22
            clear c22
            (first | rw [c22b0] | (simp only [i64_w, i32_w]; rw [c22b0]) | skip)
            have H' := Aside0.mk H
            clear H
            have hnb23 := NB899_901.out
            have hnc23 := NB901_899.out
            obtain ⟨hcz24_0, hcz24_1, hfz24_0, hfz24_1⟩ := c2_ BK899
            have hcz25_0 : w19.cell? ⟨gb901, 0, none⟩ = some (.int .i64 0) := (blk_cell BK901.out 0).trans rfl
            have hcz25_1 : w19.cell? ⟨gb901, 1, none⟩ = some (.int .i64 0) := (blk_cell BK901.out 1).trans rfl
            have hcz25_2 : w19.cell? ⟨gb901, 2, none⟩ = some (.int .i64 0) := (blk_cell BK901.out 2).trans rfl
            have hcz25_3 : w19.cell? ⟨gb901, 3, none⟩ = some (.int .i64 0) := (blk_cell BK901.out 3).trans rfl
            have hcz25_4 : w19.cell? ⟨gb901, 4, none⟩ = some (.int .i64 0) := (blk_cell BK901.out 4).trans rfl
            have hcz25_5 : w19.cell? ⟨gb901, 5, none⟩ = some (.int .i64 0) := (blk_cell BK901.out 5).trans rfl
            have hcz25_6 : w19.cell? ⟨gb901, 6, none⟩ = some (.int .i64 0) := (blk_cell BK901.out 6).trans rfl
            have hcz25_7 : w19.cell? ⟨gb901, 7, none⟩ = some (.int .i64 0) := (blk_cell BK901.out 7).trans rfl
            have hcz25_8 : w19.cell? ⟨gb901, 8, none⟩ = some (.int .i64 0) := (blk_cell BK901.out 8).trans rfl
            have hcz25_9 : w19.cell? ⟨gb901, 9, none⟩ = some (.int .i64 0) := (blk_cell BK901.out 9).trans rfl
            have hcz25_10 : w19.cell? ⟨gb901, 10, none⟩ = some (.slice none 0 0) := (blk_cell BK901.out 10).trans rfl
            have hcz25_11 : w19.cell? ⟨gb901, 11, none⟩ = some (.slice none 0 0) := (blk_cell BK901.out 11).trans rfl
            have hfz25_0 := blk_frozen BK901.out 0
            have hfz25_1 := blk_frozen BK901.out 1
            have hfz25_2 := blk_frozen BK901.out 2
            have hfz25_3 := blk_frozen BK901.out 3
            have hfz25_4 := blk_frozen BK901.out 4
            have hfz25_5 := blk_frozen BK901.out 5
            have hfz25_6 := blk_frozen BK901.out 6
            have hfz25_7 := blk_frozen BK901.out 7
            have hfz25_8 := blk_frozen BK901.out 8
            have hfz25_9 := blk_frozen BK901.out 9
            have hfz25_10 := blk_frozen BK901.out 10
            have hfz25_11 := blk_frozen BK901.out 11
            go_wp2
            go_meet
            case rel => exact ⟨_, (wrap64 (1 + (wrap64 (Int.tmod (IntKind.u64.wrap ((rd_T83 l0 x4_1).f4)) 13)))), (x900000_1), (x900001_1), H', ⟨by have := HK1.out; have := HJ8.out; first | omega | exact Nat.le_refl _⟩, ⟨bkx⟩, ⟨by (with_reducible repeat (first | refine blk_drewN ?_ _ | refine blk_drew ?_ | refine blk_alloc ?_ _)); refine blk_put (cs := #[.int .i64 ((rd_T83 l0 x4_1).f0), .int .i64 x900000_1, .int .i64 x900001_1, .int .i64 ((rd_T83 l0 x4_1).f2.f0), .int .i64 ((rd_T83 l0 x4_1).f2.f1), .int .i64 ((rd_T83 l0 x4_1).f3.f0), .int .i64 ((rd_T83 l0 x4_1).f3.f1), .int .i64 ((rd_T83 l0 x4_1).f4), .int .i64 ((rd_T83 l0 x4_1).f5), .int .i64 ((rd_T83 l0 x4_1).f6), .slice A900_10 ((rd_T83 l0 x4_1).f7).length c900_10, .slice A900_11 ((rd_T83 l0 x4_1).f8).length c900_11]) ?_ 0 _ rfl; (with_reducible repeat (first | refine blk_drewN ?_ _ | refine blk_drew ?_ | refine blk_alloc ?_ _)); refine blk_put (cs := #[.int .i64 ((rd_T83 l0 x4_1).f0), .int .i64 x900000_1, .int .i64 ((rd_T83 l0 x4_1).f1.f1), .int .i64 ((rd_T83 l0 x4_1).f2.f0), .int .i64 ((rd_T83 l0 x4_1).f2.f1), .int .i64 ((rd_T83 l0 x4_1).f3.f0), .int .i64 ((rd_T83 l0 x4_1).f3.f1), .int .i64 ((rd_T83 l0 x4_1).f4), .int .i64 ((rd_T83 l0 x4_1).f5), .int .i64 ((rd_T83 l0 x4_1).f6), .slice A900_10 ((rd_T83 l0 x4_1).f7).length c900_10, .slice A900_11 ((rd_T83 l0 x4_1).f8).length c900_11]) ?_ 2 _ rfl; (with_reducible repeat (first | refine blk_drewN ?_ _ | refine blk_drew ?_ | refine blk_alloc ?_ _)); refine blk_put (cs := #[.int .i64 ((rd_T83 l0 x4_1).f0), .int .i64 ((rd_T83 l0 x4_1).f1.f0), .int .i64 ((rd_T83 l0 x4_1).f1.f1), .int .i64 ((rd_T83 l0 x4_1).f2.f0), .int .i64 ((rd_T83 l0 x4_1).f2.f1), .int .i64 ((rd_T83 l0 x4_1).f3.f0), .int .i64 ((rd_T83 l0 x4_1).f3.f1), .int .i64 ((rd_T83 l0 x4_1).f4), .int .i64 ((rd_T83 l0 x4_1).f5), .int .i64 ((rd_T83 l0 x4_1).f6), .slice A900_10 ((rd_T83 l0 x4_1).f7).length c900_10, .slice A900_11 ((rd_T83 l0 x4_1).f8).length c900_11]) ?_ 1 _ rfl; (with_reducible repeat (first | refine blk_drewN ?_ _ | refine blk_drew ?_ | refine blk_alloc ?_ _)); refine blk_put (cs := #[.int .i64 ((rd_T83 l0 x4_1).f0), .int .i64 ((rd_T83 l0 x4_1).f1.f0), .int .i64 ((rd_T83 l0 x4_1).f1.f1), .int .i64 ((rd_T83 l0 x4_1).f2.f0), .int .i64 ((rd_T83 l0 x4_1).f2.f1), .int .i64 ((rd_T83 l0 x4_1).f3.f0), .int .i64 ((rd_T83 l0 x4_1).f3.f1), .int .i64 ((rd_T83 l0 x4_1).f4), .int .i64 ((rd_T83 l0 x4_1).f5), .int .i64 ((rd_T83 l0 x4_1).f6), .slice A900_10 ((rd_T83 l0 x4_1).f7).length c900_10, .slice none 0 0]) ?_ 11 _ rfl; (with_reducible repeat (first | refine blk_drewN ?_ _ | refine blk_drew ?_ | refine blk_alloc ?_ _)); refine blk_put (cs := #[.int .i64 ((rd_T83 l0 x4_1).f0), .int .i64 ((rd_T83 l0 x4_1).f1.f0), .int .i64 ((rd_T83 l0 x4_1).f1.f1), .int .i64 ((rd_T83 l0 x4_1).f2.f0), .int .i64 ((rd_T83 l0 x4_1).f2.f1), .int .i64 ((rd_T83 l0 x4_1).f3.f0), .int .i64 ((rd_T83 l0 x4_1).f3.f1), .int .i64 ((rd_T83 l0 x4_1).f4), .int .i64 ((rd_T83 l0 x4_1).f5), .int .i64 ((rd_T83 l0 x4_1).f6), .slice none 0 0, .slice none 0 0]) ?_ 10 _ rfl; (with_reducible repeat (first | refine blk_drewN ?_ _ | refine blk_drew ?_ | refine blk_alloc ?_ _)); refine blk_put (cs := #[.int .i64 ((rd_T83 l0 x4_1).f0), .int .i64 ((rd_T83 l0 x4_1).f1.f0), .int .i64 ((rd_T83 l0 x4_1).f1.f1), .int .i64 ((rd_T83 l0 x4_1).f2.f0), .int .i64 ((rd_T83 l0 x4_1).f2.f1), .int .i64 ((rd_T83 l0 x4_1).f3.f0), .int .i64 ((rd_T83 l0 x4_1).f3.f1), .int .i64 ((rd_T83 l0 x4_1).f4), .int .i64 ((rd_T83 l0 x4_1).f5), .int .i64 0, .slice none 0 0, .slice none 0 0]) ?_ 9 _ rfl; (with_reducible repeat (first | refine blk_drewN ?_ _ | refine blk_drew ?_ | refine blk_alloc ?_ _)); refine blk_put (cs := #[.int .i64 ((rd_T83 l0 x4_1).f0), .int .i64 ((rd_T83 l0 x4_1).f1.f0), .int .i64 ((rd_T83 l0 x4_1).f1.f1), .int .i64 ((rd_T83 l0 x4_1).f2.f0), .int .i64 ((rd_T83 l0 x4_1).f2.f1), .int .i64 ((rd_T83 l0 x4_1).f3.f0), .int .i64 ((rd_T83 l0 x4_1).f3.f1), .int .i64 ((rd_T83 l0 x4_1).f4), .int .i64 0, .int .i64 0, .slice none 0 0, .slice none 0 0]) ?_ 8 _ rfl; (with_reducible repeat (first | refine blk_drewN ?_ _ | refine blk_drew ?_ | refine blk_alloc ?_ _)); refine blk_put (cs := #[.int .i64 ((rd_T83 l0 x4_1).f0), .int .i64 ((rd_T83 l0 x4_1).f1.f0), .int .i64 ((rd_T83 l0 x4_1).f1.f1), .int .i64 ((rd_T83 l0 x4_1).f2.f0), .int .i64 ((rd_T83 l0 x4_1).f2.f1), .int .i64 ((rd_T83 l0 x4_1).f3.f0), .int .i64 ((rd_T83 l0 x4_1).f3.f1), .int .i64 0, .int .i64 0, .int .i64 0, .slice none 0 0, .slice none 0 0]) ?_ 7 _ rfl; (with_reducible repeat (first | refine blk_drewN ?_ _ | refine blk_drew ?_ | refine blk_alloc ?_ _)); refine blk_put (cs := #[.int .i64 ((rd_T83 l0 x4_1).f0), .int .i64 ((rd_T83 l0 x4_1).f1.f0), .int .i64 ((rd_T83 l0 x4_1).f1.f1), .int .i64 ((rd_T83 l0 x4_1).f2.f0), .int .i64 ((rd_T83 l0 x4_1).f2.f1), .int .i64 ((rd_T83 l0 x4_1).f3.f0), .int .i64 0, .int .i64 0, .int .i64 0, .int .i64 0, .slice none 0 0, .slice none 0 0]) ?_ 6 _ rfl; (with_reducible repeat (first | refine blk_drewN ?_ _ | refine blk_drew ?_ | refine blk_alloc ?_ _)); refine blk_put (cs := #[.int .i64 ((rd_T83 l0 x4_1).f0), .int .i64 ((rd_T83 l0 x4_1).f1.f0), .int .i64 ((rd_T83 l0 x4_1).f1.f1), .int .i64 ((rd_T83 l0 x4_1).f2.f0), .int .i64 ((rd_T83 l0 x4_1).f2.f1), .int .i64 0, .int .i64 0, .int .i64 0, .int .i64 0, .int .i64 0, .slice none 0 0, .slice none 0 0]) ?_ 5 _ rfl; (with_reducible repeat (first | refine blk_drewN ?_ _ | refine blk_drew ?_ | refine blk_alloc ?_ _)); refine blk_put (cs := #[.int .i64 ((rd_T83 l0 x4_1).f0), .int .i64 ((rd_T83 l0 x4_1).f1.f0), .int .i64 ((rd_T83 l0 x4_1).f1.f1), .int .i64 ((rd_T83 l0 x4_1).f2.f0), .int .i64 0, .int .i64 0, .int .i64 0, .int .i64 0, .int .i64 0, .int .i64 0, .slice none 0 0, .slice none 0 0]) ?_ 4 _ rfl; (with_reducible repeat (first | refine blk_drewN ?_ _ | refine blk_drew ?_ | refine blk_alloc ?_ _)); refine blk_put (cs := #[.int .i64 ((rd_T83 l0 x4_1).f0), .int .i64 ((rd_T83 l0 x4_1).f1.f0), .int .i64 ((rd_T83 l0 x4_1).f1.f1), .int .i64 0, .int .i64 0, .int .i64 0, .int .i64 0, .int .i64 0, .int .i64 0, .int .i64 0, .slice none 0 0, .slice none 0 0]) ?_ 3 _ rfl; (with_reducible repeat (first | refine blk_drewN ?_ _ | refine blk_drew ?_ | refine blk_alloc ?_ _)); refine blk_put (cs := #[.int .i64 ((rd_T83 l0 x4_1).f0), .int .i64 ((rd_T83 l0 x4_1).f1.f0), .int .i64 0, .int .i64 0, .int .i64 0, .int .i64 0, .int .i64 0, .int .i64 0, .int .i64 0, .int .i64 0, .slice none 0 0, .slice none 0 0]) ?_ 2 _ rfl; (with_reducible repeat (first | refine blk_drewN ?_ _ | refine blk_drew ?_ | refine blk_alloc ?_ _)); refine blk_put (cs := #[.int .i64 ((rd_T83 l0 x4_1).f0), .int .i64 0, .int .i64 0, .int .i64 0, .int .i64 0, .int .i64 0, .int .i64 0, .int .i64 0, .int .i64 0, .int .i64 0, .slice none 0 0, .slice none 0 0]) ?_ 1 _ rfl; (with_reducible repeat (first | refine blk_drewN ?_ _ | refine blk_drew ?_ | refine blk_alloc ?_ _)); refine blk_put (cs := #[.int .i64 0, .int .i64 0, .int .i64 0, .int .i64 0, .int .i64 0, .int .i64 0, .int .i64 0, .int .i64 0, .int .i64 0, .int .i64 0, .slice none 0 0, .slice none 0 0]) ?_ 0 _ rfl; (with_reducible repeat (first | refine blk_drewN ?_ _ | refine blk_drew ?_ | refine blk_alloc ?_ _)); exact BK901.out⟩, ⟨blx⟩⟩
           ·rw [if_neg c22] at H
            have c22b0 : (((rd_T83 l0 x4_1).f0) == 0) = false := beq_eq_false_iff_ne.mpr c22
            have c22b1 : (((rd_T83 l0 x4_1).f0) != 0) = true := bne_iff_ne.mpr c22
            (first | rw [c22b0] | (simp only [i64_w, i32_w]; rw [c22b0]) | skip)
            have H' := Aside0.mk H
            clear H
            go_wp2
            go_meet
            case rel => exact ⟨_, ((rd_T83 l0 x4_1).f0), ((rd_T83 l0 x4_1).f1.f0), ((rd_T83 l0 x4_1).f1.f1), H', ⟨by have := HK1.out; have := HJ8.out; first | omega | exact Nat.le_refl _⟩, ⟨bkx⟩, ⟨by (with_reducible repeat (first | refine blk_drewN ?_ _ | refine blk_drew ?_ | refine blk_alloc ?_ _)); refine blk_put (cs := #[.int .i64 ((rd_T83 l0 x4_1).f0), .int .i64 ((rd_T83 l0 x4_1).f1.f0), .int .i64 ((rd_T83 l0 x4_1).f1.f1), .int .i64 ((rd_T83 l0 x4_1).f2.f0), .int .i64 ((rd_T83 l0 x4_1).f2.f1), .int .i64 ((rd_T83 l0 x4_1).f3.f0), .int .i64 ((rd_T83 l0 x4_1).f3.f1), .int .i64 ((rd_T83 l0 x4_1).f4), .int .i64 ((rd_T83 l0 x4_1).f5), .int .i64 ((rd_T83 l0 x4_1).f6), .slice A900_10 ((rd_T83 l0 x4_1).f7).length c900_10, .slice none 0 0]) ?_ 11 _ rfl; (with_reducible repeat (first | refine blk_drewN ?_ _ | refine blk_drew ?_ | refine blk_alloc ?_ _)); refine blk_put (cs := #[.int .i64 ((rd_T83 l0 x4_1).f0), .int .i64 ((rd_T83 l0 x4_1).f1.f0), .int .i64 ((rd_T83 l0 x4_1).f1.f1), .int .i64 ((rd_T83 l0 x4_1).f2.f0), .int .i64 ((rd_T83 l0 x4_1).f2.f1), .int .i64 ((rd_T83 l0 x4_1).f3.f0), .int .i64 ((rd_T83 l0 x4_1).f3.f1), .int .i64 ((rd_T83 l0 x4_1).f4), .int .i64 ((rd_T83 l0 x4_1).f5), .int .i64 ((rd_T83 l0 x4_1).f6), .slice none 0 0, .slice none 0 0]) ?_ 10 _ rfl; (with_reducible repeat (first | refine blk_drewN ?_ _ | refine blk_drew ?_ | refine blk_alloc ?_ _)); refine blk_put (cs := #[.int .i64 ((rd_T83 l0 x4_1).f0), .int .i64 ((rd_T83 l0 x4_1).f1.f0), .int .i64 ((rd_T83 l0 x4_1).f1.f1), .int .i64 ((rd_T83 l0 x4_1).f2.f0), .int .i64 ((rd_T83 l0 x4_1).f2.f1), .int .i64 ((rd_T83 l0 x4_1).f3.f0), .int .i64 ((rd_T83 l0 x4_1).f3.f1), .int .i64 ((rd_T83 l0 x4_1).f4), .int .i64 ((rd_T83 l0 x4_1).f5), .int .i64 0, .slice none 0 0, .slice none 0 0]) ?_ 9 _ rfl; (with_reducible repeat (first | refine blk_drewN ?_ _ | refine blk_drew ?_ | refine blk_alloc ?_ _)); refine blk_put (cs := #[.int .i64 ((rd_T83 l0 x4_1).f0), .int .i64 ((rd_T83 l0 x4_1).f1.f0), .int .i64 ((rd_T83 l0 x4_1).f1.f1), .int .i64 ((rd_T83 l0 x4_1).f2.f0), .int .i64 ((rd_T83 l0 x4_1).f2.f1), .int .i64 ((rd_T83 l0 x4_1).f3.f0), .int .i64 ((rd_T83 l0 x4_1).f3.f1), .int .i64 ((rd_T83 l0 x4_1).f4), .int .i64 0, .int .i64 0, .slice none 0 0, .slice none 0 0]) ?_ 8 _ rfl; (with_reducible repeat (first | refine blk_drewN ?_ _ | refine blk_drew ?_ | refine blk_alloc ?_ _)); refine blk_put (cs := #[.int .i64 ((rd_T83 l0 x4_1).f0), .int .i64 ((rd_T83 l0 x4_1).f1.f0), .int .i64 ((rd_T83 l0 x4_1).f1.f1), .int .i64 ((rd_T83 l0 x4_1).f2.f0), .int .i64 ((rd_T83 l0 x4_1).f2.f1), .int .i64 ((rd_T83 l0 x4_1).f3.f0), .int .i64 ((rd_T83 l0 x4_1).f3.f1), .int .i64 0, .int .i64 0, .int .i64 0, .slice none 0 0, .slice none 0 0]) ?_ 7 _ rfl; (with_reducible repeat (first | refine blk_drewN ?_ _ | refine blk_drew ?_ | refine blk_alloc ?_ _)); refine blk_put (cs := #[.int .i64 ((rd_T83 l0 x4_1).f0), .int .i64 ((rd_T83 l0 x4_1).f1.f0), .int .i64 ((rd_T83 l0 x4_1).f1.f1), .int .i64 ((rd_T83 l0 x4_1).f2.f0), .int .i64 ((rd_T83 l0 x4_1).f2.f1), .int .i64 ((rd_T83 l0 x4_1).f3.f0), .int .i64 0, .int .i64 0, .int .i64 0, .int .i64 0, .slice none 0 0, .slice none 0 0]) ?_ 6 _ rfl; (with_reducible repeat (first | refine blk_drewN ?_ _ | refine blk_drew ?_ | refine blk_alloc ?_ _)); refine blk_put (cs := #[.int .i64 ((rd_T83 l0 x4_1).f0), .int .i64 ((rd_T83 l0 x4_1).f1.f0), .int .i64 ((rd_T83 l0 x4_1).f1.f1), .int .i64 ((rd_T83 l0 x4_1).f2.f0), .int .i64 ((rd_T83 l0 x4_1).f2.f1), .int .i64 0, .int .i64 0, .int .i64 0, .int .i64 0, .int .i64 0, .slice none 0 0, .slice none 0 0]) ?_ 5 _ rfl; (with_reducible repeat (first | refine blk_drewN ?_ _ | refine blk_drew ?_ | refine blk_alloc ?_ _)); refine blk_put (cs := #[.int .i64 ((rd_T83 l0 x4_1).f0), .int .i64 ((rd_T83 l0 x4_1).f1.f0), .int .i64 ((rd_T83 l0 x4_1).f1.f1), .int .i64 ((rd_T83 l0 x4_1).f2.f0), .int .i64 0, .int .i64 0, .int .i64 0, .int .i64 0, .int .i64 0, .int .i64 0, .slice none 0 0, .slice none 0 0]) ?_ 4 _ rfl; (with_reducible repeat (first | refine blk_drewN ?_ _ | refine blk_drew ?_ | refine blk_alloc ?_ _)); refine blk_put (cs := #[.int .i64 ((rd_T83 l0 x4_1).f0), .int .i64 ((rd_T83 l0 x4_1).f1.f0), .int .i64 ((rd_T83 l0 x4_1).f1.f1), .int .i64 0, .int .i64 0, .int .i64 0, .int .i64 0, .int .i64 0, .int .i64 0, .int .i64 0, .slice none 0 0, .slice none 0 0]) ?_ 3 _ rfl; (with_reducible repeat (first | refine blk_drewN ?_ _ | refine blk_drew ?_ | refine blk_alloc ?_ _)); refine blk_put (cs := #[.int .i64 ((rd_T83 l0 x4_1).f0), .int .i64 ((rd_T83 l0 x4_1).f1.f0), .int .i64 0, .int .i64 0, .int .i64 0, .int .i64 0, .int .i64 0, .int .i64 0, .int .i64 0, .int .i64 0, .slice none 0 0, .slice none 0 0]) ?_ 2 _ rfl; (with_reducible repeat (first | refine blk_drewN ?_ _ | refine blk_drew ?_ | refine blk_alloc ?_ _)); refine blk_put (cs := #[.int .i64 ((rd_T83 l0 x4_1).f0), .int .i64 0, .int .i64 0, .int .i64 0, .int .i64 0, .int .i64 0, .int .i64 0, .int .i64 0, .int .i64 0, .int .i64 0, .slice none 0 0, .slice none 0 0]) ?_ 1 _ rfl; (with_reducible repeat (first | refine blk_drewN ?_ _ | refine blk_drew ?_ | refine blk_alloc ?_ _)); refine blk_put (cs := #[.int .i64 0, .int .i64 0, .int .i64 0, .int .i64 0, .int .i64 0, .int .i64 0, .int .i64 0, .int .i64 0, .int .i64 0, .int .i64 0, .slice none 0 0, .slice none 0 0]) ?_ 0 _ rfl; (with_reducible repeat (first | refine blk_drewN ?_ _ | refine blk_drew ?_ | refine blk_alloc ?_ _)); exact BK901.out⟩, ⟨blx⟩⟩
          case rest =>
           clear HC18
           try clear c1
           try clear c2
           try clear p2
           try clear c3
           try clear c5
           try clear p6
           try clear c9
           try clear p9
           try clear q9
           try clear hx9
           try clear c10
           try clear c10b0
           try clear c11
           try clear c12
           try clear c12b0
           try clear c13
           try clear c13b0
           try clear c14
           try clear c14b0
           try clear c14b1
           try clear c16
           try clear c20
           try clear c22
           try clear c22b0
           try clear c22b1
           try clear c23
           try clear hcz17_0
           try clear hcz17_1
           try clear hcz17_10
           try clear hcz17_11
           try clear hcz17_2
           try clear hcz17_3
           try clear hcz17_4
           try clear hcz17_5
           try clear hcz17_6
           try clear hcz17_7
           try clear hcz17_8
           try clear hcz17_9
           try clear hcz21_0
           try clear hcz21_1
           try clear hcz21_10
           try clear hcz21_11
           try clear hcz21_2
           try clear hcz21_3
           try clear hcz21_4
           try clear hcz21_5
           try clear hcz21_6
           try clear hcz21_7
           try clear hcz21_8
           try clear hcz21_9
           try clear hcz24_0
           try clear hcz24_1
           try clear hcz25_0
           try clear hcz25_1
           try clear hcz25_10
           try clear hcz25_11
           try clear hcz25_2
           try clear hcz25_3
           try clear hcz25_4
           try clear hcz25_5
           try clear hcz25_6
           try clear hcz25_7
           try clear hcz25_8
           try clear hcz25_9
           try clear hcz8_0
           try clear hcz8_1
           try clear hfz17_0
           try clear hfz17_1
           try clear hfz17_10
           try clear hfz17_11
           try clear hfz17_2
           try clear hfz17_3
           try clear hfz17_4
           try clear hfz17_5
           try clear hfz17_6
           try clear hfz17_7
           try clear hfz17_8
           try clear hfz17_9
           try clear hfz21_0
           try clear hfz21_1
           try clear hfz21_10
           try clear hfz21_11
           try clear hfz21_2
           try clear hfz21_3
           try clear hfz21_4
           try clear hfz21_5
           try clear hfz21_6
           try clear hfz21_7
           try clear hfz21_8
           try clear hfz21_9
           try clear hfz24_0
           try clear hfz24_1
           try clear hfz25_0
           try clear hfz25_1
           try clear hfz25_10
           try clear hfz25_11
           try clear hfz25_2
           try clear hfz25_3
           try clear hfz25_4
           try clear hfz25_5
           try clear hfz25_6
           try clear hfz25_7
           try clear hfz25_8
           try clear hfz25_9
           try clear hfz8_0
           try clear hfz8_1
           try clear hx900_0
           try clear hx900_1
           try clear hx900_10
           try clear hx900_11
           try clear hx900_2
           try clear hx900_3
           try clear hx900_4
           try clear hx900_5
           try clear hx900_6
           try clear hx900_7
           try clear hx900_8
           try clear hx900_9
           try clear p2
           try clear p900
           try clear q900
           obtain ⟨kq, x902000_17, x902001_17, x902002_17, HA, HJ17, BK899, BK901, HB⟩ := hcut
           cases kq with
           | zero => exact absurd HA.out (by simp [levylaw1_MoneySafe.j2])
           | succ kj17 =>
            have H := HA.out
            clear HA
            simp only [levylaw1_MoneySafe.j2] at H
            replace H := Option.bind_eq_some_iff.mp H
            obtain ⟨⟨t902, t903⟩, A260, H⟩ := H
            replace H : ((money_Valid.f t902 t903).bind fun t905 => (if t905 = true then (levylaw1_MoneySafe.j3 kj17 l0 x4_1 (t902 == 0) x902000_17 x902001_17 x902002_17 ((rd_T83 l0 x4_1).f2.f0) ((rd_T83 l0 x4_1).f2.f1) ((rd_T83 l0 x4_1).f3.f0) ((rd_T83 l0 x4_1).f3.f1) ((rd_T83 l0 x4_1).f4) ((rd_T83 l0 x4_1).f5) ((rd_T83 l0 x4_1).f6) ((rd_T83 l0 x4_1).f7) ((rd_T83 l0 x4_1).f8) t902 t903) else (levylaw1_MoneySafe.j3 kj17 l0 x4_1 true x902000_17 x902001_17 x902002_17 ((rd_T83 l0 x4_1).f2.f0) ((rd_T83 l0 x4_1).f2.f1) ((rd_T83 l0 x4_1).f3.f0) ((rd_T83 l0 x4_1).f3.f1) ((rd_T83 l0 x4_1).f4) ((rd_T83 l0 x4_1).f5) ((rd_T83 l0 x4_1).f6) ((rd_T83 l0 x4_1).f7) ((rd_T83 l0 x4_1).f8) t902 t903))) = some r := H
            have A26 := Aside0.mk A260
            clear A260
            have HC27 := Aside0.mk H
            clear H
            have hnb28 := NB901_899.out
            have hnc28 := NB899_901.out
            have hcz29_0 : wc.cell? ⟨gb901, 0, none⟩ = some (.int .i64 x902000_17) := (blk_cell BK901.out 0).trans rfl
            have hcz29_1 : wc.cell? ⟨gb901, 1, none⟩ = some (.int .i64 x902001_17) := (blk_cell BK901.out 1).trans rfl
            have hcz29_2 : wc.cell? ⟨gb901, 2, none⟩ = some (.int .i64 x902002_17) := (blk_cell BK901.out 2).trans rfl
            have hcz29_3 : wc.cell? ⟨gb901, 3, none⟩ = some (.int .i64 ((rd_T83 l0 x4_1).f2.f0)) := (blk_cell BK901.out 3).trans rfl
            have hcz29_4 : wc.cell? ⟨gb901, 4, none⟩ = some (.int .i64 ((rd_T83 l0 x4_1).f2.f1)) := (blk_cell BK901.out 4).trans rfl
            have hcz29_5 : wc.cell? ⟨gb901, 5, none⟩ = some (.int .i64 ((rd_T83 l0 x4_1).f3.f0)) := (blk_cell BK901.out 5).trans rfl
            have hcz29_6 : wc.cell? ⟨gb901, 6, none⟩ = some (.int .i64 ((rd_T83 l0 x4_1).f3.f1)) := (blk_cell BK901.out 6).trans rfl
            have hcz29_7 : wc.cell? ⟨gb901, 7, none⟩ = some (.int .i64 ((rd_T83 l0 x4_1).f4)) := (blk_cell BK901.out 7).trans rfl
            have hcz29_8 : wc.cell? ⟨gb901, 8, none⟩ = some (.int .i64 ((rd_T83 l0 x4_1).f5)) := (blk_cell BK901.out 8).trans rfl
            have hcz29_9 : wc.cell? ⟨gb901, 9, none⟩ = some (.int .i64 ((rd_T83 l0 x4_1).f6)) := (blk_cell BK901.out 9).trans rfl
            have hcz29_10 : wc.cell? ⟨gb901, 10, none⟩ = some (.slice A900_10 ((rd_T83 l0 x4_1).f7).length c900_10) := (blk_cell BK901.out 10).trans rfl
            have hcz29_11 : wc.cell? ⟨gb901, 11, none⟩ = some (.slice A900_11 ((rd_T83 l0 x4_1).f8).length c900_11) := (blk_cell BK901.out 11).trans rfl
            have hfz29_0 := blk_frozen BK901.out 0
            have hfz29_1 := blk_frozen BK901.out 1
            have hfz29_2 := blk_frozen BK901.out 2
            have hfz29_3 := blk_frozen BK901.out 3
            have hfz29_4 := blk_frozen BK901.out 4
            have hfz29_5 := blk_frozen BK901.out 5
            have hfz29_6 := blk_frozen BK901.out 6
            have hfz29_7 := blk_frozen BK901.out 7
            have hfz29_8 := blk_frozen BK901.out 8
            have hfz29_9 := blk_frozen BK901.out 9
            have hfz29_10 := blk_frozen BK901.out 10
            have hfz29_11 := blk_frozen BK901.out 11
            go_upto_region 14 with (first | ((with_reducible refine gate_callee (f := 54) rfl ?_); refine goesL_ (some 41) rfl rfl Tryd.func54 (by kernel_rfl) rfl #[.agg #[.int .i64 x902000_17, .int .i64 x902001_17, .int .i64 x902002_17, .int .i64 ((rd_T83 l0 x4_1).f2.f0), .int .i64 ((rd_T83 l0 x4_1).f2.f1), .int .i64 ((rd_T83 l0 x4_1).f3.f0), .int .i64 ((rd_T83 l0 x4_1).f3.f1), .int .i64 ((rd_T83 l0 x4_1).f4), .int .i64 ((rd_T83 l0 x4_1).f5), .int .i64 ((rd_T83 l0 x4_1).f6), .slice A900_10 ((rd_T83 l0 x4_1).f7).length c900_10, .slice A900_11 ((rd_T83 l0 x4_1).f8).length c900_11]] rfl agx ?_; (with_reducible refine (levylaw1_does.calls kj17 x902000_17 x902001_17 x902002_17 ((rd_T83 l0 x4_1).f2.f0) ((rd_T83 l0 x4_1).f2.f1) ((rd_T83 l0 x4_1).f3.f0) ((rd_T83 l0 x4_1).f3.f1) ((rd_T83 l0 x4_1).f4) ((rd_T83 l0 x4_1).f5) ((rd_T83 l0 x4_1).f6) _ _ ((rd_T83 l0 x4_1).f7) _ _ ((rd_T83 l0 x4_1).f8) t902 t903 _ ?side1 ?side2 ?side3 ?side4 A26.out (by first | exact HG0.out | exact Kd.C_below HG0.out blx)).mono ?_); (case side1 => repeat (first | exact (Kd.C_below HR900_10.out HB.out) | (with_reducible refine Kd.C_alloc ?_ _) | (with_reducible refine Kd.C_drewN ?_ _) | (with_reducible refine Kd.C_drew ?_))); (case side2 => exact HC900_10.out); (case side3 => repeat (first | exact (Kd.C_below HR900_11.out HB.out) | (with_reducible refine Kd.C_alloc ?_ _) | (with_reducible refine Kd.C_drewN ?_ _) | (with_reducible refine Kd.C_drew ?_))); (case side4 => exact HC900_11.out); rintro e w30 ⟨rfl, hb⟩; refine ⟨_, rfl, ?_⟩; replace BK899 := bkq BK899 hb; replace BK901 := bkq BK901 hb; replace HB := Aside0.mk (below_step blx hb); (try clear hb); (try clear hb2); (try clear hk); (try clear hi)) | ((with_reducible refine gate_dst (N := 6) rfl ?_); refine bxe (N := 6) (cs := #[.int .i64 0, .int .i64 0]) (t := 23) ?_; intro gb904 hg w31 hbox hb; have BK904 := Aside0.mk (hbox); have GW904 : Aside0 (w.heap.size ≤ gb904) := gwx hg; have GE904 : Aside0 (w.heap.size ≤ gb904) := gwx hg; replace HB := Aside0.mk (below_step blx hb); have NB899_904 := nbl BK899 hg; have NB904_899 := nbg BK899 hg; replace BK899 := bkq BK899 hb; have NB901_904 := nbl BK901 hg; have NB904_901 := nbg BK901 hg; replace BK901 := bkq BK901 hb; clear hb hbox hg; have hnb32 := NB904_899.out; have hnc32 := NB899_904.out; have hnb33 := NB904_901.out; have hnc33 := NB901_904.out; obtain ⟨hcz34_0, hcz34_1, hfz34_0, hfz34_1⟩ := c2_ BK904))
            (try simp only [Act.put, List.setIfInBounds_toArray, List.set_cons_zero, List.set_cons_succ])
            go_cut [49] (fun v49 wc => ∃ (kq : Nat) (x49_26 : Bool), v49 = .bool x49_26 ∧ Aside0 (levylaw1_MoneySafe.j3 kq l0 x4_1 x49_26 x902000_17 x902001_17 x902002_17 ((rd_T83 l0 x4_1).f2.f0) ((rd_T83 l0 x4_1).f2.f1) ((rd_T83 l0 x4_1).f3.f0) ((rd_T83 l0 x4_1).f3.f1) ((rd_T83 l0 x4_1).f4) ((rd_T83 l0 x4_1).f5) ((rd_T83 l0 x4_1).f6) ((rd_T83 l0 x4_1).f7) ((rd_T83 l0 x4_1).f8) t902 t903 = some r) ∧ Aside0 (kq ≤ kj17) ∧ Aside0 (wc.heap[gb899]? = some (.cells #[.int .i64 x900000_1, .int .i64 x900001_1] 23 (0, 0))) ∧ Aside0 (wc.heap[gb901]? = some (.cells #[.int .i64 x902000_17, .int .i64 x902001_17, .int .i64 x902002_17, .int .i64 ((rd_T83 l0 x4_1).f2.f0), .int .i64 ((rd_T83 l0 x4_1).f2.f1), .int .i64 ((rd_T83 l0 x4_1).f3.f0), .int .i64 ((rd_T83 l0 x4_1).f3.f1), .int .i64 ((rd_T83 l0 x4_1).f4), .int .i64 ((rd_T83 l0 x4_1).f5), .int .i64 ((rd_T83 l0 x4_1).f6), (.slice A900_10 ((rd_T83 l0 x4_1).f7).length c900_10), (.slice A900_11 ((rd_T83 l0 x4_1).f8).length c900_11)] 83 (0, 0))) ∧ Aside0 (wc.heap[gb904]? = some (.cells #[.int .i64 t902, .int .i64 t903] 23 (0, 0))) ∧ Aside0 (Below w.heap.size w wc))
            case first =>
             have H := HC27.out
             clear HC27
             replace H := Option.bind_eq_some_iff.mp H
             obtain ⟨t905, A350, H⟩ := H
             replace H : (if t905 = true then (levylaw1_MoneySafe.j3 kj17 l0 x4_1 (t902 == 0) x902000_17 x902001_17 x902002_17 ((rd_T83 l0 x4_1).f2.f0) ((rd_T83 l0 x4_1).f2.f1) ((rd_T83 l0 x4_1).f3.f0) ((rd_T83 l0 x4_1).f3.f1) ((rd_T83 l0 x4_1).f4) ((rd_T83 l0 x4_1).f5) ((rd_T83 l0 x4_1).f6) ((rd_T83 l0 x4_1).f7) ((rd_T83 l0 x4_1).f8) t902 t903) else (levylaw1_MoneySafe.j3 kj17 l0 x4_1 true x902000_17 x902001_17 x902002_17 ((rd_T83 l0 x4_1).f2.f0) ((rd_T83 l0 x4_1).f2.f1) ((rd_T83 l0 x4_1).f3.f0) ((rd_T83 l0 x4_1).f3.f1) ((rd_T83 l0 x4_1).f4) ((rd_T83 l0 x4_1).f5) ((rd_T83 l0 x4_1).f6) ((rd_T83 l0 x4_1).f7) ((rd_T83 l0 x4_1).f8) t902 t903)) = some r := H
             have A35 := Aside0.mk A350
             clear A350
             by_cases c36 : t905 = true
             ·subst c36
              have H1 : (levylaw1_MoneySafe.j3 kj17 l0 x4_1 (t902 == 0) x902000_17 x902001_17 x902002_17 ((rd_T83 l0 x4_1).f2.f0) ((rd_T83 l0 x4_1).f2.f1) ((rd_T83 l0 x4_1).f3.f0) ((rd_T83 l0 x4_1).f3.f1) ((rd_T83 l0 x4_1).f4) ((rd_T83 l0 x4_1).f5) ((rd_T83 l0 x4_1).f6) ((rd_T83 l0 x4_1).f7) ((rd_T83 l0 x4_1).f8) t902 t903) = some r := by rw [if_pos rfl] at H; exact H
              clear H
              have H := H1
              clear H1
              have H' := Aside0.mk H
              clear H
              have hnb37 := NB904_899.out
              have hnc37 := NB899_904.out
              have hnb38 := NB904_901.out
              have hnc38 := NB901_904.out
              obtain ⟨hcz39_0, hcz39_1, hfz39_0, hfz39_1⟩ := c2_ BK904
              go_wp2_with (first | ((with_reducible refine gate_callee (f := 18) rfl ?_); refine goesL_ (some 43) rfl rfl Tryd.func18 (by kernel_rfl) rfl #[.agg #[.int .i64 t902, .int .i64 t903]] rfl agx ?_; (with_reducible refine (money_Valid.calls t902 t903 true _ A35.out (by first | exact HG0.out | exact Kd.C_below HG0.out blx)).mono ?_); rintro e w40 ⟨rfl, hb⟩; refine ⟨_, rfl, ?_⟩; replace BK899 := bkq BK899 hb; replace BK901 := bkq BK901 hb; replace BK904 := Aside0.mk (blk_below (g := gb904) (o := .cells #[.int .i64 t902, .int .i64 t903] 23 (0, 0)) (by (with_reducible repeat (first | refine blk_drewN ?_ _ | refine blk_drew ?_ | refine blk_alloc ?_ _)); refine blk_put (cs := #[.int .i64 t902, .int .i64 0]) ?_ 1 _ rfl; (with_reducible repeat (first | refine blk_drewN ?_ _ | refine blk_drew ?_ | refine blk_alloc ?_ _)); refine blk_put (cs := #[.int .i64 0, .int .i64 0]) ?_ 0 _ rfl; (with_reducible repeat (first | refine blk_drewN ?_ _ | refine blk_drew ?_ | refine blk_alloc ?_ _)); exact BK904.out) hb); replace HB := Aside0.mk (below_step blx hb); (try clear hb); (try clear hb2); (try clear hk); (try clear hi); obtain ⟨hcz41_0, hcz41_1, hfz41_0, hfz41_1⟩ := c2_ BK904))
              go_meet
              case rel => exact ⟨_, ((t902 == 0)), (by first | rfl | (simp; done) | (simp [*]; done)), H', ⟨by have := HK1.out; have := HJ8.out; have := HJ17.out; first | omega | exact Nat.le_refl _⟩, ⟨bkx⟩, ⟨bkx⟩, ⟨bkx⟩, ⟨blx⟩⟩
             ·replace c36 := Bool.eq_false_iff.mpr c36
              subst c36
              have H1 : (levylaw1_MoneySafe.j3 kj17 l0 x4_1 true x902000_17 x902001_17 x902002_17 ((rd_T83 l0 x4_1).f2.f0) ((rd_T83 l0 x4_1).f2.f1) ((rd_T83 l0 x4_1).f3.f0) ((rd_T83 l0 x4_1).f3.f1) ((rd_T83 l0 x4_1).f4) ((rd_T83 l0 x4_1).f5) ((rd_T83 l0 x4_1).f6) ((rd_T83 l0 x4_1).f7) ((rd_T83 l0 x4_1).f8) t902 t903) = some r := by rw [if_neg (show ¬ (false = true) by decide)] at H; exact H
              clear H
              have H := H1
              clear H1
              have H' := Aside0.mk H
              clear H
              have hnb42 := NB904_899.out
              have hnc42 := NB899_904.out
              have hnb43 := NB904_901.out
              have hnc43 := NB901_904.out
              obtain ⟨hcz44_0, hcz44_1, hfz44_0, hfz44_1⟩ := c2_ BK904
              go_wp2_with (first | ((with_reducible refine gate_callee (f := 18) rfl ?_); refine goesL_ (some 43) rfl rfl Tryd.func18 (by kernel_rfl) rfl #[.agg #[.int .i64 t902, .int .i64 t903]] rfl agx ?_; (with_reducible refine (money_Valid.calls t902 t903 false _ A35.out (by first | exact HG0.out | exact Kd.C_below HG0.out blx)).mono ?_); rintro e w45 ⟨rfl, hb⟩; refine ⟨_, rfl, ?_⟩; replace BK899 := bkq BK899 hb; replace BK901 := bkq BK901 hb; replace BK904 := Aside0.mk (blk_below (g := gb904) (o := .cells #[.int .i64 t902, .int .i64 t903] 23 (0, 0)) (by (with_reducible repeat (first | refine blk_drewN ?_ _ | refine blk_drew ?_ | refine blk_alloc ?_ _)); refine blk_put (cs := #[.int .i64 t902, .int .i64 0]) ?_ 1 _ rfl; (with_reducible repeat (first | refine blk_drewN ?_ _ | refine blk_drew ?_ | refine blk_alloc ?_ _)); refine blk_put (cs := #[.int .i64 0, .int .i64 0]) ?_ 0 _ rfl; (with_reducible repeat (first | refine blk_drewN ?_ _ | refine blk_drew ?_ | refine blk_alloc ?_ _)); exact BK904.out) hb); replace HB := Aside0.mk (below_step blx hb); (try clear hb); (try clear hb2); (try clear hk); (try clear hi)))
              go_meet
              case rel => exact ⟨_, (true), (by first | rfl | (simp; done) | (simp [*]; done)), H', ⟨by have := HK1.out; have := HJ8.out; have := HJ17.out; first | omega | exact Nat.le_refl _⟩, ⟨bkx⟩, ⟨bkx⟩, ⟨bkx⟩, ⟨blx⟩⟩
            case rest =>
             clear HC27
             try clear c1
             try clear c2
             try clear p2
             try clear c3
             try clear c4
             try clear c5
             try clear p6
             try clear c9
             try clear p9
             try clear q9
             try clear hx9
             try clear c10
             try clear c10b0
             try clear c11
             try clear c12
             try clear c12b0
             try clear c13
             try clear c13b0
             try clear c14
             try clear c14b0
             try clear c14b1
             try clear c16
             try clear c18
             try clear c20
             try clear c22
             try clear c22b0
             try clear c22b1
             try clear c23
             try clear c28
             try clear c32
             try clear c33
             try clear c36
             try clear c37
             try clear c38
             try clear c42
             try clear c43
             try clear hcz17_0
             try clear hcz17_1
             try clear hcz17_10
             try clear hcz17_11
             try clear hcz17_2
             try clear hcz17_3
             try clear hcz17_4
             try clear hcz17_5
             try clear hcz17_6
             try clear hcz17_7
             try clear hcz17_8
             try clear hcz17_9
             try clear hcz21_0
             try clear hcz21_1
             try clear hcz21_10
             try clear hcz21_11
             try clear hcz21_2
             try clear hcz21_3
             try clear hcz21_4
             try clear hcz21_5
             try clear hcz21_6
             try clear hcz21_7
             try clear hcz21_8
             try clear hcz21_9
             try clear hcz24_0
             try clear hcz24_1
             try clear hcz25_0
             try clear hcz25_1
             try clear hcz25_10
             try clear hcz25_11
             try clear hcz25_2
             try clear hcz25_3
             try clear hcz25_4
             try clear hcz25_5
             try clear hcz25_6
             try clear hcz25_7
             try clear hcz25_8
             try clear hcz25_9
             try clear hcz29_0
             try clear hcz29_1
             try clear hcz29_10
             try clear hcz29_11
             try clear hcz29_2
             try clear hcz29_3
             try clear hcz29_4
             try clear hcz29_5
             try clear hcz29_6
             try clear hcz29_7
             try clear hcz29_8
             try clear hcz29_9
             try clear hcz34_0
             try clear hcz34_1
             try clear hcz39_0
             try clear hcz39_1
             try clear hcz41_0
             try clear hcz41_1
             try clear hcz44_0
             try clear hcz44_1
             try clear hcz8_0
             try clear hcz8_1
             try clear hfz17_0
             try clear hfz17_1
             try clear hfz17_10
             try clear hfz17_11
             try clear hfz17_2
             try clear hfz17_3
             try clear hfz17_4
             try clear hfz17_5
             try clear hfz17_6
             try clear hfz17_7
             try clear hfz17_8
             try clear hfz17_9
             try clear hfz21_0
             try clear hfz21_1
             try clear hfz21_10
             try clear hfz21_11
             try clear hfz21_2
             try clear hfz21_3
             try clear hfz21_4
             try clear hfz21_5
             try clear hfz21_6
             try clear hfz21_7
             try clear hfz21_8
             try clear hfz21_9
             try clear hfz24_0
             try clear hfz24_1
             try clear hfz25_0
             try clear hfz25_1
             try clear hfz25_10
             try clear hfz25_11
             try clear hfz25_2
             try clear hfz25_3
             try clear hfz25_4
             try clear hfz25_5
             try clear hfz25_6
             try clear hfz25_7
             try clear hfz25_8
             try clear hfz25_9
             try clear hfz29_0
             try clear hfz29_1
             try clear hfz29_10
             try clear hfz29_11
             try clear hfz29_2
             try clear hfz29_3
             try clear hfz29_4
             try clear hfz29_5
             try clear hfz29_6
             try clear hfz29_7
             try clear hfz29_8
             try clear hfz29_9
             try clear hfz34_0
             try clear hfz34_1
             try clear hfz39_0
             try clear hfz39_1
             try clear hfz41_0
             try clear hfz41_1
             try clear hfz44_0
             try clear hfz44_1
             try clear hfz8_0
             try clear hfz8_1
             try clear hx900_0
             try clear hx900_1
             try clear hx900_10
             try clear hx900_11
             try clear hx900_2
             try clear hx900_3
             try clear hx900_4
             try clear hx900_5
             try clear hx900_6
             try clear hx900_7
             try clear hx900_8
             try clear hx900_9
             try clear p2
             try clear p6
             try clear p9
             try clear p900
             try clear q9
             try clear q900
             obtain ⟨kq, x49_26, rfl, HA, HJ26, BK899, BK901, BK904, HB⟩ := hcut
             cases kq with
             | zero => exact absurd HA.out (by simp [levylaw1_MoneySafe.j3])
             | succ kj26 =>
              have H := HA.out
              clear HA
              simp only [levylaw1_MoneySafe.j3] at H
              by_cases c46 : x49_26 = true
              ·subst c46
               have H1 : (some false) = some r := by rw [if_pos rfl] at H; exact H
               clear H
               have H := H1
               clear H1
               obtain rfl := Option.some.inj H
               go_wp2
               go_ret
               exact ⟨by first | rfl | (simp [errW_none, errW_some] <;> rfl) | (simp [*, errW_none, errW_some] <;> rfl), blx⟩
              ·replace c46 := Bool.eq_false_iff.mpr c46
               subst c46
               have H1 : (if x902000_17 ≥ 1 then (if x902000_17 ≤ 13 then (if x902001_17 = 6 then ((money_Valid.f x902001_17 x902002_17).bind fun t906 => (if t906 = true then (if (!(t902 == x902001_17) || (!(t903 == x902002_17))) = true then (some false) else (levylaw1_MoneySafe.l0 kj26 l0 (wrap64 (x4_1 + 1)) t902 t903)) else (levylaw1_MoneySafe.l0 kj26 l0 (wrap64 (x4_1 + 1)) t902 t903))) else (levylaw1_MoneySafe.l0 kj26 l0 (wrap64 (x4_1 + 1)) t902 t903)) else (levylaw1_MoneySafe.l0 kj26 l0 (wrap64 (x4_1 + 1)) t902 t903)) else (levylaw1_MoneySafe.l0 kj26 l0 (wrap64 (x4_1 + 1)) t902 t903)) = some r := by rw [if_neg (show ¬ (false = true) by decide)] at H; exact H
               clear H
               have H := H1
               clear H1
               by_cases c47 : x902000_17 ≥ 1
               ·rw [if_pos c47] at H
                have c47b0 : decide (1 ≤ x902000_17) = true := decide_eq_true c47
                clear c47
                by_cases c48 : x902000_17 ≤ 13
                ·rw [if_pos c48] at H
                 have c48b0 : decide (x902000_17 ≤ 13) = true := decide_eq_true c48
                 clear c48
                 by_cases c49 : x902001_17 = 6
                 ·rw [if_pos c49] at H
                  have c49b0 : (x902001_17 == 6) = true := beq_iff_eq.mpr c49
                  have c49b1 : (x902001_17 != 6) = false := bne_eq_false_iff_eq.mpr c49
                  clear c49
                  replace H := Option.bind_eq_some_iff.mp H
                  obtain ⟨t906, A500, H⟩ := H
                  replace H : (if t906 = true then (if (!(t902 == x902001_17) || (!(t903 == x902002_17))) = true then (some false) else (levylaw1_MoneySafe.l0 kj26 l0 (wrap64 (x4_1 + 1)) t902 t903)) else (levylaw1_MoneySafe.l0 kj26 l0 (wrap64 (x4_1 + 1)) t902 t903)) = some r := H
                  have A50 := Aside0.mk A500
                  clear A500
                  by_cases c51 : t906 = true
                  ·subst c51
                   have H1 : (if (!(t902 == x902001_17) || (!(t903 == x902002_17))) = true then (some false) else (levylaw1_MoneySafe.l0 kj26 l0 (wrap64 (x4_1 + 1)) t902 t903)) = some r := by rw [if_pos rfl] at H; exact H
                   clear H
                   have H := H1
                   clear H1
                   by_cases c52 : (!(t902 == x902001_17) || (!(t903 == x902002_17))) = true
                   ·rw [if_pos c52] at H
                    have c52b0 : (!(t902 == x902001_17) || (!(t903 == x902002_17))) = true := c52
                    clear c52
                    obtain rfl := Option.some.inj H
                    have hnb53 := NB901_899.out
                    have hnc53 := NB899_901.out
                    have hnb54 := NB901_904.out
                    have hnc54 := NB904_901.out
                    have hcz55_0 : wc.cell? ⟨gb901, 0, none⟩ = some (.int .i64 x902000_17) := (blk_cell BK901.out 0).trans rfl
                    have hcz55_1 : wc.cell? ⟨gb901, 1, none⟩ = some (.int .i64 x902001_17) := (blk_cell BK901.out 1).trans rfl
                    have hcz55_2 : wc.cell? ⟨gb901, 2, none⟩ = some (.int .i64 x902002_17) := (blk_cell BK901.out 2).trans rfl
                    have hcz55_3 : wc.cell? ⟨gb901, 3, none⟩ = some (.int .i64 ((rd_T83 l0 x4_1).f2.f0)) := (blk_cell BK901.out 3).trans rfl
                    have hcz55_4 : wc.cell? ⟨gb901, 4, none⟩ = some (.int .i64 ((rd_T83 l0 x4_1).f2.f1)) := (blk_cell BK901.out 4).trans rfl
                    have hcz55_5 : wc.cell? ⟨gb901, 5, none⟩ = some (.int .i64 ((rd_T83 l0 x4_1).f3.f0)) := (blk_cell BK901.out 5).trans rfl
                    have hcz55_6 : wc.cell? ⟨gb901, 6, none⟩ = some (.int .i64 ((rd_T83 l0 x4_1).f3.f1)) := (blk_cell BK901.out 6).trans rfl
                    have hcz55_7 : wc.cell? ⟨gb901, 7, none⟩ = some (.int .i64 ((rd_T83 l0 x4_1).f4)) := (blk_cell BK901.out 7).trans rfl
                    have hcz55_8 : wc.cell? ⟨gb901, 8, none⟩ = some (.int .i64 ((rd_T83 l0 x4_1).f5)) := (blk_cell BK901.out 8).trans rfl
                    have hcz55_9 : wc.cell? ⟨gb901, 9, none⟩ = some (.int .i64 ((rd_T83 l0 x4_1).f6)) := (blk_cell BK901.out 9).trans rfl
                    have hcz55_10 : wc.cell? ⟨gb901, 10, none⟩ = some (.slice A900_10 ((rd_T83 l0 x4_1).f7).length c900_10) := (blk_cell BK901.out 10).trans rfl
                    have hcz55_11 : wc.cell? ⟨gb901, 11, none⟩ = some (.slice A900_11 ((rd_T83 l0 x4_1).f8).length c900_11) := (blk_cell BK901.out 11).trans rfl
                    have hfz55_0 := blk_frozen BK901.out 0
                    have hfz55_1 := blk_frozen BK901.out 1
                    have hfz55_2 := blk_frozen BK901.out 2
                    have hfz55_3 := blk_frozen BK901.out 3
                    have hfz55_4 := blk_frozen BK901.out 4
                    have hfz55_5 := blk_frozen BK901.out 5
                    have hfz55_6 := blk_frozen BK901.out 6
                    have hfz55_7 := blk_frozen BK901.out 7
                    have hfz55_8 := blk_frozen BK901.out 8
                    have hfz55_9 := blk_frozen BK901.out 9
                    have hfz55_10 := blk_frozen BK901.out 10
                    have hfz55_11 := blk_frozen BK901.out 11
                    go_wp2_with (first | (go_at_call 18; (with_reducible refine (money_Valid.calls x902001_17 x902002_17 true _ A50.out (by first | exact HG0.out | exact Kd.C_below HG0.out blx)).mono ?_); rintro e w56 ⟨rfl, hb⟩; replace BK899 := bkq BK899 hb; replace BK901 := bkq BK901 hb; replace BK904 := bkq BK904 hb; replace HB := Aside0.mk (below_step blx hb); (try clear hb); (try clear hb2); (try clear hk); (try clear hi); have hnb57 := NB904_899.out; have hnc57 := NB899_904.out; obtain ⟨hcz58_0, hcz58_1, hfz58_0, hfz58_1⟩ := c2_ BK904; have hcz59_0 : w56.cell? ⟨gb901, 0, none⟩ = some (.int .i64 x902000_17) := (blk_cell BK901.out 0).trans rfl; have hcz59_1 : w56.cell? ⟨gb901, 1, none⟩ = some (.int .i64 x902001_17) := (blk_cell BK901.out 1).trans rfl; have hcz59_2 : w56.cell? ⟨gb901, 2, none⟩ = some (.int .i64 x902002_17) := (blk_cell BK901.out 2).trans rfl; have hcz59_3 : w56.cell? ⟨gb901, 3, none⟩ = some (.int .i64 ((rd_T83 l0 x4_1).f2.f0)) := (blk_cell BK901.out 3).trans rfl; have hcz59_4 : w56.cell? ⟨gb901, 4, none⟩ = some (.int .i64 ((rd_T83 l0 x4_1).f2.f1)) := (blk_cell BK901.out 4).trans rfl; have hcz59_5 : w56.cell? ⟨gb901, 5, none⟩ = some (.int .i64 ((rd_T83 l0 x4_1).f3.f0)) := (blk_cell BK901.out 5).trans rfl; have hcz59_6 : w56.cell? ⟨gb901, 6, none⟩ = some (.int .i64 ((rd_T83 l0 x4_1).f3.f1)) := (blk_cell BK901.out 6).trans rfl; have hcz59_7 : w56.cell? ⟨gb901, 7, none⟩ = some (.int .i64 ((rd_T83 l0 x4_1).f4)) := (blk_cell BK901.out 7).trans rfl; have hcz59_8 : w56.cell? ⟨gb901, 8, none⟩ = some (.int .i64 ((rd_T83 l0 x4_1).f5)) := (blk_cell BK901.out 8).trans rfl; have hcz59_9 : w56.cell? ⟨gb901, 9, none⟩ = some (.int .i64 ((rd_T83 l0 x4_1).f6)) := (blk_cell BK901.out 9).trans rfl; have hcz59_10 : w56.cell? ⟨gb901, 10, none⟩ = some (.slice A900_10 ((rd_T83 l0 x4_1).f7).length c900_10) := (blk_cell BK901.out 10).trans rfl; have hcz59_11 : w56.cell? ⟨gb901, 11, none⟩ = some (.slice A900_11 ((rd_T83 l0 x4_1).f8).length c900_11) := (blk_cell BK901.out 11).trans rfl; have hfz59_0 := blk_frozen BK901.out 0; have hfz59_1 := blk_frozen BK901.out 1; have hfz59_2 := blk_frozen BK901.out 2; have hfz59_3 := blk_frozen BK901.out 3; have hfz59_4 := blk_frozen BK901.out 4; have hfz59_5 := blk_frozen BK901.out 5; have hfz59_6 := blk_frozen BK901.out 6; have hfz59_7 := blk_frozen BK901.out 7; have hfz59_8 := blk_frozen BK901.out 8; have hfz59_9 := blk_frozen BK901.out 9; have hfz59_10 := blk_frozen BK901.out 10; have hfz59_11 := blk_frozen BK901.out 11))
                    go_ret
                    exact ⟨by first | rfl | (simp [errW_none, errW_some] <;> rfl) | (simp [*, errW_none, errW_some] <;> rfl), blx⟩
                   ·rw [if_neg c52] at H
                    have c52b0 : (!(t902 == x902001_17) || (!(t903 == x902002_17))) = false := by simpa using c52
                    clear c52
                    have H' := Aside0.mk H
                    clear H
                    have hnb60 := NB901_899.out
                    have hnc60 := NB899_901.out
                    have hnb61 := NB901_904.out
                    have hnc61 := NB904_901.out
                    have hcz62_0 : wc.cell? ⟨gb901, 0, none⟩ = some (.int .i64 x902000_17) := (blk_cell BK901.out 0).trans rfl
                    have hcz62_1 : wc.cell? ⟨gb901, 1, none⟩ = some (.int .i64 x902001_17) := (blk_cell BK901.out 1).trans rfl
                    have hcz62_2 : wc.cell? ⟨gb901, 2, none⟩ = some (.int .i64 x902002_17) := (blk_cell BK901.out 2).trans rfl
                    have hcz62_3 : wc.cell? ⟨gb901, 3, none⟩ = some (.int .i64 ((rd_T83 l0 x4_1).f2.f0)) := (blk_cell BK901.out 3).trans rfl
                    have hcz62_4 : wc.cell? ⟨gb901, 4, none⟩ = some (.int .i64 ((rd_T83 l0 x4_1).f2.f1)) := (blk_cell BK901.out 4).trans rfl
                    have hcz62_5 : wc.cell? ⟨gb901, 5, none⟩ = some (.int .i64 ((rd_T83 l0 x4_1).f3.f0)) := (blk_cell BK901.out 5).trans rfl
                    have hcz62_6 : wc.cell? ⟨gb901, 6, none⟩ = some (.int .i64 ((rd_T83 l0 x4_1).f3.f1)) := (blk_cell BK901.out 6).trans rfl
                    have hcz62_7 : wc.cell? ⟨gb901, 7, none⟩ = some (.int .i64 ((rd_T83 l0 x4_1).f4)) := (blk_cell BK901.out 7).trans rfl
                    have hcz62_8 : wc.cell? ⟨gb901, 8, none⟩ = some (.int .i64 ((rd_T83 l0 x4_1).f5)) := (blk_cell BK901.out 8).trans rfl
                    have hcz62_9 : wc.cell? ⟨gb901, 9, none⟩ = some (.int .i64 ((rd_T83 l0 x4_1).f6)) := (blk_cell BK901.out 9).trans rfl
                    have hcz62_10 : wc.cell? ⟨gb901, 10, none⟩ = some (.slice A900_10 ((rd_T83 l0 x4_1).f7).length c900_10) := (blk_cell BK901.out 10).trans rfl
                    have hcz62_11 : wc.cell? ⟨gb901, 11, none⟩ = some (.slice A900_11 ((rd_T83 l0 x4_1).f8).length c900_11) := (blk_cell BK901.out 11).trans rfl
                    have hfz62_0 := blk_frozen BK901.out 0
                    have hfz62_1 := blk_frozen BK901.out 1
                    have hfz62_2 := blk_frozen BK901.out 2
                    have hfz62_3 := blk_frozen BK901.out 3
                    have hfz62_4 := blk_frozen BK901.out 4
                    have hfz62_5 := blk_frozen BK901.out 5
                    have hfz62_6 := blk_frozen BK901.out 6
                    have hfz62_7 := blk_frozen BK901.out 7
                    have hfz62_8 := blk_frozen BK901.out 8
                    have hfz62_9 := blk_frozen BK901.out 9
                    have hfz62_10 := blk_frozen BK901.out 10
                    have hfz62_11 := blk_frozen BK901.out 11
                    go_wp2_with (first | (go_at_call 18; (with_reducible refine (money_Valid.calls x902001_17 x902002_17 true _ A50.out (by first | exact HG0.out | exact Kd.C_below HG0.out blx)).mono ?_); rintro e w63 ⟨rfl, hb⟩; replace BK899 := bkq BK899 hb; replace BK901 := bkq BK901 hb; replace BK904 := bkq BK904 hb; replace HB := Aside0.mk (below_step blx hb); (try clear hb); (try clear hb2); (try clear hk); (try clear hi); have hnb64 := NB904_899.out; have hnc64 := NB899_904.out; obtain ⟨hcz65_0, hcz65_1, hfz65_0, hfz65_1⟩ := c2_ BK904; have hcz66_0 : w63.cell? ⟨gb901, 0, none⟩ = some (.int .i64 x902000_17) := (blk_cell BK901.out 0).trans rfl; have hcz66_1 : w63.cell? ⟨gb901, 1, none⟩ = some (.int .i64 x902001_17) := (blk_cell BK901.out 1).trans rfl; have hcz66_2 : w63.cell? ⟨gb901, 2, none⟩ = some (.int .i64 x902002_17) := (blk_cell BK901.out 2).trans rfl; have hcz66_3 : w63.cell? ⟨gb901, 3, none⟩ = some (.int .i64 ((rd_T83 l0 x4_1).f2.f0)) := (blk_cell BK901.out 3).trans rfl; have hcz66_4 : w63.cell? ⟨gb901, 4, none⟩ = some (.int .i64 ((rd_T83 l0 x4_1).f2.f1)) := (blk_cell BK901.out 4).trans rfl; have hcz66_5 : w63.cell? ⟨gb901, 5, none⟩ = some (.int .i64 ((rd_T83 l0 x4_1).f3.f0)) := (blk_cell BK901.out 5).trans rfl; have hcz66_6 : w63.cell? ⟨gb901, 6, none⟩ = some (.int .i64 ((rd_T83 l0 x4_1).f3.f1)) := (blk_cell BK901.out 6).trans rfl; have hcz66_7 : w63.cell? ⟨gb901, 7, none⟩ = some (.int .i64 ((rd_T83 l0 x4_1).f4)) := (blk_cell BK901.out 7).trans rfl; have hcz66_8 : w63.cell? ⟨gb901, 8, none⟩ = some (.int .i64 ((rd_T83 l0 x4_1).f5)) := (blk_cell BK901.out 8).trans rfl; have hcz66_9 : w63.cell? ⟨gb901, 9, none⟩ = some (.int .i64 ((rd_T83 l0 x4_1).f6)) := (blk_cell BK901.out 9).trans rfl; have hcz66_10 : w63.cell? ⟨gb901, 10, none⟩ = some (.slice A900_10 ((rd_T83 l0 x4_1).f7).length c900_10) := (blk_cell BK901.out 10).trans rfl; have hcz66_11 : w63.cell? ⟨gb901, 11, none⟩ = some (.slice A900_11 ((rd_T83 l0 x4_1).f8).length c900_11) := (blk_cell BK901.out 11).trans rfl; have hfz66_0 := blk_frozen BK901.out 0; have hfz66_1 := blk_frozen BK901.out 1; have hfz66_2 := blk_frozen BK901.out 2; have hfz66_3 := blk_frozen BK901.out 3; have hfz66_4 := blk_frozen BK901.out 4; have hfz66_5 := blk_frozen BK901.out 5; have hfz66_6 := blk_frozen BK901.out 6; have hfz66_7 := blk_frozen BK901.out 7; have hfz66_8 := blk_frozen BK901.out 8; have hfz66_9 := blk_frozen BK901.out 9; have hfz66_10 := blk_frozen BK901.out 10; have hfz66_11 := blk_frozen BK901.out 11; obtain ⟨hcz67_0, hcz67_1, hfz67_0, hfz67_1⟩ := c2_ BK899))
                    go_roundg kj26
                    case measure => have := HK1.out; have := HJ8.out; have := HJ17.out; have := HJ26.out; omega
                    case rel => exact ⟨(wrap64 (x4_1 + 1)), (t902), (t903), (by first | rfl | (simp; done) | (simp [*]; done)), H', ⟨by have := HK1.out; have := HJ8.out; have := HJ17.out; have := HJ26.out; omega⟩, ⟨by (with_reducible repeat (first | refine blk_drewN ?_ _ | refine blk_drew ?_ | refine blk_alloc ?_ _)); refine blk_put (cs := #[.int .i64 t902, .int .i64 x900001_1]) ?_ 1 _ rfl; (with_reducible repeat (first | refine blk_drewN ?_ _ | refine blk_drew ?_ | refine blk_alloc ?_ _)); refine blk_put (cs := #[.int .i64 x900000_1, .int .i64 x900001_1]) ?_ 0 _ rfl; (with_reducible repeat (first | refine blk_drewN ?_ _ | refine blk_drew ?_ | refine blk_alloc ?_ _)); exact BK899.out⟩, ⟨blx⟩⟩
                  ·replace c51 := Bool.eq_false_iff.mpr c51
                   subst c51
                   have H1 : (levylaw1_MoneySafe.l0 kj26 l0 (wrap64 (x4_1 + 1)) t902 t903) = some r := by rw [if_neg (show ¬ (false = true) by decide)] at H; exact H
                   clear H
                   have H := H1
                   clear H1
                   have H' := Aside0.mk H
                   clear H
                   have hnb68 := NB901_899.out
                   have hnc68 := NB899_901.out
                   have hnb69 := NB901_904.out
                   have hnc69 := NB904_901.out
                   have hcz70_0 : wc.cell? ⟨gb901, 0, none⟩ = some (.int .i64 x902000_17) := (blk_cell BK901.out 0).trans rfl
                   have hcz70_1 : wc.cell? ⟨gb901, 1, none⟩ = some (.int .i64 x902001_17) := (blk_cell BK901.out 1).trans rfl
                   have hcz70_2 : wc.cell? ⟨gb901, 2, none⟩ = some (.int .i64 x902002_17) := (blk_cell BK901.out 2).trans rfl
                   have hcz70_3 : wc.cell? ⟨gb901, 3, none⟩ = some (.int .i64 ((rd_T83 l0 x4_1).f2.f0)) := (blk_cell BK901.out 3).trans rfl
                   have hcz70_4 : wc.cell? ⟨gb901, 4, none⟩ = some (.int .i64 ((rd_T83 l0 x4_1).f2.f1)) := (blk_cell BK901.out 4).trans rfl
                   have hcz70_5 : wc.cell? ⟨gb901, 5, none⟩ = some (.int .i64 ((rd_T83 l0 x4_1).f3.f0)) := (blk_cell BK901.out 5).trans rfl
                   have hcz70_6 : wc.cell? ⟨gb901, 6, none⟩ = some (.int .i64 ((rd_T83 l0 x4_1).f3.f1)) := (blk_cell BK901.out 6).trans rfl
                   have hcz70_7 : wc.cell? ⟨gb901, 7, none⟩ = some (.int .i64 ((rd_T83 l0 x4_1).f4)) := (blk_cell BK901.out 7).trans rfl
                   have hcz70_8 : wc.cell? ⟨gb901, 8, none⟩ = some (.int .i64 ((rd_T83 l0 x4_1).f5)) := (blk_cell BK901.out 8).trans rfl
                   have hcz70_9 : wc.cell? ⟨gb901, 9, none⟩ = some (.int .i64 ((rd_T83 l0 x4_1).f6)) := (blk_cell BK901.out 9).trans rfl
                   have hcz70_10 : wc.cell? ⟨gb901, 10, none⟩ = some (.slice A900_10 ((rd_T83 l0 x4_1).f7).length c900_10) := (blk_cell BK901.out 10).trans rfl
                   have hcz70_11 : wc.cell? ⟨gb901, 11, none⟩ = some (.slice A900_11 ((rd_T83 l0 x4_1).f8).length c900_11) := (blk_cell BK901.out 11).trans rfl
                   have hfz70_0 := blk_frozen BK901.out 0
                   have hfz70_1 := blk_frozen BK901.out 1
                   have hfz70_2 := blk_frozen BK901.out 2
                   have hfz70_3 := blk_frozen BK901.out 3
                   have hfz70_4 := blk_frozen BK901.out 4
                   have hfz70_5 := blk_frozen BK901.out 5
                   have hfz70_6 := blk_frozen BK901.out 6
                   have hfz70_7 := blk_frozen BK901.out 7
                   have hfz70_8 := blk_frozen BK901.out 8
                   have hfz70_9 := blk_frozen BK901.out 9
                   have hfz70_10 := blk_frozen BK901.out 10
                   have hfz70_11 := blk_frozen BK901.out 11
                   go_wp2_with (first | (go_at_call 18; (with_reducible refine (money_Valid.calls x902001_17 x902002_17 false _ A50.out (by first | exact HG0.out | exact Kd.C_below HG0.out blx)).mono ?_); rintro e w71 ⟨rfl, hb⟩; replace BK899 := bkq BK899 hb; replace BK901 := bkq BK901 hb; replace BK904 := bkq BK904 hb; replace HB := Aside0.mk (below_step blx hb); (try clear hb); (try clear hb2); (try clear hk); (try clear hi); have hnb72 := NB904_899.out; have hnc72 := NB899_904.out; obtain ⟨hcz73_0, hcz73_1, hfz73_0, hfz73_1⟩ := c2_ BK904; obtain ⟨hcz74_0, hcz74_1, hfz74_0, hfz74_1⟩ := c2_ BK899))
                   go_roundg kj26
                   case measure => have := HK1.out; have := HJ8.out; have := HJ17.out; have := HJ26.out; omega
                   case rel => exact ⟨(wrap64 (x4_1 + 1)), (t902), (t903), (by first | rfl | (simp; done) | (simp [*]; done)), H', ⟨by have := HK1.out; have := HJ8.out; have := HJ17.out; have := HJ26.out; omega⟩, ⟨by (with_reducible repeat (first | refine blk_drewN ?_ _ | refine blk_drew ?_ | refine blk_alloc ?_ _)); refine blk_put (cs := #[.int .i64 t902, .int .i64 x900001_1]) ?_ 1 _ rfl; (with_reducible repeat (first | refine blk_drewN ?_ _ | refine blk_drew ?_ | refine blk_alloc ?_ _)); refine blk_put (cs := #[.int .i64 x900000_1, .int .i64 x900001_1]) ?_ 0 _ rfl; (with_reducible repeat (first | refine blk_drewN ?_ _ | refine blk_drew ?_ | refine blk_alloc ?_ _)); exact BK899.out⟩, ⟨blx⟩⟩
                 ·rw [if_neg c49] at H
                  have c49b0 : (x902001_17 == 6) = false := beq_eq_false_iff_ne.mpr c49
                  have c49b1 : (x902001_17 != 6) = true := bne_iff_ne.mpr c49
                  have H' := Aside0.mk H
                  clear H
                  have hnb75 := NB901_899.out
                  have hnc75 := NB899_901.out
                  have hnb76 := NB901_904.out
                  have hnc76 := NB904_901.out
                  have hcz77_0 : wc.cell? ⟨gb901, 0, none⟩ = some (.int .i64 x902000_17) := (blk_cell BK901.out 0).trans rfl
                  have hcz77_1 : wc.cell? ⟨gb901, 1, none⟩ = some (.int .i64 x902001_17) := (blk_cell BK901.out 1).trans rfl
                  have hcz77_2 : wc.cell? ⟨gb901, 2, none⟩ = some (.int .i64 x902002_17) := (blk_cell BK901.out 2).trans rfl
                  have hcz77_3 : wc.cell? ⟨gb901, 3, none⟩ = some (.int .i64 ((rd_T83 l0 x4_1).f2.f0)) := (blk_cell BK901.out 3).trans rfl
                  have hcz77_4 : wc.cell? ⟨gb901, 4, none⟩ = some (.int .i64 ((rd_T83 l0 x4_1).f2.f1)) := (blk_cell BK901.out 4).trans rfl
                  have hcz77_5 : wc.cell? ⟨gb901, 5, none⟩ = some (.int .i64 ((rd_T83 l0 x4_1).f3.f0)) := (blk_cell BK901.out 5).trans rfl
                  have hcz77_6 : wc.cell? ⟨gb901, 6, none⟩ = some (.int .i64 ((rd_T83 l0 x4_1).f3.f1)) := (blk_cell BK901.out 6).trans rfl
                  have hcz77_7 : wc.cell? ⟨gb901, 7, none⟩ = some (.int .i64 ((rd_T83 l0 x4_1).f4)) := (blk_cell BK901.out 7).trans rfl
                  have hcz77_8 : wc.cell? ⟨gb901, 8, none⟩ = some (.int .i64 ((rd_T83 l0 x4_1).f5)) := (blk_cell BK901.out 8).trans rfl
                  have hcz77_9 : wc.cell? ⟨gb901, 9, none⟩ = some (.int .i64 ((rd_T83 l0 x4_1).f6)) := (blk_cell BK901.out 9).trans rfl
                  have hcz77_10 : wc.cell? ⟨gb901, 10, none⟩ = some (.slice A900_10 ((rd_T83 l0 x4_1).f7).length c900_10) := (blk_cell BK901.out 10).trans rfl
                  have hcz77_11 : wc.cell? ⟨gb901, 11, none⟩ = some (.slice A900_11 ((rd_T83 l0 x4_1).f8).length c900_11) := (blk_cell BK901.out 11).trans rfl
                  have hfz77_0 := blk_frozen BK901.out 0
                  have hfz77_1 := blk_frozen BK901.out 1
                  have hfz77_2 := blk_frozen BK901.out 2
                  have hfz77_3 := blk_frozen BK901.out 3
                  have hfz77_4 := blk_frozen BK901.out 4
                  have hfz77_5 := blk_frozen BK901.out 5
                  have hfz77_6 := blk_frozen BK901.out 6
                  have hfz77_7 := blk_frozen BK901.out 7
                  have hfz77_8 := blk_frozen BK901.out 8
                  have hfz77_9 := blk_frozen BK901.out 9
                  have hfz77_10 := blk_frozen BK901.out 10
                  have hfz77_11 := blk_frozen BK901.out 11
                  have hnb78 := NB904_899.out
                  have hnc78 := NB899_904.out
                  obtain ⟨hcz79_0, hcz79_1, hfz79_0, hfz79_1⟩ := c2_ BK904
                  obtain ⟨hcz80_0, hcz80_1, hfz80_0, hfz80_1⟩ := c2_ BK899
                  go_wp2
                  go_roundg kj26
                  case measure => have := HK1.out; have := HJ8.out; have := HJ17.out; have := HJ26.out; omega
                  case rel => exact ⟨(wrap64 (x4_1 + 1)), (t902), (t903), (by first | rfl | (simp; done) | (simp [*]; done)), H', ⟨by have := HK1.out; have := HJ8.out; have := HJ17.out; have := HJ26.out; omega⟩, ⟨by (with_reducible repeat (first | refine blk_drewN ?_ _ | refine blk_drew ?_ | refine blk_alloc ?_ _)); refine blk_put (cs := #[.int .i64 t902, .int .i64 x900001_1]) ?_ 1 _ rfl; (with_reducible repeat (first | refine blk_drewN ?_ _ | refine blk_drew ?_ | refine blk_alloc ?_ _)); refine blk_put (cs := #[.int .i64 x900000_1, .int .i64 x900001_1]) ?_ 0 _ rfl; (with_reducible repeat (first | refine blk_drewN ?_ _ | refine blk_drew ?_ | refine blk_alloc ?_ _)); exact BK899.out⟩, ⟨blx⟩⟩
                ·rw [if_neg c48] at H
                 have c48b0 : decide (x902000_17 ≤ 13) = false := decide_eq_false c48
                 clear c48
                 have H' := Aside0.mk H
                 clear H
                 have hnb81 := NB901_899.out
                 have hnc81 := NB899_901.out
                 have hnb82 := NB901_904.out
                 have hnc82 := NB904_901.out
                 have hcz83_0 : wc.cell? ⟨gb901, 0, none⟩ = some (.int .i64 x902000_17) := (blk_cell BK901.out 0).trans rfl
                 have hcz83_1 : wc.cell? ⟨gb901, 1, none⟩ = some (.int .i64 x902001_17) := (blk_cell BK901.out 1).trans rfl
                 have hcz83_2 : wc.cell? ⟨gb901, 2, none⟩ = some (.int .i64 x902002_17) := (blk_cell BK901.out 2).trans rfl
                 have hcz83_3 : wc.cell? ⟨gb901, 3, none⟩ = some (.int .i64 ((rd_T83 l0 x4_1).f2.f0)) := (blk_cell BK901.out 3).trans rfl
                 have hcz83_4 : wc.cell? ⟨gb901, 4, none⟩ = some (.int .i64 ((rd_T83 l0 x4_1).f2.f1)) := (blk_cell BK901.out 4).trans rfl
                 have hcz83_5 : wc.cell? ⟨gb901, 5, none⟩ = some (.int .i64 ((rd_T83 l0 x4_1).f3.f0)) := (blk_cell BK901.out 5).trans rfl
                 have hcz83_6 : wc.cell? ⟨gb901, 6, none⟩ = some (.int .i64 ((rd_T83 l0 x4_1).f3.f1)) := (blk_cell BK901.out 6).trans rfl
                 have hcz83_7 : wc.cell? ⟨gb901, 7, none⟩ = some (.int .i64 ((rd_T83 l0 x4_1).f4)) := (blk_cell BK901.out 7).trans rfl
                 have hcz83_8 : wc.cell? ⟨gb901, 8, none⟩ = some (.int .i64 ((rd_T83 l0 x4_1).f5)) := (blk_cell BK901.out 8).trans rfl
                 have hcz83_9 : wc.cell? ⟨gb901, 9, none⟩ = some (.int .i64 ((rd_T83 l0 x4_1).f6)) := (blk_cell BK901.out 9).trans rfl
                 have hcz83_10 : wc.cell? ⟨gb901, 10, none⟩ = some (.slice A900_10 ((rd_T83 l0 x4_1).f7).length c900_10) := (blk_cell BK901.out 10).trans rfl
                 have hcz83_11 : wc.cell? ⟨gb901, 11, none⟩ = some (.slice A900_11 ((rd_T83 l0 x4_1).f8).length c900_11) := (blk_cell BK901.out 11).trans rfl
                 have hfz83_0 := blk_frozen BK901.out 0
                 have hfz83_1 := blk_frozen BK901.out 1
                 have hfz83_2 := blk_frozen BK901.out 2
                 have hfz83_3 := blk_frozen BK901.out 3
                 have hfz83_4 := blk_frozen BK901.out 4
                 have hfz83_5 := blk_frozen BK901.out 5
                 have hfz83_6 := blk_frozen BK901.out 6
                 have hfz83_7 := blk_frozen BK901.out 7
                 have hfz83_8 := blk_frozen BK901.out 8
                 have hfz83_9 := blk_frozen BK901.out 9
                 have hfz83_10 := blk_frozen BK901.out 10
                 have hfz83_11 := blk_frozen BK901.out 11
                 have hnb84 := NB904_899.out
                 have hnc84 := NB899_904.out
                 obtain ⟨hcz85_0, hcz85_1, hfz85_0, hfz85_1⟩ := c2_ BK904
                 obtain ⟨hcz86_0, hcz86_1, hfz86_0, hfz86_1⟩ := c2_ BK899
                 go_wp2
                 go_roundg kj26
                 case measure => have := HK1.out; have := HJ8.out; have := HJ17.out; have := HJ26.out; omega
                 case rel => exact ⟨(wrap64 (x4_1 + 1)), (t902), (t903), (by first | rfl | (simp; done) | (simp [*]; done)), H', ⟨by have := HK1.out; have := HJ8.out; have := HJ17.out; have := HJ26.out; omega⟩, ⟨by (with_reducible repeat (first | refine blk_drewN ?_ _ | refine blk_drew ?_ | refine blk_alloc ?_ _)); refine blk_put (cs := #[.int .i64 t902, .int .i64 x900001_1]) ?_ 1 _ rfl; (with_reducible repeat (first | refine blk_drewN ?_ _ | refine blk_drew ?_ | refine blk_alloc ?_ _)); refine blk_put (cs := #[.int .i64 x900000_1, .int .i64 x900001_1]) ?_ 0 _ rfl; (with_reducible repeat (first | refine blk_drewN ?_ _ | refine blk_drew ?_ | refine blk_alloc ?_ _)); exact BK899.out⟩, ⟨blx⟩⟩
               ·rw [if_neg c47] at H
                have c47b0 : decide (1 ≤ x902000_17) = false := decide_eq_false c47
                clear c47
                have H' := Aside0.mk H
                clear H
                have hnb87 := NB901_899.out
                have hnc87 := NB899_901.out
                have hnb88 := NB901_904.out
                have hnc88 := NB904_901.out
                have hcz89_0 : wc.cell? ⟨gb901, 0, none⟩ = some (.int .i64 x902000_17) := (blk_cell BK901.out 0).trans rfl
                have hcz89_1 : wc.cell? ⟨gb901, 1, none⟩ = some (.int .i64 x902001_17) := (blk_cell BK901.out 1).trans rfl
                have hcz89_2 : wc.cell? ⟨gb901, 2, none⟩ = some (.int .i64 x902002_17) := (blk_cell BK901.out 2).trans rfl
                have hcz89_3 : wc.cell? ⟨gb901, 3, none⟩ = some (.int .i64 ((rd_T83 l0 x4_1).f2.f0)) := (blk_cell BK901.out 3).trans rfl
                have hcz89_4 : wc.cell? ⟨gb901, 4, none⟩ = some (.int .i64 ((rd_T83 l0 x4_1).f2.f1)) := (blk_cell BK901.out 4).trans rfl
                have hcz89_5 : wc.cell? ⟨gb901, 5, none⟩ = some (.int .i64 ((rd_T83 l0 x4_1).f3.f0)) := (blk_cell BK901.out 5).trans rfl
                have hcz89_6 : wc.cell? ⟨gb901, 6, none⟩ = some (.int .i64 ((rd_T83 l0 x4_1).f3.f1)) := (blk_cell BK901.out 6).trans rfl
                have hcz89_7 : wc.cell? ⟨gb901, 7, none⟩ = some (.int .i64 ((rd_T83 l0 x4_1).f4)) := (blk_cell BK901.out 7).trans rfl
                have hcz89_8 : wc.cell? ⟨gb901, 8, none⟩ = some (.int .i64 ((rd_T83 l0 x4_1).f5)) := (blk_cell BK901.out 8).trans rfl
                have hcz89_9 : wc.cell? ⟨gb901, 9, none⟩ = some (.int .i64 ((rd_T83 l0 x4_1).f6)) := (blk_cell BK901.out 9).trans rfl
                have hcz89_10 : wc.cell? ⟨gb901, 10, none⟩ = some (.slice A900_10 ((rd_T83 l0 x4_1).f7).length c900_10) := (blk_cell BK901.out 10).trans rfl
                have hcz89_11 : wc.cell? ⟨gb901, 11, none⟩ = some (.slice A900_11 ((rd_T83 l0 x4_1).f8).length c900_11) := (blk_cell BK901.out 11).trans rfl
                have hfz89_0 := blk_frozen BK901.out 0
                have hfz89_1 := blk_frozen BK901.out 1
                have hfz89_2 := blk_frozen BK901.out 2
                have hfz89_3 := blk_frozen BK901.out 3
                have hfz89_4 := blk_frozen BK901.out 4
                have hfz89_5 := blk_frozen BK901.out 5
                have hfz89_6 := blk_frozen BK901.out 6
                have hfz89_7 := blk_frozen BK901.out 7
                have hfz89_8 := blk_frozen BK901.out 8
                have hfz89_9 := blk_frozen BK901.out 9
                have hfz89_10 := blk_frozen BK901.out 10
                have hfz89_11 := blk_frozen BK901.out 11
                have hnb90 := NB904_899.out
                have hnc90 := NB899_904.out
                obtain ⟨hcz91_0, hcz91_1, hfz91_0, hfz91_1⟩ := c2_ BK904
                obtain ⟨hcz92_0, hcz92_1, hfz92_0, hfz92_1⟩ := c2_ BK899
                go_wp2
                go_roundg kj26
                case measure => have := HK1.out; have := HJ8.out; have := HJ17.out; have := HJ26.out; omega
                case rel => exact ⟨(wrap64 (x4_1 + 1)), (t902), (t903), (by first | rfl | (simp; done) | (simp [*]; done)), H', ⟨by have := HK1.out; have := HJ8.out; have := HJ17.out; have := HJ26.out; omega⟩, ⟨by (with_reducible repeat (first | refine blk_drewN ?_ _ | refine blk_drew ?_ | refine blk_alloc ?_ _)); refine blk_put (cs := #[.int .i64 t902, .int .i64 x900001_1]) ?_ 1 _ rfl; (with_reducible repeat (first | refine blk_drewN ?_ _ | refine blk_drew ?_ | refine blk_alloc ?_ _)); refine blk_put (cs := #[.int .i64 x900000_1, .int .i64 x900001_1]) ?_ 0 _ rfl; (with_reducible repeat (first | refine blk_drewN ?_ _ | refine blk_drew ?_ | refine blk_alloc ?_ _)); exact BK899.out⟩, ⟨blx⟩⟩
        ·rw [if_neg c13] at H
         exact absurd H (by simp)
       ·rw [if_neg c12] at H
        exact absurd H (by simp)
      ·replace c11 := Bool.eq_false_iff.mpr c11
       subst c11
       have H1 : (some true) = some r := by rw [if_neg (show ¬ (false = true) by decide)] at H; exact H
       clear H
       have H := H1
       clear H1
       obtain rfl := Option.some.inj H
       go_wp2
       go_ret
       exact ⟨by first | rfl | (simp [errW_none, errW_some] <;> rfl) | (simp [*, errW_none, errW_some] <;> rfl), blx⟩
 ·replace c3 := Bool.eq_false_iff.mpr c3
  subst c3
  have H1 : (some false) = some r := by rw [if_neg (show ¬ (false = true) by decide)] at H; exact H
  clear H
  have H := H1
  clear H1
  obtain rfl := Option.some.inj H
  go_enter Tryd.func16, Tryd.ntmps16
  go_wp2_with (first | ((with_reducible refine gate_callee (f := 51) rfl ?_); refine goesL_ (some 7) rfl rfl Tryd.func51 (by kernel_rfl) rfl #[] rfl agx ?_; (with_reducible refine (levylaw1_known.calls k  false _ A2.out (by first | exact HG0.out | exact Kd.C_below HG0.out blx)).mono ?_); rintro e w93 ⟨rfl, hb⟩; refine ⟨_, rfl, ?_⟩; replace HB := Aside0.mk (below_step blx hb); (try clear hb); (try clear hb2); (try clear hk); (try clear hi)))
  go_ret
  exact ⟨by first | rfl | (simp [errW_none, errW_some] <;> rfl) | (simp [*, errW_none, errW_some] <;> rfl), blx⟩
end Go.Proofs.YtnjhjaifmgjljaaDoor.PM
end

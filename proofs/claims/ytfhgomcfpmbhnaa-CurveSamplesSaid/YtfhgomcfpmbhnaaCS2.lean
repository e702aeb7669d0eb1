-- Part 2 of the texts of the claim CS (wrote by programs: words of the kit's print.sh, printed functions; and my own texts; joined by wip/tools/pack.py).
import Derived.Test.YtfhgomcfpmbhnaaCS1
import Derived.Test.YtfhgomcfpmbhnaaProg
import Derived.WalkLawsBesides

section
namespace Go.Proofs.YtfhgomcfpmbhnaaW.PrintMore
open Go.RowKit Go.Proofs.YtfhgomcfpmbhnaaW.PrintWords
set_option linter.unusedVariables false
def Kd.f32 : PrintWords.Kd Nat := PrintWords.Kd.scalar (Value.float .f32) (fun _ => rfl)
def fk_add (x y : Nat) : Bool := (Ieee.single.add x y).isSome
def fk_sub (x y : Nat) : Bool := (Ieee.single.sub x y).isSome
def fk_mul (x y : Nat) : Bool := (Ieee.single.mul x y).isSome
def fk_quo (x y : Nat) : Bool := (Ieee.single.div x y).isSome
def fl_add (x y : Nat) : Nat := (Ieee.single.add x y).getD 0
def fl_sub (x y : Nat) : Nat := (Ieee.single.sub x y).getD 0
def fl_mul (x y : Nat) : Nat := (Ieee.single.mul x y).getD 0
def fl_quo (x y : Nat) : Nat := (Ieee.single.div x y).getD 0
def fl_neg (x : Nat) : Nat := Op.negFloat .f32 x
def fl_of (n : Int) : Nat := FloatKind.f32.nearest n
section
variable {P : Program} {w : World} {t : TypeId} {x y : Nat}
theorem frun_add (h : fk_add x y = true) : (binOp .add t (.float .f32 x) (.float .f32 y)).run P w = .ok (.float .f32 (fl_add x y)) w := by
  obtain ⟨r, hr⟩ := Option.isSome_iff_exists.1 h
  rw [run_float_arith w .add t .f32 x y r hr]; unfold fl_add; rw [hr]; rfl
theorem frun_sub (h : fk_sub x y = true) : (binOp .sub t (.float .f32 x) (.float .f32 y)).run P w = .ok (.float .f32 (fl_sub x y)) w := by
  obtain ⟨r, hr⟩ := Option.isSome_iff_exists.1 h
  rw [run_float_arith w .sub t .f32 x y r hr]; unfold fl_sub; rw [hr]; rfl
theorem frun_mul (h : fk_mul x y = true) : (binOp .mul t (.float .f32 x) (.float .f32 y)).run P w = .ok (.float .f32 (fl_mul x y)) w := by
  obtain ⟨r, hr⟩ := Option.isSome_iff_exists.1 h
  rw [run_float_arith w .mul t .f32 x y r hr]; unfold fl_mul; rw [hr]; rfl
theorem frun_quo (h : fk_quo x y = true) : (binOp .quo t (.float .f32 x) (.float .f32 y)).run P w = .ok (.float .f32 (fl_quo x y)) w := by
  obtain ⟨r, hr⟩ := Option.isSome_iff_exists.1 h
  rw [run_float_arith w .quo t .f32 x y r hr]; unfold fl_quo; rw [hr]; rfl
theorem frun_neg : (Op.unary .neg (.float .f32 x)).run P w = .ok (.float .f32 (fl_neg x)) w := rfl
end
theorem frun_store {P : Program} {a : Addr} {m : Mode} {w : World} (b : Nat) : (store a (.float .f32 b) m).run P w = stored P w a (.float .f32 b) m := run_store P w a _ m rfl
theorem frun_bits (w : World) (x : Nat) : (callFunc 40 #[.float .f32 x]).run Try.prog w = .ok (.value (.int .u32 x)) w := rfl
theorem frun_from (w : World) (x : Int) : (callFunc 36 #[.int .u32 x]).run Try.prog w = .ok (.value (.float .f32 x.toNat)) w := rfl
theorem frun_of (w : World) (n : Int) : (convert 2 56 (.int .i64 n)).run Try.prog w = .ok (.float .f32 (fl_of n)) w := by
  simp [convert, run_underlying Try.underlying2, run_underlying Try.underlying56, Conv.intToFloat, fl_of, go_sem]
theorem frun_same (w : World) (x : Nat) : (convert 56 56 (.float .f32 x)).run Try.prog w = .ok (.float .f32 x) w := by
  simp [convert, run_underlying Try.underlying56, Conv.floatToFloat, go_sem]
end Go.Proofs.YtfhgomcfpmbhnaaW.PrintMore
end

section
namespace Go.Proofs.YtfhgomcfpmbhnaaW.PrintLast
open Go.Proofs.YtfhgomcfpmbhnaaW.PrintWords (Aside0)
def needsOf (md : Region.Mode) (o : Oper) : List Nat := (o.after.toList.filter (fun e => Region.binds md e)).map (fun e => e.on)
def clashOf (md : Region.Mode) (ops : Array Oper) (i : Nat) (oi : Oper) : List Nat := (List.range ops.size).filter fun j => !(j == i) && match ops[j]? with
  | some oj => !(oj.after.any (fun e => Region.binds md e && e.on == i) || oi.apart ops oj)
  | none => false
def rtab (md : Region.Mode) (ops : Array Oper) : Bool × List (List Nat × List Nat) := (Region.noSelect ops, (List.range ops.size).map fun i => match ops[i]? with
  | some o => (needsOf md o, clashOf md ops i o)
  | none => ([], []))
def readyAt (T : List (List Nat × List Nat)) (l : List Bool) (i : Nat) : Bool := !l.getD i true && match T[i]? with
  | some r => r.1.all (fun j => l.getD j false)
  | none => false
def readyT (T : List (List Nat × List Nat)) (l : List Bool) : List Nat := (List.range T.length).filter (readyAt T l)
def freeT (T : List (List Nat × List Nat)) (l : List Bool) (i : Nat) : Bool := match T[i]? with
  | some r => r.2.all (fun j => l.getD j true)
  | none => false
def closedT (T : List (List Nat × List Nat)) (l : List Bool) : Bool := (List.range T.length).all fun j => !l.getD j false || match T[j]? with
  | some r => r.1.all (fun k => l.getD k false)
  | none => true
def reachT (T : List (List Nat × List Nat)) (i : Nat) : Nat → Nat → Bool
  | 0, _ => false
  | fuel + 1, d => match T[d]? with
    | some r => r.1.any fun j => j == i || reachT T i fuel j
    | none => false
def lastT (T : List (List Nat × List Nat)) (l : List Bool) (ds : List Nat) (i : Nat) : Bool := ds.all fun d => l.getD d true || reachT T i T.length d
section
variable {md : Region.Mode} {ops : Array Oper} {T : Bool × List (List Nat × List Nat)} {l l' li lj lk : Array Bool} {ds : List Nat} {i j k : Nat}
theorem gd (l : Array Bool) (j : Nat) (b : Bool) : l.getD j b = l.toList.getD j b := by simp [Array.getD_eq_getD_getElem?, List.getD_eq_getElem?_getD]
theorem needs_all (o : Oper) (p : Nat → Bool) : o.after.all (fun e => !Region.binds md e || p e.on) = (needsOf md o).all p := by
  unfold needsOf
  rw [← Array.all_toList]
  induction o.after.toList with
  | nil => rfl
  | cons e r ih =>
    rw [List.all_cons, ih, List.filter_cons]
    cases h : Region.binds md e <;> simp
theorem needs_any (o : Oper) (p : Nat → Bool) : o.after.any (fun e => Region.binds md e && p e.on) = (needsOf md o).any p := by
  unfold needsOf
  rw [← Array.any_toList]
  induction o.after.toList with
  | nil => rfl
  | cons e r ih =>
    rw [List.any_cons, ih, List.filter_cons]
    cases h : Region.binds md e <;> simp
theorem rtab_length : (rtab md ops).2.length = ops.size := by simp [rtab]
theorem rtab_some {o : Oper} (h : ops[i]? = some o) : (rtab md ops).2[i]? = some (needsOf md o, clashOf md ops i o) := by
  have hi := (Array.getElem?_eq_some_iff.1 h).1
  unfold rtab
  rw [List.getElem?_map, List.getElem?_range hi, Option.map_some, h]
theorem rtab_none (h : ops[i]? = none) : (rtab md ops).2[i]? = none := by
  have hi : ops.size ≤ i := Array.getElem?_eq_none_iff.1 h
  exact List.getElem?_eq_none (by rw [rtab_length]; exact hi)
theorem readyAt_eq : readyAt (rtab md ops).2 l.toList i = (!l.getD i true && ((ops[i]?).map (·.after.all fun e => !Region.binds md e || l.getD e.on false)).getD false) := by
  unfold readyAt
  rw [gd]
  cases h : ops[i]? with
  | none => rw [rtab_none h]; rfl
  | some o =>
    rw [rtab_some h]
    simp only [Option.map_some, Option.getD_some]
    rw [← needs_all]
    simp only [gd]
theorem ready_eq : Region.ready md ops l = readyT (rtab md ops).2 l.toList := by
  unfold Region.ready readyT
  rw [rtab_length]
  refine List.filter_congr (fun i _ => ?_)
  rw [readyAt_eq]
theorem free_eq : Region.free md ops l i = freeT (rtab md ops).2 l.toList i := by
  unfold Region.free freeT
  cases h : ops[i]? with
  | none => rw [rtab_none h]
  | some oi =>
    rw [rtab_some h]
    simp only [clashOf]
    rw [List.all_filter]
    congr 1
    funext j
    rw [gd]
    cases hj : ops[j]? with
    | none => cases (j == i) <;> cases (l.toList.getD j true) <;> simp
    | some oj =>
      cases (j == i) <;> cases (l.toList.getD j true) <;> cases (oj.after.any (fun e => Region.binds md e && e.on == i) || oi.apart ops oj) <;> simp_all
theorem closed_eq : Region.closedB md ops l = closedT (rtab md ops).2 l.toList := by
  unfold Region.closedB closedT
  rw [rtab_length]
  congr 1
  funext j
  rw [gd]
  cases h : ops[j]? with
  | none => rw [rtab_none h]
  | some o =>
    rw [rtab_some h]
    simp only
    rw [← needs_all]
    simp only [gd]
theorem reach_eq : ∀ (fuel d : Nat), Region.reachB md ops i fuel d = reachT (rtab md ops).2 i fuel d
  | 0, _ => rfl
  | fuel + 1, d => by
    unfold Region.reachB reachT
    cases h : ops[d]? with
    | none => rw [rtab_none h]
    | some o =>
      rw [rtab_some h]
      simp only
      rw [← needs_any]
      congr 1
      funext e
      rw [reach_eq fuel]
theorem last_eq : Region.lastB md ops l ds i = lastT (rtab md ops).2 l.toList ds i := by
  unfold Region.lastB lastT
  rw [rtab_length]
  congr 1
  funext d
  rw [gd, reach_eq]
theorem readyAt_mem (h : readyAt T.2 l.toList i = true) (hT : rtab md ops = T) : (Region.ready md ops l).contains i = true := by
  subst hT
  rw [ready_eq]
  unfold readyT
  rw [List.contains_iff_mem, List.mem_filter, List.mem_range]
  refine ⟨?_, h⟩
  unfold readyAt at h
  rw [Bool.and_eq_true] at h
  cases hq : (rtab md ops).2[i]? with
  | none => rw [hq] at h; simp at h
  | some r => exact (List.getElem?_eq_some_iff.1 hq).1
theorem set_of (h : (l.toList.set i true == l'.toList) = true) : (l.setIfInBounds i true == l') = true := by
  rw [beq_iff_eq] at h ⊢
  apply Array.ext'
  rw [Array.toList_setIfInBounds]
  exact h
def anyT (T : Bool × List (List Nat × List Nat)) (l l' : List Bool) (i : Nat) : Bool := T.1 && freeT T.2 l i && readyAt T.2 l i && (l.set i true == l')
theorem any_of (hT : rtab md ops = T) (h : anyT T l.toList l'.toList i = true) : anyB md ops l l' i = true := by
  simp only [anyT, Bool.and_eq_true] at h
  obtain ⟨⟨⟨h1, h2⟩, h3⟩, h4⟩ := h
  have h5 := readyAt_mem h3 hT
  have h6 := set_of h4
  subst hT
  simp only [anyB, Bool.and_eq_true]
  exact ⟨⟨⟨h1, by rw [free_eq]; exact h2⟩, h5⟩, h6⟩
def takeT (T : Bool × List (List Nat × List Nat)) (ds : List Nat) (l l' : List Bool) (i : Nat) : Bool := T.1 && freeT T.2 l i && readyAt T.2 l i && closedT T.2 l && lastT T.2 l ds i && (l.set i true == l')
theorem take_of (hT : rtab md ops = T) (h : takeT T ds l.toList l'.toList i = true) : takeB md ops ds l l' i = true := by
  simp only [takeT, Bool.and_eq_true] at h
  obtain ⟨⟨⟨⟨⟨h1, h2⟩, h3⟩, h4⟩, h5⟩, h6⟩ := h
  have h7 := readyAt_mem h3 hT
  have h8 := set_of h6
  subst hT
  simp only [takeB, Bool.and_eq_true]
  exact ⟨⟨⟨⟨⟨h1, by rw [free_eq]; exact h2⟩, h7⟩, by rw [closed_eq]; exact h4⟩, by rw [last_eq]; exact h5⟩, h8⟩
theorem one_of (hT : rtab md ops = T) (h : (readyT T.2 l.toList == [i] && l.toList.set i true == l'.toList) = true) : readyB md ops l l' i = true := by
  simp only [Bool.and_eq_true] at h
  obtain ⟨h1, h2⟩ := h
  subst hT
  simp only [readyB, Bool.and_eq_true]
  exact ⟨by rw [ready_eq]; exact h1, set_of h2⟩
theorem done_of (hT : rtab md ops = T) (h : (readyT T.2 l.toList == []) = true) : (Region.ready md ops l == []) = true := by
  subst hT
  rw [ready_eq]
  exact h
def upM (B : List Nat) (d : Nat) : List Nat → Nat
  | [] => 0
  | n :: r => (2 ^ n ||| (if n < d then B.getD n 0 else 0)) ||| upM B d r
def waitsOk (T : List (List Nat × List Nat)) (B : List Nat) : Bool := (List.range T.length).all fun d => match T[d]? with
  | some r => (B.getD d 0 ||| upM B d r.1) == upM B d r.1
  | none => false
theorem upM_bit {B : List Nat} {d i : Nat} : ∀ {ns : List Nat}, (upM B d ns).testBit i = true → ∃ n ∈ ns, n = i ∨ (n < d ∧ (B.getD n 0).testBit i = true)
  | [], h => by simp [upM] at h
  | n :: r, h => by
    unfold upM at h
    rw [Nat.testBit_or, Nat.testBit_or, Bool.or_eq_true, Bool.or_eq_true] at h
    rcases h with (h | h) | h
    · rw [Nat.testBit_two_pow] at h
      exact ⟨n, List.mem_cons_self, .inl (by simpa using h)⟩
    · by_cases hn : n < d
      · rw [if_pos hn] at h
        exact ⟨n, List.mem_cons_self, .inr ⟨hn, h⟩⟩
      · rw [if_neg hn] at h
        simp at h
    · obtain ⟨m, hm, h2⟩ := upM_bit h
      exact ⟨m, List.mem_cons_of_mem _ hm, h2⟩
theorem reach_bit {T : List (List Nat × List Nat)} {B : List Nat} (hB : waitsOk T B = true) : ∀ (fuel d : Nat), d < fuel → d < T.length → (B.getD d 0).testBit i = true → reachT T i fuel d = true
  | 0, d, h, _, _ => by omega
  | fuel + 1, d, h, hd, hb => by
    have h1 := List.all_eq_true.1 hB d (List.mem_range.2 hd)
    cases hr : T[d]? with
    | none => rw [hr] at h1; simp at h1
    | some r =>
      rw [hr] at h1
      simp only [beq_iff_eq] at h1
      have h2 : (upM B d r.1).testBit i = true := by rw [← h1, Nat.testBit_or, hb, Bool.true_or]
      obtain ⟨n, hn, h3⟩ := upM_bit h2
      unfold reachT
      rw [hr]
      simp only
      rw [List.any_eq_true]
      refine ⟨n, hn, ?_⟩
      rcases h3 with rfl | ⟨h4, h5⟩
      · simp
      · rw [reach_bit hB fuel n (by omega) (by omega) h5, Bool.or_true]
def lastW (T : List (List Nat × List Nat)) (B : List Nat) (l : List Bool) (ds : List Nat) (i : Nat) : Bool := ds.all fun d => l.getD d true || (decide (d < T.length) && (B.getD d 0).testBit i)
def takeW (T : Bool × List (List Nat × List Nat)) (B : List Nat) (ds : List Nat) (l l' : List Bool) (i : Nat) : Bool := T.1 && freeT T.2 l i && readyAt T.2 l i && closedT T.2 l && lastW T.2 B l ds i && (l.set i true == l')
theorem take_ofW {B : List Nat} (hT : rtab md ops = T) (hB : waitsOk T.2 B = true) (h : takeW T B ds l.toList l'.toList i = true) : takeB md ops ds l l' i = true := by
  refine take_of hT ?_
  simp only [takeW, takeT, Bool.and_eq_true] at h ⊢
  obtain ⟨⟨⟨⟨⟨h1, h2⟩, h3⟩, h4⟩, h5⟩, h6⟩ := h
  refine ⟨⟨⟨⟨⟨h1, h2⟩, h3⟩, h4⟩, ?_⟩, h6⟩
  unfold lastW at h5
  unfold lastT
  rw [List.all_eq_true] at h5 ⊢
  intro d hd
  have h7 := h5 d hd
  rw [Bool.or_eq_true, Bool.and_eq_true, decide_eq_true_eq] at h7
  rcases h7 with h7 | ⟨h8, h9⟩
  · rw [h7, Bool.true_or]
  · rw [reach_bit hB _ d h8 h8 h9, Bool.or_true]
theorem with_tabW {P : Program} {Q : Exit → Act → World → Prop} {S : World → Prop} {n : Nat} {a : Act} {w : World} {B : List Nat} (hT : rtab md ops = T) (hB : waitsOk T.2 B = true) (h : Aside0 (rtab md ops = T) → Aside0 (waitsOk T.2 B = true) → wpAnyLast P md ops Q S ds n l a w) : wpAnyLast P md ops Q S ds n l a w := h ⟨hT⟩ ⟨hB⟩
end
def opsIn : Code → Nat → Option (Array Oper)
  | .region id ops _, k => if id == k then some ops else none
  | .seq a b, k => match opsIn a k with
    | some o => some o
    | none => opsIn b k
  | .cond _ a b, k => match opsIn a k with
    | some o => some o
    | none => opsIn b k
  | .block _ c, k => opsIn c k
  | .loop c, k => opsIn c k
  | .scope c, k => opsIn c k
  | .rangeFunc _ _ a b, k => match opsIn a k with
    | some o => some o
    | none => opsIn b k
  | _, _ => none
def opsOf (f : Func) (k : Nat) : Array Oper := ((f.body.bind fun c => opsIn c k)).getD #[]
end Go.Proofs.YtfhgomcfpmbhnaaW.PrintLast
end

section
namespace Go.Proofs.YtfhgomcfpmbhnaaW.PrintWords
theorem Reps.front {α : Type} {R : α → List Value → Prop} {size : Nat} {ps : List α} {cs c all : List Value} {p : α} (hp : R p c) (hc : c.length = size) (h : Reps R size ps cs) (ha : c ++ cs = all) : Reps R size (p :: ps) all := by
  subst ha
  refine ⟨by rw [List.length_append, hc, h.1, List.length_cons, Nat.succ_mul, Nat.add_comm], fun j q hq => ?_⟩
  cases j with
  | zero =>
    simp only [List.getElem?_cons_zero, Option.some.injEq] at hq
    subst hq
    rw [Nat.zero_mul, List.drop_zero, List.take_append_of_le_length (by omega), List.take_of_length_le (by omega)]
    exact hp
  | succ j =>
    simp only [List.getElem?_cons_succ] at hq
    have h1 := h.2 j q hq
    rw [Nat.succ_mul, List.drop_append, List.drop_of_length_le (by rw [hc]; exact Nat.le_add_left _ _), List.nil_append, hc, Nat.add_sub_cancel]
    exact h1
theorem Reps.c2 {α : Type} {R : α → List Value → Prop} {ps : List α} {cs : List Value} {p : α} {va vb : Value} (hp : R p [va, vb]) (h : Reps R 2 ps cs) : Reps R 2 (p :: ps) (va :: vb :: cs) := Reps.front hp rfl h rfl
theorem Reps.c3 {α : Type} {R : α → List Value → Prop} {ps : List α} {cs : List Value} {p : α} {va vb vc : Value} (hp : R p [va, vb, vc]) (h : Reps R 3 ps cs) : Reps R 3 (p :: ps) (va :: vb :: vc :: cs) := Reps.front hp rfl h rfl
theorem Reps.c4 {α : Type} {R : α → List Value → Prop} {ps : List α} {cs : List Value} {p : α} {va vb vc vd : Value} (hp : R p [va, vb, vc, vd]) (h : Reps R 4 ps cs) : Reps R 4 (p :: ps) (va :: vb :: vc :: vd :: cs) := Reps.front hp rfl h rfl
theorem Reps.c5 {α : Type} {R : α → List Value → Prop} {ps : List α} {cs : List Value} {p : α} {va vb vc vd ve : Value} (hp : R p [va, vb, vc, vd, ve]) (h : Reps R 5 ps cs) : Reps R 5 (p :: ps) (va :: vb :: vc :: vd :: ve :: cs) := Reps.front hp rfl h rfl
theorem Reps.c6 {α : Type} {R : α → List Value → Prop} {ps : List α} {cs : List Value} {p : α} {va vb vc vd ve vf : Value} (hp : R p [va, vb, vc, vd, ve, vf]) (h : Reps R 6 ps cs) : Reps R 6 (p :: ps) (va :: vb :: vc :: vd :: ve :: vf :: cs) := Reps.front hp rfl h rfl
theorem Reps.c7 {α : Type} {R : α → List Value → Prop} {ps : List α} {cs : List Value} {p : α} {va vb vc vd ve vf vg : Value} (hp : R p [va, vb, vc, vd, ve, vf, vg]) (h : Reps R 7 ps cs) : Reps R 7 (p :: ps) (va :: vb :: vc :: vd :: ve :: vf :: vg :: cs) := Reps.front hp rfl h rfl
theorem Reps.c8 {α : Type} {R : α → List Value → Prop} {ps : List α} {cs : List Value} {p : α} {va vb vc vd ve vf vg vh : Value} (hp : R p [va, vb, vc, vd, ve, vf, vg, vh]) (h : Reps R 8 ps cs) : Reps R 8 (p :: ps) (va :: vb :: vc :: vd :: ve :: vf :: vg :: vh :: cs) := Reps.front hp rfl h rfl
theorem Reps.c9 {α : Type} {R : α → List Value → Prop} {ps : List α} {cs : List Value} {p : α} {va vb vc vd ve vf vg vh vi : Value} (hp : R p [va, vb, vc, vd, ve, vf, vg, vh, vi]) (h : Reps R 9 ps cs) : Reps R 9 (p :: ps) (va :: vb :: vc :: vd :: ve :: vf :: vg :: vh :: vi :: cs) := Reps.front hp rfl h rfl
theorem Reps.c10 {α : Type} {R : α → List Value → Prop} {ps : List α} {cs : List Value} {p : α} {va vb vc vd ve vf vg vh vi vj : Value} (hp : R p [va, vb, vc, vd, ve, vf, vg, vh, vi, vj]) (h : Reps R 10 ps cs) : Reps R 10 (p :: ps) (va :: vb :: vc :: vd :: ve :: vf :: vg :: vh :: vi :: vj :: cs) := Reps.front hp rfl h rfl
end Go.Proofs.YtfhgomcfpmbhnaaW.PrintWords
end

section
namespace Go.Proofs.Ytfhgomcfpmbhnaa.PS
open Go.RowKit Go.Proofs.YtfhgomcfpmbhnaaW.PrintWords Go.Proofs.YtfhgomcfpmbhnaaW.PrintLast Go.Proofs.YtfhgomcfpmbhnaaW.PrintMore
attribute [local go_sem] frun_add frun_sub frun_mul frun_quo frun_neg frun_of frun_same frun_store frun_bits frun_from
attribute [local go_sem] max2_int min2_int max_two min_two max_three min_three max_four min_four
set_option linter.unusedVariables false
set_option linter.unusedSimpArgs false
def errW : Option Int → Value
  | none => .nilIface
  | some c => .iface 0 (.int .i64 c)
theorem errW_none : errW none = .nilIface := rfl
theorem errW_some (c : Int) : errW (some c) = .iface 0 (.int .i64 c) := rfl
theorem info2 : (Try.prog.info? 2).map (fun i => (i.zero, i.size, i.bytes)) = some (some (.int .i64 0), 1, 8) := by kernel_rfl
theorem info3 : (Try.prog.info? 3).map (fun i => (i.zero, i.size, i.bytes)) = some (some (.int .i64 0), 1, 8) := by kernel_rfl
theorem info9 : (Try.prog.info? 9).map (fun i => (i.zero, i.size, i.bytes)) = some (some (.string ⟨#[]⟩), 1, 16) := by kernel_rfl
theorem info38 : (Try.prog.info? 38).map (fun i => (i.zero, i.size, i.bytes)) = some (some (.agg #[(.int .i64 0), (.int .u32 0)]), 2, 16) := by kernel_rfl
theorem info58 : (Try.prog.info? 58).map (fun i => (i.zero, i.size, i.bytes)) = some (some (.agg #[(.int .i64 0), (.float .f32 0)]), 2, 16) := by kernel_rfl
structure S38 where
  f0 : Int
  f1 : Int
def z38 : S38 := ⟨(0 : Int), (0 : Int)⟩
def k38 : Kd S38 := Kd.iso (Kd.pair (Kd.int .i64) (Kd.int .u32)) (fun x : S38 => (x.f0, x.f1))
theorem k38_open {w : World} {x : S38} {cs : List Value} (h : k38.K w x cs) : cs = [.int .i64 x.f0, .int .u32 x.f1] := by
  obtain ⟨_, _, rfl, rfl, rfl⟩ := h
  exact rfl
theorem k38_openM {w : World} {base : Nat} {ok : Nat → Prop} {x : S38} {cs : List Value} (h : k38.M w base ok x cs) : cs = [.int .i64 x.f0, .int .u32 x.f1] := by
  obtain ⟨_, _, rfl, rfl, rfl⟩ := h
  exact rfl
theorem k38_mk (w : World) (x : S38)  : k38.K w x [.int .i64 x.f0, .int .u32 x.f1] := ⟨[.int .i64 x.f0], [.int .u32 x.f1], rfl, rfl, rfl⟩
theorem k38_mkM (w : World) (base : Nat) (ok : Nat → Prop) (x : S38)  : k38.M w base ok x [.int .i64 x.f0, .int .u32 x.f1] := ⟨[.int .i64 x.f0], [.int .u32 x.f1], rfl, rfl, rfl⟩
def rd_T38 (xs : List S38) (i : Int) : S38 := xs.getD i.toNat z38
theorem at_T38 {w : World} {A : Option Addr} {n : Nat} {xs : List S38} (h : Kd.C k38 w A n xs) (i : Int) (h0 : 0 ≤ i) (h1 : i < n) : ∃ ad , A = some ad ∧ w.cell? (ad.add (i.toNat * 2)) = some (.int .i64 (rd_T38 xs i).f0) ∧ w.cell? ⟨(ad.add (i.toNat * 2)).block, (ad.add (i.toNat * 2)).off + 1, none⟩ = some (.int .u32 (rd_T38 xs i).f1) := by
  obtain ⟨ad, c, e, _, hK, hc0⟩ := Kd.C_get h z38 i h0 h1
  have hc : ∀ j u, c[j]? = some u → w.cell? (ad.add (i.toNat * 2 + j)) = some u := hc0
  obtain rfl := k38_open hK
  exact ⟨ad, e, hc 0 _ rfl, by rw [← add_field _ _ 1 (by omega)]; exact hc 1 _ rfl⟩
structure S73 where
  f0 : Int
  f1 : Int
def z73 : S73 := ⟨(0 : Int), (0 : Int)⟩
def k73 : Kd S73 := Kd.iso (Kd.pair (Kd.int .i64) (Kd.int .u32)) (fun x : S73 => (x.f0, x.f1))
theorem k73_open {w : World} {x : S73} {cs : List Value} (h : k73.K w x cs) : cs = [.int .i64 x.f0, .int .u32 x.f1] := by
  obtain ⟨_, _, rfl, rfl, rfl⟩ := h
  exact rfl
theorem k73_openM {w : World} {base : Nat} {ok : Nat → Prop} {x : S73} {cs : List Value} (h : k73.M w base ok x cs) : cs = [.int .i64 x.f0, .int .u32 x.f1] := by
  obtain ⟨_, _, rfl, rfl, rfl⟩ := h
  exact rfl
theorem k73_mk (w : World) (x : S73)  : k73.K w x [.int .i64 x.f0, .int .u32 x.f1] := ⟨[.int .i64 x.f0], [.int .u32 x.f1], rfl, rfl, rfl⟩
theorem k73_mkM (w : World) (base : Nat) (ok : Nat → Prop) (x : S73)  : k73.M w base ok x [.int .i64 x.f0, .int .u32 x.f1] := ⟨[.int .i64 x.f0], [.int .u32 x.f1], rfl, rfl, rfl⟩
def rd_T73 (xs : List S73) (i : Int) : S73 := xs.getD i.toNat z73
theorem at_T73 {w : World} {A : Option Addr} {n : Nat} {xs : List S73} (h : Kd.C k73 w A n xs) (i : Int) (h0 : 0 ≤ i) (h1 : i < n) : ∃ ad , A = some ad ∧ w.cell? (ad.add (i.toNat * 2)) = some (.int .i64 (rd_T73 xs i).f0) ∧ w.cell? ⟨(ad.add (i.toNat * 2)).block, (ad.add (i.toNat * 2)).off + 1, none⟩ = some (.int .u32 (rd_T73 xs i).f1) := by
  obtain ⟨ad, c, e, _, hK, hc0⟩ := Kd.C_get h z73 i h0 h1
  have hc : ∀ j u, c[j]? = some u → w.cell? (ad.add (i.toNat * 2 + j)) = some u := hc0
  obtain rfl := k73_open hK
  exact ⟨ad, e, hc 0 _ rfl, by rw [← add_field _ _ 1 (by omega)]; exact hc 1 _ rfl⟩
structure S58 where
  f0 : Int
  f1 : Nat
def z58 : S58 := ⟨(0 : Int), (0 : Nat)⟩
def k58 : Kd S58 := Kd.iso (Kd.pair (Kd.int .i64) Kd.f32) (fun x : S58 => (x.f0, x.f1))
theorem k58_open {w : World} {x : S58} {cs : List Value} (h : k58.K w x cs) : cs = [.int .i64 x.f0, .float .f32 x.f1] := by
  obtain ⟨_, _, rfl, rfl, rfl⟩ := h
  exact rfl
theorem k58_openM {w : World} {base : Nat} {ok : Nat → Prop} {x : S58} {cs : List Value} (h : k58.M w base ok x cs) : cs = [.int .i64 x.f0, .float .f32 x.f1] := by
  obtain ⟨_, _, rfl, rfl, rfl⟩ := h
  exact rfl
theorem k58_mk (w : World) (x : S58)  : k58.K w x [.int .i64 x.f0, .float .f32 x.f1] := ⟨[.int .i64 x.f0], [.float .f32 x.f1], rfl, rfl, rfl⟩
theorem k58_mkM (w : World) (base : Nat) (ok : Nat → Prop) (x : S58)  : k58.M w base ok x [.int .i64 x.f0, .float .f32 x.f1] := ⟨[.int .i64 x.f0], [.float .f32 x.f1], rfl, rfl, rfl⟩
def rd_T58 (xs : List S58) (i : Int) : S58 := xs.getD i.toNat z58
theorem at_T58 {w : World} {A : Option Addr} {n : Nat} {xs : List S58} (h : Kd.C k58 w A n xs) (i : Int) (h0 : 0 ≤ i) (h1 : i < n) : ∃ ad , A = some ad ∧ w.cell? (ad.add (i.toNat * 2)) = some (.int .i64 (rd_T58 xs i).f0) ∧ w.cell? ⟨(ad.add (i.toNat * 2)).block, (ad.add (i.toNat * 2)).off + 1, none⟩ = some (.float .f32 (rd_T58 xs i).f1) := by
  obtain ⟨ad, c, e, _, hK, hc0⟩ := Kd.C_get h z58 i h0 h1
  have hc : ∀ j u, c[j]? = some u → w.cell? (ad.add (i.toNat * 2 + j)) = some u := hc0
  obtain rfl := k58_open hK
  exact ⟨ad, e, hc 0 _ rfl, by rw [← add_field _ _ 1 (by omega)]; exact hc 1 _ rfl⟩
end Go.Proofs.Ytfhgomcfpmbhnaa.PS
end

section
namespace Go.Proofs.Ytfhgomcfpmbhnaa.PS
open Go.RowKit Go.Proofs.YtfhgomcfpmbhnaaW.PrintWords Go.Proofs.YtfhgomcfpmbhnaaW.PrintLast Go.Proofs.YtfhgomcfpmbhnaaW.PrintMore
attribute [local go_sem] frun_add frun_sub frun_mul frun_quo frun_neg frun_of frun_same frun_store frun_bits frun_from
attribute [local go_sem] max2_int min2_int max_two min_two max_three min_three max_four min_four
set_option linter.unusedVariables false
set_option linter.unusedSimpArgs false
def levyref17_bits.l0 : Nat → Int → Int → Option (Int)
 | 0, _, _ => none
 | k + 1, x0, x3 => if x0 > 0 then (levyref17_bits.l0 k (IntKind.u64.wrap (Int.tdiv x0 2)) (wrap64 (x3 + 1))) else (some x3)
def levyref17_bits.f (k : Nat) (a0 : Int) : Option (Int) := levyref17_bits.l0 k a0 0
theorem levyref17_bits.mono_l : ∀ k, (∀ y0 y1, LeO (levyref17_bits.l0 k y0 y1) (levyref17_bits.l0 (k + 1) y0 y1))
 | 0 => fun _ _ r h => by simp [levyref17_bits.l0] at h
 | k + 1 => by
  have ih0 := levyref17_bits.mono_l k
  ·intro y0 y1
   unfold levyref17_bits.l0
   repeat' first
   | (with_reducible exact ih0 _ _)
   | (with_reducible exact LeO.refl _)
   | (with_reducible exact LeO.none _)
   | (with_reducible refine LeO.ite ?_ ?_)
   | (with_reducible refine LeO.bind ?_ (fun _ => ?_))
   | exact ih0 _ _
   | exact LeO.none _
   | refine LeO.ite ?_ ?_
   | refine LeO.bind ?_ (fun _ => ?_)
theorem levyref17_bits.mono : ∀ a0 k, LeO (levyref17_bits.f k a0) (levyref17_bits.f (k + 1) a0) := by
 intro a0 k
 have ih0 := levyref17_bits.mono_l k
 unfold levyref17_bits.f
 repeat' first
   | (with_reducible exact ih0 _ _)
   | (with_reducible exact LeO.refl _)
   | (with_reducible exact LeO.none _)
   | (with_reducible refine LeO.ite ?_ ?_)
   | (with_reducible refine LeO.bind ?_ (fun _ => ?_))
   | exact ih0 _ _
   | exact LeO.none _
   | refine LeO.ite ?_ ?_
   | refine LeO.bind ?_ (fun _ => ?_)
set_option maxHeartbeats 8000000 in
set_option maxRecDepth 100000 in
theorem levyref17_bits.calls (k : Nat) (a0 : Int) (r : Int) (w : World) (h : levyref17_bits.f k a0 = some r) :
  Calls Try.prog 52 #[.int .u64 a0] w fun e w' => e = .returned (.int .i64 r) ∧ Drawn0 w w' := by
 have H : (levyref17_bits.l0 k a0 0) = some r := h
 clear h
 have H' := Aside0.mk H
 clear H
 go_enter Try.func52, Try.ntmps52
 go_wp2
 go_loopg [0, 3] k (fun kq v0 v3 w' => ∃ (x0_1 : Int) (x3_1 : Int), v0 = .int .u64 x0_1 ∧ v3 = .int .i64 x3_1 ∧ Aside0 (levyref17_bits.l0 kq x0_1 x3_1 = some r) ∧ Aside0 (kq ≤ k) ∧ Drawn0 w w')
 case atStart => exact ⟨(a0), (0), (by first | rfl | (simp; done) | (simp [*]; done)), (by first | rfl | (simp; done) | (simp [*]; done)), H', ⟨Nat.le_refl _⟩, by repeat (first | exact Drawn0.refl _ | apply Drawn0.step)⟩
 case round =>
  clear H'
  obtain ⟨x0_1, x3_1, rfl, rfl, HA, HK1, ⟨m1, rfl⟩⟩ := hrel
  cases gk with
  | zero => exact absurd HA.out (by simp [levyref17_bits.l0])
  | succ k1 =>
   have H := HA.out
   clear HA
   simp only [levyref17_bits.l0] at H
   by_cases c2 : x0_1 > 0
   ·rw [if_pos c2] at H
    have c2b0 : decide (0 < x0_1) = true := decide_eq_true c2
    clear c2
    have H' := Aside0.mk H
    clear H
    go_wp2
    go_roundg k1
    case measure => have := HK1.out; omega
    case rel => exact ⟨(IntKind.u64.wrap (Int.tdiv x0_1 2)), (wrap64 (x3_1 + 1)), (by first | rfl | (simp; done) | (simp [*]; done)), (by first | rfl | (simp; done) | (simp [*]; done)), H', ⟨by have := HK1.out; omega⟩, by repeat (first | exact Drawn0.refl _ | apply Drawn0.step)⟩
   ·rw [if_neg c2] at H
    have c2b0 : decide (0 < x0_1) = false := decide_eq_false c2
    clear c2
    obtain rfl := Option.some.inj H
    go_wp2
    go_ret
    exact ⟨by first | rfl | (simp; done) | (simp [*]; done), by repeat (first | exact Drawn0.refl _ | apply Drawn0.step)⟩
end Go.Proofs.Ytfhgomcfpmbhnaa.PS
end

section
namespace Go.Proofs.Ytfhgomcfpmbhnaa.PS
open Go.RowKit Go.Proofs.YtfhgomcfpmbhnaaW.PrintWords Go.Proofs.YtfhgomcfpmbhnaaW.PrintLast Go.Proofs.YtfhgomcfpmbhnaaW.PrintMore
attribute [local go_sem] frun_add frun_sub frun_mul frun_quo frun_neg frun_of frun_same frun_store frun_bits frun_from
attribute [local go_sem] max2_int min2_int max_two min_two max_three min_three max_four min_four
set_option linter.unusedVariables false
set_option linter.unusedSimpArgs false
def levyref17_signed.f (a0 : Bool) (a1 : Int) : Option (Int) := if a0 = true then (some ((a1 + 2147483648) % 4294967296)) else (some a1)
set_option maxHeartbeats 8000000 in
set_option maxRecDepth 100000 in
theorem levyref17_signed.calls (a0 : Bool) (a1 : Int) (r : Int) (w : World) (h : levyref17_signed.f a0 a1 = some r) :
  Calls Try.prog 53 #[.bool a0, .int .u32 a1] w fun e w' => e = .returned (.int .u32 r) ∧ Drawn0 w w' := by
 have H : (if a0 = true then (some ((a1 + 2147483648) % 4294967296)) else (some a1)) = some r := h
 clear h
 by_cases c3 : a0 = true
 ·subst c3
  have H1 : (some ((a1 + 2147483648) % 4294967296)) = some r := by rw [if_pos rfl] at H; exact H
  clear H
  have H := H1
  clear H1
  obtain rfl := Option.some.inj H
  go_enter Try.func53, Try.ntmps53
  go_wp2
  go_ret
  exact ⟨by first | rfl | (simp; done) | (simp [*]; done), by repeat (first | exact Drawn0.refl _ | apply Drawn0.step)⟩
 ·replace c3 := Bool.eq_false_iff.mpr c3
  subst c3
  have H1 : (some a1) = some r := by rw [if_neg (show ¬ (false = true) by decide)] at H; exact H
  clear H
  have H := H1
  clear H1
  obtain rfl := Option.some.inj H
  go_enter Try.func53, Try.ntmps53
  go_wp2
  go_ret
  exact ⟨by first | rfl | (simp; done) | (simp [*]; done), by repeat (first | exact Drawn0.refl _ | apply Drawn0.step)⟩
end Go.Proofs.Ytfhgomcfpmbhnaa.PS
end

section
namespace Go.Proofs.Ytfhgomcfpmbhnaa.Y
open Go.RowKit Go.Proofs.Ytfhgomcfpmbhnaa.PS Go.Proofs.YtfhgomcfpmbhnaaW.PrintWords
set_option linter.unusedVariables false
def sgS (minus : Bool) (b : Int) : Int := if minus then b + 2147483648 else b
def shS (n e : Int) : Int := if e + (n - 24) < -149 then -149 - e else n - 24
def upS (m P : Int) (more : Bool) : Bool := decide (P / 2 < m % P) || (m % P == P / 2 && (more || (m / P) % 2 == 1))
def m1S (m s : Int) (more : Bool) : Int := if 0 < s then m / 2 ^ s.toNat + (if upS m (2 ^ s.toNat) more then 1 else 0) else m * 2 ^ (-s).toNat
def fS (minus : Bool) (m e : Int) : Int := if m < 8388608 then sgS minus m else if e + 150 ≥ 255 then sgS minus 2139095040 else sgS minus ((e + 150) * 8388608 + (m - 8388608))
def gS (minus : Bool) (m e : Int) : Int := if m = 16777216 then fS minus 8388608 (e + 1) else fS minus m e
def rrS (minus : Bool) (m e n : Int) (more : Bool) : Int := if n < shS n e then sgS minus 0 else gS minus (m1S m (shS n e) more) (e + shS n e)
theorem signed_any (minus : Bool) (b : Int) (w : World) (h0 : 0 ≤ b) (h1 : b < 2147483648) : Calls Try.prog 53 #[.bool minus, .int .u32 b] w fun e w' => e = .returned (.int .u32 (sgS minus b)) ∧ Drawn0 w w' := by
  refine levyref17_signed.calls minus b (sgS minus b) w ?_
  unfold levyref17_signed.f sgS
  cases minus <;> simp
  omega
theorem pow_small (s : Int) (h0 : 0 < s) (h1 : s ≤ 63) : 2 ≤ (2 : Int) ^ s.toNat ∧ (2 : Int) ^ s.toNat ≤ 9223372036854775808 := by
  obtain ⟨n, rfl⟩ := Int.eq_ofNat_of_zero_le (by omega : 0 ≤ s)
  have h2 : n ≤ 63 := by omega
  have h3 : 1 ≤ n := by omega
  simp only [Int.toNat_natCast]
  have e : (2 : Int) ^ n = ((2 ^ n : Nat) : Int) := by simp
  have a := Nat.pow_le_pow_right (by decide : 0 < 2) h3
  have b := Nat.pow_le_pow_right (by decide : 0 < 2) h2
  rw [e]
  generalize 2 ^ n = z at a b ⊢
  omega
theorem u64_id (x : Int) (h0 : 0 ≤ x) (h1 : x ≤ 18446744073709551615) : IntKind.u64.wrap x = x := by
  have : IntKind.u64.wrap x = x % 18446744073709551616 := rfl
  omega
theorem ret_u32 {a b : Int} (h : a = b) : Ending.returned (.int .u32 a) = Ending.returned (.int .u32 b) := by rw [h]
set_option maxRecDepth 100000 in
set_option maxHeartbeats 16000000 in
theorem rounded_calls (minus more : Bool) (m e n : Int) (w : World) (h0 : 0 ≤ m) (h1 : m ≤ 9223372036854775808) (e0 : -400 ≤ e) (e1 : e ≤ 400) (n0 : 0 ≤ n) (n1 : n ≤ 64) (hn63 : n ≤ 63 ∨ -200 ≤ e)
    (hm : n ≤ 24 → ∀ j : Nat, (j : Int) ≤ 24 - n → m * 2 ^ j ≤ 16777216) (hP : ∀ s : Int, 0 < s → n - 24 ≤ s → m / 2 ^ s.toNat < 16777216)
    (hb : ∀ W, Calls Try.prog 52 #[.int .u64 m] W fun e w' => e = .returned (.int .i64 n) ∧ Drawn0 W w') :
    Calls Try.prog 34 #[.bool minus, .int .u64 m, .int .i64 e, .bool more] w fun e' w' => e' = .returned (.int .u32 (rrS minus m e n more)) ∧ Drawn0 w w' := by
  have HM := Aside0.mk hm
  have HP := Aside0.mk hP
  have HN := Aside0.mk hn63
  clear hm hP hn63
  by_cases c : e + (n - 24) < -149
  · have cb : decide (e + (n - 24) < -149) = true := decide_eq_true c
    have hs : shS n e = -149 - e := if_pos c
    have hs1 : n - 24 ≤ -149 - e := by omega
    have hs2 : -149 ≤ e + (-149 - e) := by omega
    by_cases c1 : n < -149 - e
    · have c1b : decide (n < -149 - e) = true := decide_eq_true c1
      have HR := Aside0.mk (show rrS minus m e n more = sgS minus 0 by unfold rrS; rw [hs, if_pos c1])
      clear hs c
      go_enter Try.func34, Try.ntmps34
      go_wp2_with (first | (go_at_call 52; refine (hb _).mono ?_; rintro e w1 ⟨rfl, ⟨nd, rfl⟩⟩) | (go_at_call 53; refine (signed_any minus _ _ ?h0 ?h1).mono ?_; (case h0 => omega); (case h1 => omega); rintro e w2 ⟨rfl, ⟨nd2, rfl⟩⟩))
      go_ret
      exact ⟨ret_u32 ((congrArg (sgS minus) (by omega)).trans HR.out.symm), by repeat (first | exact Drawn0.refl _ | apply Drawn0.step)⟩
    · have c1b : decide (n < -149 - e) = false := decide_eq_false c1
      obtain ⟨m1, hm1⟩ : ∃ m1, m1S m (-149 - e) more = m1 := ⟨_, rfl⟩
      have hr : rrS minus m e n more = gS minus m1 (e + (-149 - e)) := by unfold rrS; rw [hs, if_neg c1, hm1]
      have HG := Aside0.mk hr
      clear hs hr
      unfold m1S at hm1
      by_cases c2 : 0 < -149 - e
      · have c2b : decide (0 < -149 - e) = true := decide_eq_true c2
        have c2d : decide (e < -149) = true := decide_eq_true (by omega)
        have hn63 := HN.out
        have hS63 : -149 - e ≤ 63 := by omega
        clear hn63
        obtain ⟨P0, P1⟩ := pow_small (-149 - e) c2 (by omega)
        have hq0 := HP.out (-149 - e) c2 (by omega)
        have hS0 : 0 ≤ -149 - e := by omega
        have hS64 : -149 - e < 64 := by omega
        rw [if_pos c2] at hm1
        obtain ⟨P, hP⟩ : ∃ P : Int, 2 ^ (-149 - e).toNat = P := ⟨_, rfl⟩
        rw [hP] at P0 P1 hm1 hq0
        have hone : IntKind.u64.wrap (2 ^ (-149 - e).toNat) = P := by rw [hP]; exact u64_id _ (by omega) (by omega)
        have hone2 : IntKind.u64.wrap (2 ^ min (-149 - e).toNat 64) = P := by rw [Nat.min_eq_left (by omega)]; exact hone
        obtain ⟨q, hq⟩ : ∃ q, m / P = q := ⟨_, rfl⟩
        obtain ⟨r, hrr⟩ : ∃ r, m % P = r := ⟨_, rfl⟩
        have q0 : 0 ≤ q := by rw [← hq]; exact Int.ediv_nonneg h0 (by omega)
        have r0 : 0 ≤ r := by rw [← hrr]; exact Int.emod_nonneg _ (by omega)
        rw [hq] at hq0 hm1
        unfold upS at hm1
        rw [hq, hrr] at hm1
        have m10 : 0 ≤ m1 := by rw [← hm1]; split <;> omega
        have m11 : m1 ≤ 16777216 := by rw [← hm1]; split <;> omega
        have HM1 := Aside0.mk hm1
        clear hP c c2 hm1
        cases more with
        | true =>
          go_enter Try.func34, Try.ntmps34
          go_upto_if 29 with (first | (go_at_call 52; refine (hb _).mono ?_; rintro e w1 ⟨rfl, ⟨nd, rfl⟩⟩))
          go_cut [1] (fun v1 wc => v1 = .int .u64 m1 ∧ Drawn0 w wc)
          case first =>
            have hm1 := HM1.out
            by_cases u1 : P / 2 < r
            · have u1b : decide (P / 2 < r) = true := decide_eq_true u1
              have HV := Aside0.mk (congrArg (Value.int .u64) (show q + 1 = m1 by rw [← hm1]; simp [u1]))
              clear hm1
              go_wp2
              go_meet
              case rel => exact ⟨HV.out, by repeat (first | exact Drawn0.refl _ | apply Drawn0.step)⟩
            · have u1b : decide (P / 2 < r) = false := decide_eq_false u1
              by_cases u2 : r = P / 2
              · have u2b : (r == P / 2) = true := beq_iff_eq.mpr u2
                have HV := Aside0.mk (congrArg (Value.int .u64) (show q + 1 = m1 by rw [← hm1]; simp [u1b, u2b]))
                clear hm1
                clear u2
                go_wp2
                go_meet
                case rel => exact ⟨HV.out, by repeat (first | exact Drawn0.refl _ | apply Drawn0.step)⟩
              · have u2b : (r == P / 2) = false := beq_eq_false_iff_ne.mpr u2
                have HV := Aside0.mk (congrArg (Value.int .u64) (show q = m1 by rw [← hm1]; simp [u1b, u2b]))
                clear hm1
                clear u2
                go_wp2
                go_meet
                case rel => exact ⟨HV.out, by repeat (first | exact Drawn0.refl _ | apply Drawn0.step)⟩
          case rest =>
            obtain ⟨rfl, ⟨mc6, rfl⟩⟩ := hcut
            clear hq hrr hone hone2 q0 r0 hq0 P0 P1 h0 h1 hs1
            by_cases d1 : m1 = 16777216
            · have d1b : (m1 == 16777216) = true := beq_iff_eq.mpr d1
              by_cases d3 : e + (-149 - e) + 1 + 150 ≥ 255
              · have d3b : decide (255 ≤ e + (-149 - e) + 1 + 150) = true := decide_eq_true d3
                have HR := Aside0.mk (HG.out.trans (by unfold gS fS; rw [if_pos d1, if_neg (by decide), if_pos d3]))
                clear d1 d3
                go_wp2_with (first | (go_at_call 53; refine (signed_any minus _ _ ?h0 ?h1).mono ?_; (case h0 => omega); (case h1 => omega); rintro e w2 ⟨rfl, ⟨nd2, rfl⟩⟩))
                go_ret
                exact ⟨ret_u32 ((congrArg (sgS minus) (by omega)).trans HR.out.symm), by repeat (first | exact Drawn0.refl _ | apply Drawn0.step)⟩
              · have d3b : decide (255 ≤ e + (-149 - e) + 1 + 150) = false := decide_eq_false (by omega)
                have HR := Aside0.mk (HG.out.trans (by unfold gS fS; rw [if_pos d1, if_neg (by decide), if_neg d3]))
                clear d1
                have d3' : e + (-149 - e) + 1 + 150 < 255 := by omega
                clear d3
                go_wp2_with (first | (go_at_call 53; refine (signed_any minus _ _ ?h0 ?h1).mono ?_; (case h0 => omega); (case h1 => omega); rintro e w2 ⟨rfl, ⟨nd2, rfl⟩⟩))
                go_ret
                exact ⟨ret_u32 ((congrArg (sgS minus) (by omega)).trans HR.out.symm), by repeat (first | exact Drawn0.refl _ | apply Drawn0.step)⟩
            · have d1b : (m1 == 16777216) = false := beq_eq_false_iff_ne.mpr d1
              by_cases d2 : m1 < 8388608
              · have d2b : decide (m1 < 8388608) = true := decide_eq_true d2
                have HR := Aside0.mk (HG.out.trans (by unfold gS fS; rw [if_neg d1, if_pos d2]))
                clear d1
                go_wp2_with (first | (go_at_call 53; refine (signed_any minus _ _ ?h0 ?h1).mono ?_; (case h0 => omega); (case h1 => omega); rintro e w2 ⟨rfl, ⟨nd2, rfl⟩⟩))
                go_ret
                exact ⟨ret_u32 ((congrArg (sgS minus) (by omega)).trans HR.out.symm), by repeat (first | exact Drawn0.refl _ | apply Drawn0.step)⟩
              · have d2b : decide (m1 < 8388608) = false := decide_eq_false d2
                by_cases d3 : e + (-149 - e) + 150 ≥ 255
                · have d3b : decide (255 ≤ e + (-149 - e) + 150) = true := decide_eq_true d3
                  have HR := Aside0.mk (HG.out.trans (by unfold gS fS; rw [if_neg d1, if_neg d2, if_pos d3]))
                  have d2' : 8388608 ≤ m1 := by omega
                  have d1' : m1 < 16777216 := by omega
                  clear d1 d2 d3
                  go_wp2_with (first | (go_at_call 53; refine (signed_any minus _ _ ?h0 ?h1).mono ?_; (case h0 => omega); (case h1 => omega); rintro e w2 ⟨rfl, ⟨nd2, rfl⟩⟩))
                  go_ret
                  exact ⟨ret_u32 ((congrArg (sgS minus) (by omega)).trans HR.out.symm), by repeat (first | exact Drawn0.refl _ | apply Drawn0.step)⟩
                · have d3b : decide (255 ≤ e + (-149 - e) + 150) = false := decide_eq_false (by omega)
                  have HR := Aside0.mk (HG.out.trans (by unfold gS fS; rw [if_neg d1, if_neg d2, if_neg d3]))
                  have d2' : 8388608 ≤ m1 := by omega
                  have d1' : m1 < 16777216 := by omega
                  clear d1 d2
                  have d3' : e + (-149 - e) + 150 < 255 := by omega
                  clear d3
                  go_wp2_with (first | (go_at_call 53; refine (signed_any minus _ _ ?h0 ?h1).mono ?_; (case h0 => omega); (case h1 => omega); rintro e w2 ⟨rfl, ⟨nd2, rfl⟩⟩))
                  go_ret
                  exact ⟨ret_u32 ((congrArg (sgS minus) (by omega)).trans HR.out.symm), by repeat (first | exact Drawn0.refl _ | apply Drawn0.step)⟩
        | false =>
          go_enter Try.func34, Try.ntmps34
          go_upto_if 29 with (first | (go_at_call 52; refine (hb _).mono ?_; rintro e w1 ⟨rfl, ⟨nd, rfl⟩⟩))
          go_cut [1] (fun v1 wc => v1 = .int .u64 m1 ∧ Drawn0 w wc)
          case first =>
            have hm1 := HM1.out
            by_cases u1 : P / 2 < r
            · have u1b : decide (P / 2 < r) = true := decide_eq_true u1
              have HV := Aside0.mk (congrArg (Value.int .u64) (show q + 1 = m1 by rw [← hm1]; simp [u1]))
              clear hm1
              go_wp2
              go_meet
              case rel => exact ⟨HV.out, by repeat (first | exact Drawn0.refl _ | apply Drawn0.step)⟩
            · have u1b : decide (P / 2 < r) = false := decide_eq_false u1
              by_cases u2 : r = P / 2
              · have u2b : (r == P / 2) = true := beq_iff_eq.mpr u2
                by_cases u3 : q % 2 = 1
                · have u3b : (q % 2 == 1) = true := beq_iff_eq.mpr u3
                  have HV := Aside0.mk (congrArg (Value.int .u64) (show q + 1 = m1 by rw [← hm1]; simp [u1b, u2b, u3b]))
                  clear hm1
                  clear u2 u3
                  go_wp2
                  go_meet
                  case rel => exact ⟨HV.out, by repeat (first | exact Drawn0.refl _ | apply Drawn0.step)⟩
                · have u3b : (q % 2 == 1) = false := beq_eq_false_iff_ne.mpr u3
                  have HV := Aside0.mk (congrArg (Value.int .u64) (show q = m1 by rw [← hm1]; simp [u1b, u2b, u3b]))
                  clear hm1
                  clear u2 u3
                  go_wp2
                  go_meet
                  case rel => exact ⟨HV.out, by repeat (first | exact Drawn0.refl _ | apply Drawn0.step)⟩
              · have u2b : (r == P / 2) = false := beq_eq_false_iff_ne.mpr u2
                have HV := Aside0.mk (congrArg (Value.int .u64) (show q = m1 by rw [← hm1]; simp [u1b, u2b]))
                clear hm1
                clear u2
                go_wp2
                go_meet
                case rel => exact ⟨HV.out, by repeat (first | exact Drawn0.refl _ | apply Drawn0.step)⟩
          case rest =>
            obtain ⟨rfl, ⟨mc6, rfl⟩⟩ := hcut
            clear hq hrr hone hone2 q0 r0 hq0 P0 P1 h0 h1 hs1
            by_cases d1 : m1 = 16777216
            · have d1b : (m1 == 16777216) = true := beq_iff_eq.mpr d1
              by_cases d3 : e + (-149 - e) + 1 + 150 ≥ 255
              · have d3b : decide (255 ≤ e + (-149 - e) + 1 + 150) = true := decide_eq_true d3
                have HR := Aside0.mk (HG.out.trans (by unfold gS fS; rw [if_pos d1, if_neg (by decide), if_pos d3]))
                clear d1 d3
                go_wp2_with (first | (go_at_call 53; refine (signed_any minus _ _ ?h0 ?h1).mono ?_; (case h0 => omega); (case h1 => omega); rintro e w2 ⟨rfl, ⟨nd2, rfl⟩⟩))
                go_ret
                exact ⟨ret_u32 ((congrArg (sgS minus) (by omega)).trans HR.out.symm), by repeat (first | exact Drawn0.refl _ | apply Drawn0.step)⟩
              · have d3b : decide (255 ≤ e + (-149 - e) + 1 + 150) = false := decide_eq_false (by omega)
                have HR := Aside0.mk (HG.out.trans (by unfold gS fS; rw [if_pos d1, if_neg (by decide), if_neg d3]))
                clear d1
                have d3' : e + (-149 - e) + 1 + 150 < 255 := by omega
                clear d3
                go_wp2_with (first | (go_at_call 53; refine (signed_any minus _ _ ?h0 ?h1).mono ?_; (case h0 => omega); (case h1 => omega); rintro e w2 ⟨rfl, ⟨nd2, rfl⟩⟩))
                go_ret
                exact ⟨ret_u32 ((congrArg (sgS minus) (by omega)).trans HR.out.symm), by repeat (first | exact Drawn0.refl _ | apply Drawn0.step)⟩
            · have d1b : (m1 == 16777216) = false := beq_eq_false_iff_ne.mpr d1
              by_cases d2 : m1 < 8388608
              · have d2b : decide (m1 < 8388608) = true := decide_eq_true d2
                have HR := Aside0.mk (HG.out.trans (by unfold gS fS; rw [if_neg d1, if_pos d2]))
                clear d1
                go_wp2_with (first | (go_at_call 53; refine (signed_any minus _ _ ?h0 ?h1).mono ?_; (case h0 => omega); (case h1 => omega); rintro e w2 ⟨rfl, ⟨nd2, rfl⟩⟩))
                go_ret
                exact ⟨ret_u32 ((congrArg (sgS minus) (by omega)).trans HR.out.symm), by repeat (first | exact Drawn0.refl _ | apply Drawn0.step)⟩
              · have d2b : decide (m1 < 8388608) = false := decide_eq_false d2
                by_cases d3 : e + (-149 - e) + 150 ≥ 255
                · have d3b : decide (255 ≤ e + (-149 - e) + 150) = true := decide_eq_true d3
                  have HR := Aside0.mk (HG.out.trans (by unfold gS fS; rw [if_neg d1, if_neg d2, if_pos d3]))
                  have d2' : 8388608 ≤ m1 := by omega
                  have d1' : m1 < 16777216 := by omega
                  clear d1 d2 d3
                  go_wp2_with (first | (go_at_call 53; refine (signed_any minus _ _ ?h0 ?h1).mono ?_; (case h0 => omega); (case h1 => omega); rintro e w2 ⟨rfl, ⟨nd2, rfl⟩⟩))
                  go_ret
                  exact ⟨ret_u32 ((congrArg (sgS minus) (by omega)).trans HR.out.symm), by repeat (first | exact Drawn0.refl _ | apply Drawn0.step)⟩
                · have d3b : decide (255 ≤ e + (-149 - e) + 150) = false := decide_eq_false (by omega)
                  have HR := Aside0.mk (HG.out.trans (by unfold gS fS; rw [if_neg d1, if_neg d2, if_neg d3]))
                  have d2' : 8388608 ≤ m1 := by omega
                  have d1' : m1 < 16777216 := by omega
                  clear d1 d2
                  have d3' : e + (-149 - e) + 150 < 255 := by omega
                  clear d3
                  go_wp2_with (first | (go_at_call 53; refine (signed_any minus _ _ ?h0 ?h1).mono ?_; (case h0 => omega); (case h1 => omega); rintro e w2 ⟨rfl, ⟨nd2, rfl⟩⟩))
                  go_ret
                  exact ⟨ret_u32 ((congrArg (sgS minus) (by omega)).trans HR.out.symm), by repeat (first | exact Drawn0.refl _ | apply Drawn0.step)⟩
      · have c2b : decide (0 < -149 - e) = false := decide_eq_false c2
        have c2d : decide (e < -149) = false := decide_eq_false (by omega)
        have hz0 := HM.out (by omega) (-(-149 - e)).toNat (by omega)
        rw [if_neg c2] at hm1
        rw [hm1] at hz0
        have m10 : 0 ≤ m1 := by rw [← hm1]; exact Int.mul_nonneg h0 (Int.pow_nonneg (by decide))
        have hone : IntKind.u64.wrap (m * 2 ^ (-(-149 - e)).toNat) = m1 := by rw [hm1]; exact u64_id _ (by omega) (by omega)
        clear hm1 c
        go_enter Try.func34, Try.ntmps34
        go_upto_if 29 with (first | (go_at_call 52; refine (hb _).mono ?_; rintro e w1 ⟨rfl, ⟨nd, rfl⟩⟩))
        go_cut [1] (fun v1 wc => v1 = .int .u64 m1 ∧ Drawn0 w wc)
        case first =>
          go_wp2
          go_meet
          case rel => exact ⟨rfl, by repeat (first | exact Drawn0.refl _ | apply Drawn0.step)⟩
        case rest =>
          obtain ⟨rfl, ⟨mc6, rfl⟩⟩ := hcut
          clear hone h0 h1 hs1
          by_cases d1 : m1 = 16777216
          · have d1b : (m1 == 16777216) = true := beq_iff_eq.mpr d1
            by_cases d3 : e + (-149 - e) + 1 + 150 ≥ 255
            · have d3b : decide (255 ≤ e + (-149 - e) + 1 + 150) = true := decide_eq_true d3
              have HR := Aside0.mk (HG.out.trans (by unfold gS fS; rw [if_pos d1, if_neg (by decide), if_pos d3]))
              clear d1 d3
              go_wp2_with (first | (go_at_call 53; refine (signed_any minus _ _ ?h0 ?h1).mono ?_; (case h0 => omega); (case h1 => omega); rintro e w2 ⟨rfl, ⟨nd2, rfl⟩⟩))
              go_ret
              exact ⟨ret_u32 ((congrArg (sgS minus) (by omega)).trans HR.out.symm), by repeat (first | exact Drawn0.refl _ | apply Drawn0.step)⟩
            · have d3b : decide (255 ≤ e + (-149 - e) + 1 + 150) = false := decide_eq_false (by omega)
              have HR := Aside0.mk (HG.out.trans (by unfold gS fS; rw [if_pos d1, if_neg (by decide), if_neg d3]))
              clear d1
              have d3' : e + (-149 - e) + 1 + 150 < 255 := by omega
              clear d3
              go_wp2_with (first | (go_at_call 53; refine (signed_any minus _ _ ?h0 ?h1).mono ?_; (case h0 => omega); (case h1 => omega); rintro e w2 ⟨rfl, ⟨nd2, rfl⟩⟩))
              go_ret
              exact ⟨ret_u32 ((congrArg (sgS minus) (by omega)).trans HR.out.symm), by repeat (first | exact Drawn0.refl _ | apply Drawn0.step)⟩
          · have d1b : (m1 == 16777216) = false := beq_eq_false_iff_ne.mpr d1
            by_cases d2 : m1 < 8388608
            · have d2b : decide (m1 < 8388608) = true := decide_eq_true d2
              have HR := Aside0.mk (HG.out.trans (by unfold gS fS; rw [if_neg d1, if_pos d2]))
              clear d1
              go_wp2_with (first | (go_at_call 53; refine (signed_any minus _ _ ?h0 ?h1).mono ?_; (case h0 => omega); (case h1 => omega); rintro e w2 ⟨rfl, ⟨nd2, rfl⟩⟩))
              go_ret
              exact ⟨ret_u32 ((congrArg (sgS minus) (by omega)).trans HR.out.symm), by repeat (first | exact Drawn0.refl _ | apply Drawn0.step)⟩
            · have d2b : decide (m1 < 8388608) = false := decide_eq_false d2
              by_cases d3 : e + (-149 - e) + 150 ≥ 255
              · have d3b : decide (255 ≤ e + (-149 - e) + 150) = true := decide_eq_true d3
                have HR := Aside0.mk (HG.out.trans (by unfold gS fS; rw [if_neg d1, if_neg d2, if_pos d3]))
                have d2' : 8388608 ≤ m1 := by omega
                have d1' : m1 < 16777216 := by omega
                clear d1 d2 d3
                go_wp2_with (first | (go_at_call 53; refine (signed_any minus _ _ ?h0 ?h1).mono ?_; (case h0 => omega); (case h1 => omega); rintro e w2 ⟨rfl, ⟨nd2, rfl⟩⟩))
                go_ret
                exact ⟨ret_u32 ((congrArg (sgS minus) (by omega)).trans HR.out.symm), by repeat (first | exact Drawn0.refl _ | apply Drawn0.step)⟩
              · have d3b : decide (255 ≤ e + (-149 - e) + 150) = false := decide_eq_false (by omega)
                have HR := Aside0.mk (HG.out.trans (by unfold gS fS; rw [if_neg d1, if_neg d2, if_neg d3]))
                have d2' : 8388608 ≤ m1 := by omega
                have d1' : m1 < 16777216 := by omega
                clear d1 d2
                have d3' : e + (-149 - e) + 150 < 255 := by omega
                clear d3
                go_wp2_with (first | (go_at_call 53; refine (signed_any minus _ _ ?h0 ?h1).mono ?_; (case h0 => omega); (case h1 => omega); rintro e w2 ⟨rfl, ⟨nd2, rfl⟩⟩))
                go_ret
                exact ⟨ret_u32 ((congrArg (sgS minus) (by omega)).trans HR.out.symm), by repeat (first | exact Drawn0.refl _ | apply Drawn0.step)⟩
  · have cb : decide (e + (n - 24) < -149) = false := decide_eq_false c
    have hs : shS n e = n - 24 := if_neg c
    have hs1 : n - 24 ≤ n - 24 := by omega
    have hs2 : -149 ≤ e + (n - 24) := by omega
    by_cases c1 : n < n - 24
    · have c1b : decide (n < n - 24) = true := decide_eq_true c1
      have HR := Aside0.mk (show rrS minus m e n more = sgS minus 0 by unfold rrS; rw [hs, if_pos c1])
      clear hs c
      go_enter Try.func34, Try.ntmps34
      go_wp2_with (first | (go_at_call 52; refine (hb _).mono ?_; rintro e w1 ⟨rfl, ⟨nd, rfl⟩⟩) | (go_at_call 53; refine (signed_any minus _ _ ?h0 ?h1).mono ?_; (case h0 => omega); (case h1 => omega); rintro e w2 ⟨rfl, ⟨nd2, rfl⟩⟩))
      go_ret
      exact ⟨ret_u32 ((congrArg (sgS minus) (by omega)).trans HR.out.symm), by repeat (first | exact Drawn0.refl _ | apply Drawn0.step)⟩
    · have c1b : decide (n < n - 24) = false := decide_eq_false c1
      obtain ⟨m1, hm1⟩ : ∃ m1, m1S m (n - 24) more = m1 := ⟨_, rfl⟩
      have hr : rrS minus m e n more = gS minus m1 (e + (n - 24)) := by unfold rrS; rw [hs, if_neg c1, hm1]
      have HG := Aside0.mk hr
      clear hs hr
      unfold m1S at hm1
      by_cases c2 : 0 < n - 24
      · have c2b : decide (0 < n - 24) = true := decide_eq_true c2
        have c2d : decide (24 < n) = true := decide_eq_true (by omega)
        have hn63 := HN.out
        have hS63 : n - 24 ≤ 63 := by omega
        clear hn63
        obtain ⟨P0, P1⟩ := pow_small (n - 24) c2 (by omega)
        have hq0 := HP.out (n - 24) c2 (by omega)
        have hS0 : 0 ≤ n - 24 := by omega
        have hS64 : n - 24 < 64 := by omega
        rw [if_pos c2] at hm1
        obtain ⟨P, hP⟩ : ∃ P : Int, 2 ^ (n - 24).toNat = P := ⟨_, rfl⟩
        rw [hP] at P0 P1 hm1 hq0
        have hone : IntKind.u64.wrap (2 ^ (n - 24).toNat) = P := by rw [hP]; exact u64_id _ (by omega) (by omega)
        have hone2 : IntKind.u64.wrap (2 ^ min (n - 24).toNat 64) = P := by rw [Nat.min_eq_left (by omega)]; exact hone
        obtain ⟨q, hq⟩ : ∃ q, m / P = q := ⟨_, rfl⟩
        obtain ⟨r, hrr⟩ : ∃ r, m % P = r := ⟨_, rfl⟩
        have q0 : 0 ≤ q := by rw [← hq]; exact Int.ediv_nonneg h0 (by omega)
        have r0 : 0 ≤ r := by rw [← hrr]; exact Int.emod_nonneg _ (by omega)
        rw [hq] at hq0 hm1
        unfold upS at hm1
        rw [hq, hrr] at hm1
        have m10 : 0 ≤ m1 := by rw [← hm1]; split <;> omega
        have m11 : m1 ≤ 16777216 := by rw [← hm1]; split <;> omega
        have HM1 := Aside0.mk hm1
        clear hP c c2 hm1
        cases more with
        | true =>
          go_enter Try.func34, Try.ntmps34
          go_upto_if 29 with (first | (go_at_call 52; refine (hb _).mono ?_; rintro e w1 ⟨rfl, ⟨nd, rfl⟩⟩))
          go_cut [1] (fun v1 wc => v1 = .int .u64 m1 ∧ Drawn0 w wc)
          case first =>
            have hm1 := HM1.out
            by_cases u1 : P / 2 < r
            · have u1b : decide (P / 2 < r) = true := decide_eq_true u1
              have HV := Aside0.mk (congrArg (Value.int .u64) (show q + 1 = m1 by rw [← hm1]; simp [u1]))
              clear hm1
              go_wp2
              go_meet
              case rel => exact ⟨HV.out, by repeat (first | exact Drawn0.refl _ | apply Drawn0.step)⟩
            · have u1b : decide (P / 2 < r) = false := decide_eq_false u1
              by_cases u2 : r = P / 2
              · have u2b : (r == P / 2) = true := beq_iff_eq.mpr u2
                have HV := Aside0.mk (congrArg (Value.int .u64) (show q + 1 = m1 by rw [← hm1]; simp [u1b, u2b]))
                clear hm1
                clear u2
                go_wp2
                go_meet
                case rel => exact ⟨HV.out, by repeat (first | exact Drawn0.refl _ | apply Drawn0.step)⟩
              · have u2b : (r == P / 2) = false := beq_eq_false_iff_ne.mpr u2
                have HV := Aside0.mk (congrArg (Value.int .u64) (show q = m1 by rw [← hm1]; simp [u1b, u2b]))
                clear hm1
                clear u2
                go_wp2
                go_meet
                case rel => exact ⟨HV.out, by repeat (first | exact Drawn0.refl _ | apply Drawn0.step)⟩
          case rest =>
            obtain ⟨rfl, ⟨mc6, rfl⟩⟩ := hcut
            clear hq hrr hone hone2 q0 r0 hq0 P0 P1 h0 h1 hs1
            by_cases d1 : m1 = 16777216
            · have d1b : (m1 == 16777216) = true := beq_iff_eq.mpr d1
              by_cases d3 : e + (n - 24) + 1 + 150 ≥ 255
              · have d3b : decide (255 ≤ e + (n - 24) + 1 + 150) = true := decide_eq_true d3
                have HR := Aside0.mk (HG.out.trans (by unfold gS fS; rw [if_pos d1, if_neg (by decide), if_pos d3]))
                clear d1 d3
                go_wp2_with (first | (go_at_call 53; refine (signed_any minus _ _ ?h0 ?h1).mono ?_; (case h0 => omega); (case h1 => omega); rintro e w2 ⟨rfl, ⟨nd2, rfl⟩⟩))
                go_ret
                exact ⟨ret_u32 ((congrArg (sgS minus) (by omega)).trans HR.out.symm), by repeat (first | exact Drawn0.refl _ | apply Drawn0.step)⟩
              · have d3b : decide (255 ≤ e + (n - 24) + 1 + 150) = false := decide_eq_false (by omega)
                have HR := Aside0.mk (HG.out.trans (by unfold gS fS; rw [if_pos d1, if_neg (by decide), if_neg d3]))
                clear d1
                have d3' : e + (n - 24) + 1 + 150 < 255 := by omega
                clear d3
                go_wp2_with (first | (go_at_call 53; refine (signed_any minus _ _ ?h0 ?h1).mono ?_; (case h0 => omega); (case h1 => omega); rintro e w2 ⟨rfl, ⟨nd2, rfl⟩⟩))
                go_ret
                exact ⟨ret_u32 ((congrArg (sgS minus) (by omega)).trans HR.out.symm), by repeat (first | exact Drawn0.refl _ | apply Drawn0.step)⟩
            · have d1b : (m1 == 16777216) = false := beq_eq_false_iff_ne.mpr d1
              by_cases d2 : m1 < 8388608
              · have d2b : decide (m1 < 8388608) = true := decide_eq_true d2
                have HR := Aside0.mk (HG.out.trans (by unfold gS fS; rw [if_neg d1, if_pos d2]))
                clear d1
                go_wp2_with (first | (go_at_call 53; refine (signed_any minus _ _ ?h0 ?h1).mono ?_; (case h0 => omega); (case h1 => omega); rintro e w2 ⟨rfl, ⟨nd2, rfl⟩⟩))
                go_ret
                exact ⟨ret_u32 ((congrArg (sgS minus) (by omega)).trans HR.out.symm), by repeat (first | exact Drawn0.refl _ | apply Drawn0.step)⟩
              · have d2b : decide (m1 < 8388608) = false := decide_eq_false d2
                by_cases d3 : e + (n - 24) + 150 ≥ 255
                · have d3b : decide (255 ≤ e + (n - 24) + 150) = true := decide_eq_true d3
                  have HR := Aside0.mk (HG.out.trans (by unfold gS fS; rw [if_neg d1, if_neg d2, if_pos d3]))
                  have d2' : 8388608 ≤ m1 := by omega
                  have d1' : m1 < 16777216 := by omega
                  clear d1 d2 d3
                  go_wp2_with (first | (go_at_call 53; refine (signed_any minus _ _ ?h0 ?h1).mono ?_; (case h0 => omega); (case h1 => omega); rintro e w2 ⟨rfl, ⟨nd2, rfl⟩⟩))
                  go_ret
                  exact ⟨ret_u32 ((congrArg (sgS minus) (by omega)).trans HR.out.symm), by repeat (first | exact Drawn0.refl _ | apply Drawn0.step)⟩
                · have d3b : decide (255 ≤ e + (n - 24) + 150) = false := decide_eq_false (by omega)
                  have HR := Aside0.mk (HG.out.trans (by unfold gS fS; rw [if_neg d1, if_neg d2, if_neg d3]))
                  have d2' : 8388608 ≤ m1 := by omega
                  have d1' : m1 < 16777216 := by omega
                  clear d1 d2
                  have d3' : e + (n - 24) + 150 < 255 := by omega
                  clear d3
                  go_wp2_with (first | (go_at_call 53; refine (signed_any minus _ _ ?h0 ?h1).mono ?_; (case h0 => omega); (case h1 => omega); rintro e w2 ⟨rfl, ⟨nd2, rfl⟩⟩))
                  go_ret
                  exact ⟨ret_u32 ((congrArg (sgS minus) (by omega)).trans HR.out.symm), by repeat (first | exact Drawn0.refl _ | apply Drawn0.step)⟩
        | false =>
          go_enter Try.func34, Try.ntmps34
          go_upto_if 29 with (first | (go_at_call 52; refine (hb _).mono ?_; rintro e w1 ⟨rfl, ⟨nd, rfl⟩⟩))
          go_cut [1] (fun v1 wc => v1 = .int .u64 m1 ∧ Drawn0 w wc)
          case first =>
            have hm1 := HM1.out
            by_cases u1 : P / 2 < r
            · have u1b : decide (P / 2 < r) = true := decide_eq_true u1
              have HV := Aside0.mk (congrArg (Value.int .u64) (show q + 1 = m1 by rw [← hm1]; simp [u1]))
              clear hm1
              go_wp2
              go_meet
              case rel => exact ⟨HV.out, by repeat (first | exact Drawn0.refl _ | apply Drawn0.step)⟩
            · have u1b : decide (P / 2 < r) = false := decide_eq_false u1
              by_cases u2 : r = P / 2
              · have u2b : (r == P / 2) = true := beq_iff_eq.mpr u2
                by_cases u3 : q % 2 = 1
                · have u3b : (q % 2 == 1) = true := beq_iff_eq.mpr u3
                  have HV := Aside0.mk (congrArg (Value.int .u64) (show q + 1 = m1 by rw [← hm1]; simp [u1b, u2b, u3b]))
                  clear hm1
                  clear u2 u3
                  go_wp2
                  go_meet
                  case rel => exact ⟨HV.out, by repeat (first | exact Drawn0.refl _ | apply Drawn0.step)⟩
                · have u3b : (q % 2 == 1) = false := beq_eq_false_iff_ne.mpr u3
                  have HV := Aside0.mk (congrArg (Value.int .u64) (show q = m1 by rw [← hm1]; simp [u1b, u2b, u3b]))
                  clear hm1
                  clear u2 u3
                  go_wp2
                  go_meet
                  case rel => exact ⟨HV.out, by repeat (first | exact Drawn0.refl _ | apply Drawn0.step)⟩
              · have u2b : (r == P / 2) = false := beq_eq_false_iff_ne.mpr u2
                have HV := Aside0.mk (congrArg (Value.int .u64) (show q = m1 by rw [← hm1]; simp [u1b, u2b]))
                clear hm1
                clear u2
                go_wp2
                go_meet
                case rel => exact ⟨HV.out, by repeat (first | exact Drawn0.refl _ | apply Drawn0.step)⟩
          case rest =>
            obtain ⟨rfl, ⟨mc6, rfl⟩⟩ := hcut
            clear hq hrr hone hone2 q0 r0 hq0 P0 P1 h0 h1 hs1
            by_cases d1 : m1 = 16777216
            · have d1b : (m1 == 16777216) = true := beq_iff_eq.mpr d1
              by_cases d3 : e + (n - 24) + 1 + 150 ≥ 255
              · have d3b : decide (255 ≤ e + (n - 24) + 1 + 150) = true := decide_eq_true d3
                have HR := Aside0.mk (HG.out.trans (by unfold gS fS; rw [if_pos d1, if_neg (by decide), if_pos d3]))
                clear d1 d3
                go_wp2_with (first | (go_at_call 53; refine (signed_any minus _ _ ?h0 ?h1).mono ?_; (case h0 => omega); (case h1 => omega); rintro e w2 ⟨rfl, ⟨nd2, rfl⟩⟩))
                go_ret
                exact ⟨ret_u32 ((congrArg (sgS minus) (by omega)).trans HR.out.symm), by repeat (first | exact Drawn0.refl _ | apply Drawn0.step)⟩
              · have d3b : decide (255 ≤ e + (n - 24) + 1 + 150) = false := decide_eq_false (by omega)
                have HR := Aside0.mk (HG.out.trans (by unfold gS fS; rw [if_pos d1, if_neg (by decide), if_neg d3]))
                clear d1
                have d3' : e + (n - 24) + 1 + 150 < 255 := by omega
                clear d3
                go_wp2_with (first | (go_at_call 53; refine (signed_any minus _ _ ?h0 ?h1).mono ?_; (case h0 => omega); (case h1 => omega); rintro e w2 ⟨rfl, ⟨nd2, rfl⟩⟩))
                go_ret
                exact ⟨ret_u32 ((congrArg (sgS minus) (by omega)).trans HR.out.symm), by repeat (first | exact Drawn0.refl _ | apply Drawn0.step)⟩
            · have d1b : (m1 == 16777216) = false := beq_eq_false_iff_ne.mpr d1
              by_cases d2 : m1 < 8388608
              · have d2b : decide (m1 < 8388608) = true := decide_eq_true d2
                have HR := Aside0.mk (HG.out.trans (by unfold gS fS; rw [if_neg d1, if_pos d2]))
                clear d1
                go_wp2_with (first | (go_at_call 53; refine (signed_any minus _ _ ?h0 ?h1).mono ?_; (case h0 => omega); (case h1 => omega); rintro e w2 ⟨rfl, ⟨nd2, rfl⟩⟩))
                go_ret
                exact ⟨ret_u32 ((congrArg (sgS minus) (by omega)).trans HR.out.symm), by repeat (first | exact Drawn0.refl _ | apply Drawn0.step)⟩
              · have d2b : decide (m1 < 8388608) = false := decide_eq_false d2
                by_cases d3 : e + (n - 24) + 150 ≥ 255
                · have d3b : decide (255 ≤ e + (n - 24) + 150) = true := decide_eq_true d3
                  have HR := Aside0.mk (HG.out.trans (by unfold gS fS; rw [if_neg d1, if_neg d2, if_pos d3]))
                  have d2' : 8388608 ≤ m1 := by omega
                  have d1' : m1 < 16777216 := by omega
                  clear d1 d2 d3
                  go_wp2_with (first | (go_at_call 53; refine (signed_any minus _ _ ?h0 ?h1).mono ?_; (case h0 => omega); (case h1 => omega); rintro e w2 ⟨rfl, ⟨nd2, rfl⟩⟩))
                  go_ret
                  exact ⟨ret_u32 ((congrArg (sgS minus) (by omega)).trans HR.out.symm), by repeat (first | exact Drawn0.refl _ | apply Drawn0.step)⟩
                · have d3b : decide (255 ≤ e + (n - 24) + 150) = false := decide_eq_false (by omega)
                  have HR := Aside0.mk (HG.out.trans (by unfold gS fS; rw [if_neg d1, if_neg d2, if_neg d3]))
                  have d2' : 8388608 ≤ m1 := by omega
                  have d1' : m1 < 16777216 := by omega
                  clear d1 d2
                  have d3' : e + (n - 24) + 150 < 255 := by omega
                  clear d3
                  go_wp2_with (first | (go_at_call 53; refine (signed_any minus _ _ ?h0 ?h1).mono ?_; (case h0 => omega); (case h1 => omega); rintro e w2 ⟨rfl, ⟨nd2, rfl⟩⟩))
                  go_ret
                  exact ⟨ret_u32 ((congrArg (sgS minus) (by omega)).trans HR.out.symm), by repeat (first | exact Drawn0.refl _ | apply Drawn0.step)⟩
      · have c2b : decide (0 < n - 24) = false := decide_eq_false c2
        have c2d : decide (24 < n) = false := decide_eq_false (by omega)
        have hz0 := HM.out (by omega) (-(n - 24)).toNat (by omega)
        rw [if_neg c2] at hm1
        rw [hm1] at hz0
        have m10 : 0 ≤ m1 := by rw [← hm1]; exact Int.mul_nonneg h0 (Int.pow_nonneg (by decide))
        have hone : IntKind.u64.wrap (m * 2 ^ (-(n - 24)).toNat) = m1 := by rw [hm1]; exact u64_id _ (by omega) (by omega)
        clear hm1 c
        go_enter Try.func34, Try.ntmps34
        go_upto_if 29 with (first | (go_at_call 52; refine (hb _).mono ?_; rintro e w1 ⟨rfl, ⟨nd, rfl⟩⟩))
        go_cut [1] (fun v1 wc => v1 = .int .u64 m1 ∧ Drawn0 w wc)
        case first =>
          go_wp2
          go_meet
          case rel => exact ⟨rfl, by repeat (first | exact Drawn0.refl _ | apply Drawn0.step)⟩
        case rest =>
          obtain ⟨rfl, ⟨mc6, rfl⟩⟩ := hcut
          clear hone h0 h1 hs1
          by_cases d1 : m1 = 16777216
          · have d1b : (m1 == 16777216) = true := beq_iff_eq.mpr d1
            by_cases d3 : e + (n - 24) + 1 + 150 ≥ 255
            · have d3b : decide (255 ≤ e + (n - 24) + 1 + 150) = true := decide_eq_true d3
              have HR := Aside0.mk (HG.out.trans (by unfold gS fS; rw [if_pos d1, if_neg (by decide), if_pos d3]))
              clear d1 d3
              go_wp2_with (first | (go_at_call 53; refine (signed_any minus _ _ ?h0 ?h1).mono ?_; (case h0 => omega); (case h1 => omega); rintro e w2 ⟨rfl, ⟨nd2, rfl⟩⟩))
              go_ret
              exact ⟨ret_u32 ((congrArg (sgS minus) (by omega)).trans HR.out.symm), by repeat (first | exact Drawn0.refl _ | apply Drawn0.step)⟩
            · have d3b : decide (255 ≤ e + (n - 24) + 1 + 150) = false := decide_eq_false (by omega)
              have HR := Aside0.mk (HG.out.trans (by unfold gS fS; rw [if_pos d1, if_neg (by decide), if_neg d3]))
              clear d1
              have d3' : e + (n - 24) + 1 + 150 < 255 := by omega
              clear d3
              go_wp2_with (first | (go_at_call 53; refine (signed_any minus _ _ ?h0 ?h1).mono ?_; (case h0 => omega); (case h1 => omega); rintro e w2 ⟨rfl, ⟨nd2, rfl⟩⟩))
              go_ret
              exact ⟨ret_u32 ((congrArg (sgS minus) (by omega)).trans HR.out.symm), by repeat (first | exact Drawn0.refl _ | apply Drawn0.step)⟩
          · have d1b : (m1 == 16777216) = false := beq_eq_false_iff_ne.mpr d1
            by_cases d2 : m1 < 8388608
            · have d2b : decide (m1 < 8388608) = true := decide_eq_true d2
              have HR := Aside0.mk (HG.out.trans (by unfold gS fS; rw [if_neg d1, if_pos d2]))
              clear d1
              go_wp2_with (first | (go_at_call 53; refine (signed_any minus _ _ ?h0 ?h1).mono ?_; (case h0 => omega); (case h1 => omega); rintro e w2 ⟨rfl, ⟨nd2, rfl⟩⟩))
              go_ret
              exact ⟨ret_u32 ((congrArg (sgS minus) (by omega)).trans HR.out.symm), by repeat (first | exact Drawn0.refl _ | apply Drawn0.step)⟩
            · have d2b : decide (m1 < 8388608) = false := decide_eq_false d2
              by_cases d3 : e + (n - 24) + 150 ≥ 255
              · have d3b : decide (255 ≤ e + (n - 24) + 150) = true := decide_eq_true d3
                have HR := Aside0.mk (HG.out.trans (by unfold gS fS; rw [if_neg d1, if_neg d2, if_pos d3]))
                have d2' : 8388608 ≤ m1 := by omega
                have d1' : m1 < 16777216 := by omega
                clear d1 d2 d3
                go_wp2_with (first | (go_at_call 53; refine (signed_any minus _ _ ?h0 ?h1).mono ?_; (case h0 => omega); (case h1 => omega); rintro e w2 ⟨rfl, ⟨nd2, rfl⟩⟩))
                go_ret
                exact ⟨ret_u32 ((congrArg (sgS minus) (by omega)).trans HR.out.symm), by repeat (first | exact Drawn0.refl _ | apply Drawn0.step)⟩
              · have d3b : decide (255 ≤ e + (n - 24) + 150) = false := decide_eq_false (by omega)
                have HR := Aside0.mk (HG.out.trans (by unfold gS fS; rw [if_neg d1, if_neg d2, if_neg d3]))
                have d2' : 8388608 ≤ m1 := by omega
                have d1' : m1 < 16777216 := by omega
                clear d1 d2
                have d3' : e + (n - 24) + 150 < 255 := by omega
                clear d3
                go_wp2_with (first | (go_at_call 53; refine (signed_any minus _ _ ?h0 ?h1).mono ?_; (case h0 => omega); (case h1 => omega); rintro e w2 ⟨rfl, ⟨nd2, rfl⟩⟩))
                go_ret
                exact ⟨ret_u32 ((congrArg (sgS minus) (by omega)).trans HR.out.symm), by repeat (first | exact Drawn0.refl _ | apply Drawn0.step)⟩
end Go.Proofs.Ytfhgomcfpmbhnaa.Y
end

section
namespace Go.Proofs.Ytfhgomcfpmbhnaa.PS
open Go.RowKit Go.Proofs.Ytfhgomcfpmbhnaa.Y Go.Proofs.YtfhgomcfpmbhnaaW.PrintWords
set_option linter.unusedVariables false
def bl (m : Int) : Int := if m ≤ 0 then 0 else (m.toNat.log2 : Int) + 1
theorem bl_half (m : Nat) (h : 0 < m) : bl (m : Int) = bl ((m / 2 : Nat) : Int) + 1 := by
  unfold bl
  rw [if_neg (by omega)]
  simp only [Int.toNat_natCast]
  rw [Nat.log2_def]
  by_cases h2 : 2 ≤ m
  · rw [if_pos h2, if_neg (by omega)]; omega
  · rw [if_neg h2, if_pos (by omega)]; omega
theorem bits_from : ∀ (n m : Nat) (c : Int), m < 2 ^ n → n ≤ 64 → 0 ≤ c → c ≤ 64 - n → ∃ k, levyref17_bits.l0 k (m : Int) c = some (c + bl m)
  | 0, m, c, h, _, _, _ => ⟨1, by
    obtain rfl : m = 0 := by simpa using h
    simp [levyref17_bits.l0, bl]⟩
  | n + 1, m, c, h, hn, h0, h1 => by
    by_cases hm : m = 0
    · subst hm
      exact ⟨1, by simp [levyref17_bits.l0, bl]⟩
    · have h2 : 2 ^ (n + 1) = 2 * 2 ^ n := by rw [Nat.pow_succ, Nat.mul_comm]
      have h64 : 2 ^ (n + 1) ≤ 2 ^ 64 := Nat.pow_le_pow_right (by decide) hn
      obtain ⟨k, hk⟩ := bits_from n (m / 2) (c + 1) (by omega) (by omega) (by omega) (by omega)
      refine ⟨k + 1, ?_⟩
      simp only [levyref17_bits.l0]
      have e1 : IntKind.u64.wrap (Int.tdiv (m : Int) 2) = ((m / 2 : Nat) : Int) := by
        rw [Int.tdiv_eq_ediv_of_nonneg (by omega)]
        have : IntKind.u64.wrap ((m : Int) / 2) = ((m : Int) / 2) % 18446744073709551616 := rfl
        omega
      have e2 : wrap64 (c + 1) = c + 1 := by unfold wrap64; omega
      rw [if_pos (by omega), e1, e2, hk, bl_half m (by omega)]
      congr 1; omega
theorem bl_64 (m : Int) (h0 : 0 ≤ m) (h1 : m ≤ 9223372036854775808) : 0 ≤ bl m ∧ bl m ≤ 64 := by
  unfold bl
  by_cases h : m ≤ 0
  · rw [if_pos h]; omega
  · rw [if_neg h]
    have := (Nat.log2_lt (n := m.toNat) (k := 64) (by omega)).2 (by omega)
    omega
theorem bl_bounds (m : Int) (h0 : 0 ≤ m) (h1 : m < 9223372036854775808) : 0 ≤ bl m ∧ bl m ≤ 63 := by
  unfold bl
  by_cases h : m ≤ 0
  · rw [if_pos h]; omega
  · rw [if_neg h]
    have := (Nat.log2_lt (n := m.toNat) (k := 63) (by omega)).2 (by omega)
    omega
theorem bl_lt (m : Int) (h0 : 0 ≤ m) : m < 2 ^ (bl m).toNat := by
  unfold bl
  by_cases h : m ≤ 0
  · rw [if_pos h]; simp; omega
  · rw [if_neg h]
    have := Nat.lt_log2_self (n := m.toNat)
    have e : ((m.toNat.log2 : Int) + 1).toNat = m.toNat.log2 + 1 := by omega
    rw [e]
    have e2 : (2 : Int) ^ (m.toNat.log2 + 1) = ((2 ^ (m.toNat.log2 + 1) : Nat) : Int) := by simp
    rw [e2]; omega
theorem bits_any (m : Int) (h0 : 0 ≤ m) (h1 : m ≤ 9223372036854775808) (w : World) : Calls Try.prog 52 #[.int .u64 m] w fun e w' => e = .returned (.int .i64 (bl m)) ∧ Drawn0 w w' := by
  obtain ⟨n, rfl⟩ := Int.eq_ofNat_of_zero_le h0
  obtain ⟨k, hk⟩ := bits_from 64 n 0 (by omega) (by omega) (by omega) (by omega)
  exact levyref17_bits.calls k _ _ w (by unfold levyref17_bits.f; rw [hk]; simp)
theorem pow_add_le (a b c : Nat) (h : a + b ≤ c) : (2 : Int) ^ a * 2 ^ b ≤ 2 ^ c := by
  rw [← Int.pow_add]
  have e : ∀ n : Nat, (2 : Int) ^ n = ((2 ^ n : Nat) : Int) := fun n => by simp
  rw [e, e]
  exact_mod_cast Nat.pow_le_pow_right (by decide) h
def levyref17_rounded.f (a0 : Bool) (a1 : Int) (a2 : Int) (a3 : Bool) : Option (Int) := if 0 ≤ a1 ∧ a1 ≤ 9223372036854775808 ∧ -400 ≤ a2 ∧ a2 ≤ 400 ∧ (a1 < 9223372036854775808 ∨ -200 ≤ a2) then some (rrS a0 a1 a2 (bl a1) a3) else none
theorem levyref17_rounded.calls (a0 : Bool) (a1 : Int) (a2 : Int) (a3 : Bool) (r : Int) (w : World) (h : levyref17_rounded.f a0 a1 a2 a3 = some r) :
    Calls Try.prog 34 #[.bool a0, .int .u64 a1, .int .i64 a2, .bool a3] w fun e w' => e = .returned (.int .u32 r) ∧ Drawn0 w w' := by
  unfold levyref17_rounded.f at h
  by_cases hc : 0 ≤ a1 ∧ a1 ≤ 9223372036854775808 ∧ -400 ≤ a2 ∧ a2 ≤ 400 ∧ (a1 < 9223372036854775808 ∨ -200 ≤ a2)
  · rw [if_pos hc] at h
    cases h
    obtain ⟨h0, h1, h2, h3, h4⟩ := hc
    obtain ⟨n0, n1⟩ := bl_64 a1 h0 h1
    have n2 : bl a1 ≤ 63 ∨ -200 ≤ a2 := h4.imp (fun h => (bl_bounds a1 h0 h).2) id
    clear h4
    have hlt := bl_lt a1 h0
    have e : ∀ n : Nat, (2 : Int) ^ n = ((2 ^ n : Nat) : Int) := fun n => by simp
    refine rounded_calls a0 a3 a1 a2 (bl a1) w h0 h1 h2 h3 n0 n1 n2 (fun hn j hj => ?_) (fun s hs hns => ?_) (bits_any a1 h0 h1)
    · have h4 : a1 * 2 ^ j ≤ 2 ^ (bl a1).toNat * 2 ^ j := Int.mul_le_mul_of_nonneg_right (by omega) (Int.pow_nonneg (by decide))
      have h5 := pow_add_le (bl a1).toNat j 24 (by omega)
      have h6 : (2 : Int) ^ 24 = 16777216 := by decide
      omega
    · have h5 := pow_add_le (bl a1).toNat 0 (24 + s.toNat) (by omega)
      have h6 : (2 : Int) ^ (24 + s.toNat) = 16777216 * 2 ^ s.toNat := by rw [Int.pow_add]; congr 1
      have hp : (0 : Int) < 2 ^ s.toNat := Int.pow_pos (by decide)
      rw [Int.pow_zero, Int.mul_one] at h5
      exact Int.ediv_lt_of_lt_mul hp (by omega)
  · rw [if_neg hc] at h; cases h
end Go.Proofs.Ytfhgomcfpmbhnaa.PS
end

section
namespace Go.Proofs.Ytfhgomcfpmbhnaa.PS
open Go.RowKit Go.Proofs.YtfhgomcfpmbhnaaW.PrintWords Go.Proofs.YtfhgomcfpmbhnaaW.PrintLast Go.Proofs.YtfhgomcfpmbhnaaW.PrintMore
attribute [local go_sem] frun_add frun_sub frun_mul frun_quo frun_neg frun_of frun_same frun_store frun_bits frun_from
attribute [local go_sem] max2_int min2_int max_two min_two max_three min_three max_four min_four
set_option linter.unusedVariables false
set_option linter.unusedSimpArgs false
def levyref17_NaN.f (a0 : Int) : Option (Bool) := some (decide ((Int.tmod a0 2147483648) > 2139095040))
set_option maxHeartbeats 8000000 in
set_option maxRecDepth 100000 in
theorem levyref17_NaN.calls (a0 : Int) (r : Bool) (w : World) (h : levyref17_NaN.f a0 = some r) :
  Calls Try.prog 41 #[.int .u32 a0] w fun e w' => e = .returned (.bool r) ∧ Drawn0 w w' := by
 have H : (some (decide ((Int.tmod a0 2147483648) > 2139095040))) = some r := h
 clear h
 obtain rfl := Option.some.inj H
 go_enter Try.func41, Try.ntmps41
 go_wp2
 go_ret
 exact ⟨by first | rfl | (simp; done) | (simp [*]; done), by repeat (first | exact Drawn0.refl _ | apply Drawn0.step)⟩
end Go.Proofs.Ytfhgomcfpmbhnaa.PS
end

section
namespace Go.Proofs.Ytfhgomcfpmbhnaa.PS
open Go.RowKit Go.Proofs.YtfhgomcfpmbhnaaW.PrintWords Go.Proofs.YtfhgomcfpmbhnaaW.PrintLast Go.Proofs.YtfhgomcfpmbhnaaW.PrintMore
attribute [local go_sem] frun_add frun_sub frun_mul frun_quo frun_neg frun_of frun_same frun_store frun_bits frun_from
attribute [local go_sem] max2_int min2_int max_two min_two max_three min_three max_four min_four
set_option linter.unusedVariables false
set_option linter.unusedSimpArgs false
def levyref17_Whole.f (a0 : Int) : Option (Int) := if a0 < 0 then ((levyref17_rounded.f true (IntKind.u64.wrap ((IntKind.u64.wrap (wrap64 (-(wrap64 (a0 + 1))))) + 1)) 0 false).bind fun t104 => (some t104)) else ((levyref17_rounded.f false (IntKind.u64.wrap (a0)) 0 false).bind fun t105 => (some t105))
set_option maxHeartbeats 8000000 in
set_option maxRecDepth 100000 in
theorem levyref17_Whole.calls (a0 : Int) (r : Int) (w : World) (h : levyref17_Whole.f a0 = some r) :
  Calls Try.prog 14 #[.int .i64 a0] w fun e w' => e = .returned (.int .u32 r) ∧ Drawn0 w w' := by
 have H : (if a0 < 0 then ((levyref17_rounded.f true (IntKind.u64.wrap ((IntKind.u64.wrap (wrap64 (-(wrap64 (a0 + 1))))) + 1)) 0 false).bind fun t104 => (some t104)) else ((levyref17_rounded.f false (IntKind.u64.wrap (a0)) 0 false).bind fun t105 => (some t105))) = some r := h
 clear h
 by_cases c2 : a0 < 0
 ·rw [if_pos c2] at H
  have c2b0 : decide (a0 < 0) = true := decide_eq_true c2
  clear c2
  replace H := Option.bind_eq_some_iff.mp H
  obtain ⟨t104, A30, H⟩ := H
  replace H : (some t104) = some r := H
  have A3 := Aside0.mk A30
  clear A30
  obtain rfl := Option.some.inj H
  go_enter Try.func14, Try.ntmps14
  go_wp2_with (first | ((with_reducible refine gate_callee (f := 34) rfl ?_); refine goesL_ (some 10) rfl rfl Try.func34 (by kernel_rfl) rfl #[.bool true, .int .u64 (IntKind.u64.wrap ((IntKind.u64.wrap (wrap64 (-(wrap64 (a0 + 1))))) + 1)), .int .i64 0, .bool false] rfl agx ?_; (with_reducible refine (levyref17_rounded.calls true (IntKind.u64.wrap ((IntKind.u64.wrap (wrap64 (-(wrap64 (a0 + 1))))) + 1)) 0 false t104 _ A3.out).mono ?_); rintro e w' ⟨rfl, ⟨nd, rfl⟩⟩; refine ⟨_, rfl, ?_⟩))
  go_ret
  exact ⟨by first | rfl | (simp; done) | (simp [*]; done), by repeat (first | exact Drawn0.refl _ | apply Drawn0.step)⟩
 ·rw [if_neg c2] at H
  have c2b0 : decide (a0 < 0) = false := decide_eq_false c2
  clear c2
  replace H := Option.bind_eq_some_iff.mp H
  obtain ⟨t105, A40, H⟩ := H
  replace H : (some t105) = some r := H
  have A4 := Aside0.mk A40
  clear A40
  obtain rfl := Option.some.inj H
  go_enter Try.func14, Try.ntmps14
  go_wp2_with (first | ((with_reducible refine gate_callee (f := 34) rfl ?_); refine goesL_ (some 13) rfl rfl Try.func34 (by kernel_rfl) rfl #[.bool false, .int .u64 (IntKind.u64.wrap (a0)), .int .i64 0, .bool false] rfl agx ?_; (with_reducible refine (levyref17_rounded.calls false (IntKind.u64.wrap (a0)) 0 false t105 _ A4.out).mono ?_); rintro e w' ⟨rfl, ⟨nd, rfl⟩⟩; refine ⟨_, rfl, ?_⟩))
  go_ret
  exact ⟨by first | rfl | (simp; done) | (simp [*]; done), by repeat (first | exact Drawn0.refl _ | apply Drawn0.step)⟩
end Go.Proofs.Ytfhgomcfpmbhnaa.PS
end

section
namespace Go.Proofs.Ytfhgomcfpmbhnaa.PS
open Go.RowKit Go.Proofs.YtfhgomcfpmbhnaaW.PrintWords Go.Proofs.YtfhgomcfpmbhnaaW.PrintLast Go.Proofs.YtfhgomcfpmbhnaaW.PrintMore
attribute [local go_sem] frun_add frun_sub frun_mul frun_quo frun_neg frun_of frun_same frun_store frun_bits frun_from
attribute [local go_sem] max2_int min2_int max_two min_two max_three min_three max_four min_four
set_option linter.unusedVariables false
set_option linter.unusedSimpArgs false
def levyref17_order.f (a0 : Int) : Option (Int) := if a0 ≥ 2147483648 then (some (-((a0 - 2147483648) % 4294967296))) else (some (wrap64 (a0)))
set_option maxHeartbeats 8000000 in
set_option maxRecDepth 100000 in
theorem levyref17_order.calls (a0 : Int) (r : Int) (w : World) (h : levyref17_order.f a0 = some r) :
  Calls Try.prog 71 #[.int .u32 a0] w fun e w' => e = .returned (.int .i64 r) ∧ Drawn0 w w' := by
 have H : (if a0 ≥ 2147483648 then (some (-((a0 - 2147483648) % 4294967296))) else (some (wrap64 (a0)))) = some r := h
 clear h
 by_cases c2 : a0 ≥ 2147483648
 ·rw [if_pos c2] at H
  have c2b0 : decide (2147483648 ≤ a0) = true := decide_eq_true c2
  clear c2
  obtain rfl := Option.some.inj H
  go_enter Try.func71, Try.ntmps71
  go_wp2
  go_ret
  exact ⟨by first | rfl | (simp; done) | (simp [*]; done), by repeat (first | exact Drawn0.refl _ | apply Drawn0.step)⟩
 ·rw [if_neg c2] at H
  have c2b0 : decide (2147483648 ≤ a0) = false := decide_eq_false c2
  clear c2
  obtain rfl := Option.some.inj H
  go_enter Try.func71, Try.ntmps71
  go_wp2
  go_ret
  exact ⟨by first | rfl | (simp; done) | (simp [*]; done), by repeat (first | exact Drawn0.refl _ | apply Drawn0.step)⟩
end Go.Proofs.Ytfhgomcfpmbhnaa.PS
end

section
namespace Go.Proofs.Ytfhgomcfpmbhnaa.PS
open Go.RowKit Go.Proofs.YtfhgomcfpmbhnaaW.PrintWords Go.Proofs.YtfhgomcfpmbhnaaW.PrintLast Go.Proofs.YtfhgomcfpmbhnaaW.PrintMore
attribute [local go_sem] frun_add frun_sub frun_mul frun_quo frun_neg frun_of frun_same frun_store frun_bits frun_from
attribute [local go_sem] max2_int min2_int max_two min_two max_three min_three max_four min_four
set_option linter.unusedVariables false
set_option linter.unusedSimpArgs false
def levyref17_Same.f (a0 : Int) (a1 : Int) : Option (Bool) := (levyref17_NaN.f a0).bind fun t213 => ((levyref17_NaN.f a1).bind fun t214 => (if t213 = true then (some false) else (if t214 = true then (some false) else ((levyref17_order.f a0).bind fun t215 => ((levyref17_order.f a1).bind fun t216 => (some (t215 == t216)))))))
set_option maxHeartbeats 8000000 in
set_option maxRecDepth 100000 in
theorem levyref17_Same.calls (a0 : Int) (a1 : Int) (r : Bool) (w : World) (h : levyref17_Same.f a0 a1 = some r) :
  Calls Try.prog 54 #[.int .u32 a0, .int .u32 a1] w fun e w' => e = .returned (.bool r) ∧ Drawn0 w w' := by
 have H : ((levyref17_NaN.f a0).bind fun t213 => ((levyref17_NaN.f a1).bind fun t214 => (if t213 = true then (some false) else (if t214 = true then (some false) else ((levyref17_order.f a0).bind fun t215 => ((levyref17_order.f a1).bind fun t216 => (some (t215 == t216)))))))) = some r := h
 clear h
 replace H := Option.bind_eq_some_iff.mp H
 obtain ⟨t213, A30, H⟩ := H
 replace H : ((levyref17_NaN.f a1).bind fun t214 => (if t213 = true then (some false) else (if t214 = true then (some false) else ((levyref17_order.f a0).bind fun t215 => ((levyref17_order.f a1).bind fun t216 => (some (t215 == t216))))))) = some r := H
 have A3 := Aside0.mk A30
 clear A30
 replace H := Option.bind_eq_some_iff.mp H
 obtain ⟨t214, A40, H⟩ := H
 replace H : (if t213 = true then (some false) else (if t214 = true then (some false) else ((levyref17_order.f a0).bind fun t215 => ((levyref17_order.f a1).bind fun t216 => (some (t215 == t216)))))) = some r := H
 have A4 := Aside0.mk A40
 clear A40
 by_cases c5 : t213 = true
 ·subst c5
  have H1 : (some false) = some r := by rw [if_pos rfl] at H; exact H
  clear H
  have H := H1
  clear H1
  obtain rfl := Option.some.inj H
  go_enter Try.func54, Try.ntmps54
  go_wp2_with (first | ((with_reducible refine gate_callee (f := 41) rfl ?_); refine goesL_ (some 8) rfl rfl Try.func41 (by kernel_rfl) rfl #[.int .u32 a0] rfl agx ?_; (with_reducible refine (levyref17_NaN.calls a0 true _ A3.out).mono ?_); rintro e w' ⟨rfl, ⟨nd, rfl⟩⟩; refine ⟨_, rfl, ?_⟩) | ((with_reducible refine gate_callee (f := 41) rfl ?_); refine goesL_ (some 10) rfl rfl Try.func41 (by kernel_rfl) rfl #[.int .u32 a1] rfl agx ?_; (with_reducible refine (levyref17_NaN.calls a1 t214 _ A4.out).mono ?_); rintro e w' ⟨rfl, ⟨nd, rfl⟩⟩; refine ⟨_, rfl, ?_⟩))
  go_ret
  exact ⟨by first | rfl | (simp; done) | (simp [*]; done), by repeat (first | exact Drawn0.refl _ | apply Drawn0.step)⟩
 ·replace c5 := Bool.eq_false_iff.mpr c5
  subst c5
  have H1 : (if t214 = true then (some false) else ((levyref17_order.f a0).bind fun t215 => ((levyref17_order.f a1).bind fun t216 => (some (t215 == t216))))) = some r := by rw [if_neg (show ¬ (false = true) by decide)] at H; exact H
  clear H
  have H := H1
  clear H1
  by_cases c6 : t214 = true
  ·subst c6
   have H1 : (some false) = some r := by rw [if_pos rfl] at H; exact H
   clear H
   have H := H1
   clear H1
   obtain rfl := Option.some.inj H
   go_enter Try.func54, Try.ntmps54
   go_wp2_with (first | ((with_reducible refine gate_callee (f := 41) rfl ?_); refine goesL_ (some 8) rfl rfl Try.func41 (by kernel_rfl) rfl #[.int .u32 a0] rfl agx ?_; (with_reducible refine (levyref17_NaN.calls a0 false _ A3.out).mono ?_); rintro e w' ⟨rfl, ⟨nd, rfl⟩⟩; refine ⟨_, rfl, ?_⟩) | ((with_reducible refine gate_callee (f := 41) rfl ?_); refine goesL_ (some 10) rfl rfl Try.func41 (by kernel_rfl) rfl #[.int .u32 a1] rfl agx ?_; (with_reducible refine (levyref17_NaN.calls a1 true _ A4.out).mono ?_); rintro e w' ⟨rfl, ⟨nd, rfl⟩⟩; refine ⟨_, rfl, ?_⟩))
   go_ret
   exact ⟨by first | rfl | (simp; done) | (simp [*]; done), by repeat (first | exact Drawn0.refl _ | apply Drawn0.step)⟩
  ·replace c6 := Bool.eq_false_iff.mpr c6
   subst c6
   have H1 : ((levyref17_order.f a0).bind fun t215 => ((levyref17_order.f a1).bind fun t216 => (some (t215 == t216)))) = some r := by rw [if_neg (show ¬ (false = true) by decide)] at H; exact H
   clear H
   have H := H1
   clear H1
   replace H := Option.bind_eq_some_iff.mp H
   obtain ⟨t215, A70, H⟩ := H
   replace H : ((levyref17_order.f a1).bind fun t216 => (some (t215 == t216))) = some r := H
   have A7 := Aside0.mk A70
   clear A70
   replace H := Option.bind_eq_some_iff.mp H
   obtain ⟨t216, A80, H⟩ := H
   replace H : (some (t215 == t216)) = some r := H
   have A8 := Aside0.mk A80
   clear A80
   obtain rfl := Option.some.inj H
   go_enter Try.func54, Try.ntmps54
   go_wp2_with (first | ((with_reducible refine gate_callee (f := 41) rfl ?_); refine goesL_ (some 8) rfl rfl Try.func41 (by kernel_rfl) rfl #[.int .u32 a0] rfl agx ?_; (with_reducible refine (levyref17_NaN.calls a0 false _ A3.out).mono ?_); rintro e w' ⟨rfl, ⟨nd, rfl⟩⟩; refine ⟨_, rfl, ?_⟩) | ((with_reducible refine gate_callee (f := 41) rfl ?_); refine goesL_ (some 10) rfl rfl Try.func41 (by kernel_rfl) rfl #[.int .u32 a1] rfl agx ?_; (with_reducible refine (levyref17_NaN.calls a1 false _ A4.out).mono ?_); rintro e w' ⟨rfl, ⟨nd, rfl⟩⟩; refine ⟨_, rfl, ?_⟩) | (go_at_call 71; (with_reducible refine (levyref17_order.calls a0 t215 _ A7.out).mono ?_); rintro e w' ⟨rfl, ⟨nd, rfl⟩⟩) | (go_at_call 71; (with_reducible refine (levyref17_order.calls a1 t216 _ A8.out).mono ?_); rintro e w' ⟨rfl, ⟨nd, rfl⟩⟩))
   go_ret
   exact ⟨by first | rfl | (simp; done) | (simp [*]; done), by repeat (first | exact Drawn0.refl _ | apply Drawn0.step)⟩
end Go.Proofs.Ytfhgomcfpmbhnaa.PS
end

section
namespace Go.Proofs.Ytfhgomcfpmbhnaa.PS
open Go.RowKit Go.Proofs.YtfhgomcfpmbhnaaW.PrintWords Go.Proofs.YtfhgomcfpmbhnaaW.PrintLast Go.Proofs.YtfhgomcfpmbhnaaW.PrintMore
attribute [local go_sem] frun_add frun_sub frun_mul frun_quo frun_neg frun_of frun_same frun_store frun_bits frun_from
attribute [local go_sem] max2_int min2_int max_two min_two max_three min_three max_four min_four
set_option linter.unusedVariables false
set_option linter.unusedSimpArgs false
def levylaw17_near.f (a0 : Nat) (a1 : Int) : Option (Bool) := (levyref17_NaN.f a1).bind fun t305 => (if t305 = true then ((levyref17_NaN.f (a0 : Int)).bind fun t306 => (some t306)) else ((levyref17_Same.f (a0 : Int) a1).bind fun t307 => (some t307)))
set_option maxHeartbeats 8000000 in
set_option maxRecDepth 100000 in
theorem levylaw17_near.calls (a0 : Nat) (a1 : Int) (r : Bool) (w : World) (h : levylaw17_near.f a0 a1 = some r) :
  Calls Try.prog 35 #[.float .f32 a0, .int .u32 a1] w fun e w' => e = .returned (.bool r) ∧ Drawn0 w w' := by
 have H : ((levyref17_NaN.f a1).bind fun t305 => (if t305 = true then ((levyref17_NaN.f (a0 : Int)).bind fun t306 => (some t306)) else ((levyref17_Same.f (a0 : Int) a1).bind fun t307 => (some t307)))) = some r := h
 clear h
 replace H := Option.bind_eq_some_iff.mp H
 obtain ⟨t305, A30, H⟩ := H
 replace H : (if t305 = true then ((levyref17_NaN.f (a0 : Int)).bind fun t306 => (some t306)) else ((levyref17_Same.f (a0 : Int) a1).bind fun t307 => (some t307))) = some r := H
 have A3 := Aside0.mk A30
 clear A30
 by_cases c4 : t305 = true
 ·subst c4
  have H1 : ((levyref17_NaN.f (a0 : Int)).bind fun t306 => (some t306)) = some r := by rw [if_pos rfl] at H; exact H
  clear H
  have H := H1
  clear H1
  replace H := Option.bind_eq_some_iff.mp H
  obtain ⟨t306, A50, H⟩ := H
  replace H : (some t306) = some r := H
  have A5 := Aside0.mk A50
  clear A50
  obtain rfl := Option.some.inj H
  go_enter Try.func35, Try.ntmps35
  go_wp2_with (first | ((with_reducible refine gate_callee (f := 41) rfl ?_); refine goesL_ (some 9) rfl rfl Try.func41 (by kernel_rfl) rfl #[.int .u32 a1] rfl agx ?_; (with_reducible refine (levyref17_NaN.calls a1 true _ A3.out).mono ?_); rintro e w' ⟨rfl, ⟨nd, rfl⟩⟩; refine ⟨_, rfl, ?_⟩) | ((with_reducible refine gate_callee (f := 41) rfl ?_); refine goesL_ (some 11) rfl rfl Try.func41 (by kernel_rfl) rfl #[.int .u32 (a0 : Int)] rfl agx ?_; (with_reducible refine (levyref17_NaN.calls (a0 : Int) t306 _ A5.out).mono ?_); rintro e w' ⟨rfl, ⟨nd, rfl⟩⟩; refine ⟨_, rfl, ?_⟩))
  go_ret
  exact ⟨by first | rfl | (simp; done) | (simp [*]; done), by repeat (first | exact Drawn0.refl _ | apply Drawn0.step)⟩
 ·replace c4 := Bool.eq_false_iff.mpr c4
  subst c4
  have H1 : ((levyref17_Same.f (a0 : Int) a1).bind fun t307 => (some t307)) = some r := by rw [if_neg (show ¬ (false = true) by decide)] at H; exact H
  clear H
  have H := H1
  clear H1
  replace H := Option.bind_eq_some_iff.mp H
  obtain ⟨t307, A60, H⟩ := H
  replace H : (some t307) = some r := H
  have A6 := Aside0.mk A60
  clear A60
  obtain rfl := Option.some.inj H
  go_enter Try.func35, Try.ntmps35
  go_wp2_with (first | ((with_reducible refine gate_callee (f := 41) rfl ?_); refine goesL_ (some 9) rfl rfl Try.func41 (by kernel_rfl) rfl #[.int .u32 a1] rfl agx ?_; (with_reducible refine (levyref17_NaN.calls a1 false _ A3.out).mono ?_); rintro e w' ⟨rfl, ⟨nd, rfl⟩⟩; refine ⟨_, rfl, ?_⟩) | ((with_reducible refine gate_callee (f := 54) rfl ?_); refine goesL_ (some 14) rfl rfl Try.func54 (by kernel_rfl) rfl #[.int .u32 (a0 : Int), .int .u32 a1] rfl agx ?_; (with_reducible refine (levyref17_Same.calls (a0 : Int) a1 t307 _ A6.out).mono ?_); rintro e w' ⟨rfl, ⟨nd, rfl⟩⟩; refine ⟨_, rfl, ?_⟩))
  go_ret
  exact ⟨by first | rfl | (simp; done) | (simp [*]; done), by repeat (first | exact Drawn0.refl _ | apply Drawn0.step)⟩
end Go.Proofs.Ytfhgomcfpmbhnaa.PS
end

section
namespace Go.Proofs.Ytfhgomcfpmbhnaa.PS
open Go.RowKit Go.Proofs.YtfhgomcfpmbhnaaW.PrintWords Go.Proofs.YtfhgomcfpmbhnaaW.PrintLast Go.Proofs.YtfhgomcfpmbhnaaW.PrintMore
attribute [local go_sem] frun_add frun_sub frun_mul frun_quo frun_neg frun_of frun_same frun_store frun_bits frun_from
attribute [local go_sem] max2_int min2_int max_two min_two max_three min_three max_four min_four
set_option linter.unusedVariables false
set_option linter.unusedSimpArgs false
def levylaw17_bits.l0 : Nat → List (S73) → List (S38) → Int → Option ((List (S38)))
 | 0, _, _, _ => none
 | k + 1, x0, x3, x4 => if x4 < (x0.length : Int) then (if 0 ≤ x4 then (if x3.length < 8796093022208 then (levylaw17_bits.l0 k x0 (x3 ++ [(⟨(rd_T73 x0 x4).f0, (rd_T73 x0 x4).f1⟩ : S38)]) (wrap64 (x4 + 1))) else (none)) else (none)) else (some x3)
def levylaw17_bits.f (k : Nat) (l0 : List (S73)) : Option ((List (S38))) := levylaw17_bits.l0 k l0 ([] : List (S38)) 0
theorem levylaw17_bits.mono_l : ∀ k, (∀ y0 y1 y2, LeO (levylaw17_bits.l0 k y0 y1 y2) (levylaw17_bits.l0 (k + 1) y0 y1 y2))
 | 0 => fun _ _ _ r h => by simp [levylaw17_bits.l0] at h
 | k + 1 => by
  have ih0 := levylaw17_bits.mono_l k
  ·intro y0 y1 y2
   unfold levylaw17_bits.l0
   repeat' first
   | (with_reducible exact ih0 _ _ _)
   | (with_reducible exact LeO.refl _)
   | (with_reducible exact LeO.none _)
   | (with_reducible refine LeO.ite ?_ ?_)
   | (with_reducible refine LeO.bind ?_ (fun _ => ?_))
   | exact ih0 _ _ _
   | exact LeO.none _
   | refine LeO.ite ?_ ?_
   | refine LeO.bind ?_ (fun _ => ?_)
theorem levylaw17_bits.mono : ∀ a0 k, LeO (levylaw17_bits.f k a0) (levylaw17_bits.f (k + 1) a0) := by
 intro a0 k
 have ih0 := levylaw17_bits.mono_l k
 unfold levylaw17_bits.f
 repeat' first
   | (with_reducible exact ih0 _ _ _)
   | (with_reducible exact LeO.refl _)
   | (with_reducible exact LeO.none _)
   | (with_reducible refine LeO.ite ?_ ?_)
   | (with_reducible refine LeO.bind ?_ (fun _ => ?_))
   | exact ih0 _ _ _
   | exact LeO.none _
   | refine LeO.ite ?_ ?_
   | refine LeO.bind ?_ (fun _ => ?_)
def levylaw17_bits.T5 : Bool × List (List Nat × List Nat) := (true, [([], []), ([], []), ([], []), ([1, 2], [1, 2]), ([3], [3]), ([4], [4]), ([], []), ([], []), ([6, 7], [6, 7]), ([8], [8]), ([9], [9]), ([5, 10], [5, 10]), ([11], [11]), ([0, 12], [0, 12]), ([13, 13, 0, 1, 2, 3, 4, 5, 6, 7, 8, 9, 10, 11, 12, 13], [0, 13])])
def levylaw17_bits.B5 : List Nat := [0, 0, 0, 6, 14, 30, 0, 0, 192, 448, 960, 2046, 4094, 8191, 16383]
theorem levylaw17_bits.tab5 : rtab .any (opsOf Try.f38 5) = levylaw17_bits.T5 := by kernel_rfl
theorem levylaw17_bits.bits5 : waitsOk levylaw17_bits.T5.2 levylaw17_bits.B5 = true := by kernel_rfl
set_option maxHeartbeats 8000000 in
set_option maxRecDepth 100000 in
theorem levylaw17_bits.calls (k : Nat) (A0 : Option Addr) (c0 : Nat) (l0 : List (S73)) (r : List (S38)) (w : World) (hr0 : Kd.C k73 w A0 l0.length l0) (hc0 : l0.length ≤ c0) (h : levylaw17_bits.f k l0 = some r) :
  Calls Try.prog 38 #[.slice A0 l0.length c0] w fun e w' => ∃ v0_ : Value, e = .returned (v0_) ∧ Kd.R k38 38 w' w.heap.size (fun _ => True) v0_ r ∧ Below w.heap.size w w' := by
 have hu38 := Try.underlying38
 have HR0 := Aside0.mk hr0
 have HC0 := Aside0.mk hc0
 clear hr0 hc0
 have HB := Aside0.mk (Below.refl w.heap.size w)
 have H : (levylaw17_bits.l0 k l0 ([] : List (S38)) 0) = some r := h
 clear h
 have H' := Aside0.mk H
 clear H
 go_enter Try.func38, Try.ntmps38
 go_wp2
 go_loopg [3, 4] k (fun kq v3 v4 w' => ∃ (x3_1 : List (S38)) (x4_1 : Int), v4 = .int .i64 x4_1 ∧ Aside0 (levylaw17_bits.l0 kq l0 x3_1 x4_1 = some r) ∧ Aside0 (kq ≤ k) ∧ Aside0 (Kd.R k38 38 w' w.heap.size (fun _ => True) v3 x3_1) ∧ Aside0 (Below w.heap.size w w'))
 case atStart => exact ⟨(([] : List (S38))), (0), (by first | rfl | (simp; done) | (simp [*]; done)), H', ⟨Nat.le_refl _⟩, ⟨by first | exact Kd.R_nil _ _ _ _ _ | exact Kd.N_nil _ _ _ _ _ | exact Kd.V_nil _ _ _ _ _ | exact Kd.Q_nil _ _ _ _ _ | exact Kd.S_nil _ _ _ _ _⟩, ⟨blx⟩⟩
 case round =>
  clear H'
  obtain ⟨x3_1, x4_1, rfl, HA, HK1, HO_3, HB⟩ := hrel
  cases gk with
  | zero => exact absurd HA.out (by simp [levylaw17_bits.l0])
  | succ k1 =>
   have H := HA.out
   clear HA
   simp only [levylaw17_bits.l0] at H
   by_cases c2 : x4_1 < (l0.length : Int)
   ·rw [if_pos c2] at H
    have c2b0 : decide (x4_1 < (l0.length : Int)) = true := decide_eq_true c2
    clear c2
    by_cases c3 : 0 ≤ x4_1
    ·rw [if_pos c3] at H
     have c3b0 : decide (0 ≤ x4_1) = true := decide_eq_true c3
     clear c3
     by_cases c4 : x3_1.length < 8796093022208
     ·rw [if_pos c4] at H
      have LMc4 := Aside0.mk c4
      clear c4
      obtain ⟨y255, hy255⟩ : ∃ y_ : List (S38), y_ = (x3_1 ++ [(⟨(rd_T73 l0 x4_1).f0, (rd_T73 l0 x4_1).f1⟩ : S38)]) := ⟨_, rfl⟩
      replace H : (levylaw17_bits.l0 k1 l0 y255 (wrap64 (x4_1 + 1))) = some r := by first | (rw [hy255]; with_reducible exact H) | (have H2_ := (Option.bind_some _ _).symm.trans H; rw [hy255]; with_reducible exact H2_) | (have H2_ := (Option.bind_some _ _).symm.trans H; with_reducible exact H2_) | with_reducible exact H | (rw [hy255]; exact H) | exact H
      have Ny255 := Aside0.mk hy255
      clear hy255
      have H' := Aside0.mk H
      clear H
      try go_wp2
      have n0_ := Aside0.mk (Kd.R_drew HO_3.out)
      have n1_ := Aside0.mk (below_drew1 HB.out)
      clear HO_3
      clear HB
      have HO_3 := n0_
      have HB := n1_
      clear n0_ n1_
      have p253 : 0 ≤ (x4_1 : Int) := odx
      have q253 : x4_1 < (l0.length : Int) := odx
      obtain ⟨ad253, e253, hx253_0, hx253_1⟩ := at_T73 HR0.out x4_1 p253 q253
      have hw253_1 := hx253_1
      have hw253_0 := hx253_0
      cases e253
      replace hx253_0 := (HB.out.cell (World.block_lt_of_cell? w _ hx253_0)).trans hx253_0
      replace hx253_1 := (HB.out.cell (World.block_lt_of_cell? w _ hx253_1)).trans hx253_1
      replace p253 := eq_true p253
      replace q253 := eq_true q253
      have p254 : 0 ≤ (x4_1 : Int) := odx
      have q254 : x4_1 < (l0.length : Int) := odx
      obtain ⟨ad254, e254, hx254_0, hx254_1⟩ := at_T73 HR0.out x4_1 p254 q254
      have hw254_1 := hx254_1
      have hw254_0 := hx254_0
      obtain rfl : ad253 = ad254 := (by injection e254)
      replace hx254_0 := (HB.out.cell (World.block_lt_of_cell? w _ hx254_0)).trans hx254_0
      replace hx254_1 := (HB.out.cell (World.block_lt_of_cell? w _ hx254_1)).trans hx254_1
      replace p254 := eq_true p254
      replace q254 := eq_true q254
      refine start_ (n := 15) (S := fun w' => w'.cell? (ad253.add ((x4_1).toNat * 2)) = some (.int .i64 ((rd_T73 l0 x4_1).f0)) ∧ w'.cell? ⟨(ad253.add ((x4_1).toNat * 2)).block, (ad253.add ((x4_1).toNat * 2)).off + 1, none⟩ = some (.int .u32 ((rd_T73 l0 x4_1).f1)) ∧ w'.cell? (ad253.add ((x4_1).toNat * 2)) = some (.int .i64 ((rd_T73 l0 x4_1).f0)) ∧ w'.cell? ⟨(ad253.add ((x4_1).toNat * 2)).block, (ad253.add ((x4_1).toNat * 2)).off + 1, none⟩ = some (.int .u32 ((rd_T73 l0 x4_1).f1))) (ds := []) #[false, false, false, false, false, false, false, false, false, false, false, false, false, false, false] (by kernel_rfl) rfl rfl ⟨((HB.out.cell (World.block_lt_of_cell? w _ hw253_0)).trans hw253_0), ((HB.out.cell (World.block_lt_of_cell? w _ hw253_1)).trans hw253_1), ((HB.out.cell (World.block_lt_of_cell? w _ hw254_0)).trans hw254_0), ((HB.out.cell (World.block_lt_of_cell? w _ hw254_1)).trans hw254_1)⟩ (fun hHeld => ?_); refine with_tabW levylaw17_bits.tab5 levylaw17_bits.bits5 (fun HT_ HW_ => ?_)
      generalize wr.drew = w5 at HO_3 HB hx253_0 hx253_1 hx254_0 hx254_1 hHeld ⊢
      refine pure_ (i := 0) (N := some 11) (v := ?_) (a' := ?_) #[true, false, false, false, false, false, false, false, false, false, false, false, false, false, false] rfl rfl (any_of HT_.out (by kernel_rfl)) (fun _ _ _ h => h) (Or.inl ⟨by rfl, ?_⟩) ?_ ?_
      rotate_left
      ·intro w'
       go_simp
       with_reducible rfl
      rotate_left
      ·simp only [Act.put, List.setIfInBounds_toArray, List.set_cons_zero, List.set_cons_succ, i64_w, i32_w]
       rfl
      refine pure_ (i := 1) (N := some 12) (v := ?_) (a' := ?_) #[true, true, false, false, false, false, false, false, false, false, false, false, false, false, false] rfl rfl (any_of HT_.out (by kernel_rfl)) (fun _ _ _ h => h) (Or.inl ⟨by rfl, ?_⟩) ?_ ?_
      rotate_left
      ·intro w'
       go_simp
       with_reducible rfl
      rotate_left
      ·simp only [Act.put, List.setIfInBounds_toArray, List.set_cons_zero, List.set_cons_succ, i64_w, i32_w]
       rfl
      refine pure_ (i := 2) (N := some 13) (v := ?_) (a' := ?_) #[true, true, true, false, false, false, false, false, false, false, false, false, false, false, false] rfl rfl (any_of HT_.out (by kernel_rfl)) (fun _ _ _ h => h) (Or.inl ⟨by rfl, ?_⟩) ?_ ?_
      rotate_left
      ·intro w'
       go_simp
       with_reducible rfl
      rotate_left
      ·simp only [Act.put, List.setIfInBounds_toArray, List.set_cons_zero, List.set_cons_succ, i64_w, i32_w]
       rfl
      refine pure_ (i := 3) (N := some 14) (v := ?_) (a' := ?_) #[true, true, true, true, false, false, false, false, false, false, false, false, false, false, false] rfl rfl (any_of HT_.out (by kernel_rfl)) (fun _ _ _ h => h) (Or.inl ⟨by rfl, ?_⟩) ?_ ?_
      rotate_left
      ·intro w'
       go_simp
       with_reducible rfl
      rotate_left
      ·simp only [Act.put, List.setIfInBounds_toArray, List.set_cons_zero, List.set_cons_succ, i64_w, i32_w]
       rfl
      refine pure_ (i := 4) (N := some 15) (v := ?_) (a' := ?_) #[true, true, true, true, true, false, false, false, false, false, false, false, false, false, false] rfl rfl (any_of HT_.out (by kernel_rfl)) (fun _ _ _ h => h) (Or.inl ⟨by rfl, ?_⟩) ?_ ?_
      rotate_left
      ·intro w'
       go_simp
       with_reducible rfl
      rotate_left
      ·simp only [Act.put, List.setIfInBounds_toArray, List.set_cons_zero, List.set_cons_succ, i64_w, i32_w]
       rfl
      refine pure_ (i := 6) (N := some 17) (v := ?_) (a' := ?_) #[true, true, true, true, true, false, true, false, false, false, false, false, false, false, false] rfl rfl (any_of HT_.out (by kernel_rfl)) (fun _ _ _ h => h) (Or.inl ⟨by rfl, ?_⟩) ?_ ?_
      rotate_left
      ·intro w'
       go_simp
       with_reducible rfl
      rotate_left
      ·simp only [Act.put, List.setIfInBounds_toArray, List.set_cons_zero, List.set_cons_succ, i64_w, i32_w]
       rfl
      refine pure_ (i := 7) (N := some 18) (v := ?_) (a' := ?_) #[true, true, true, true, true, false, true, true, false, false, false, false, false, false, false] rfl rfl (any_of HT_.out (by kernel_rfl)) (fun _ _ _ h => h) (Or.inl ⟨by rfl, ?_⟩) ?_ ?_
      rotate_left
      ·intro w'
       go_simp
       with_reducible rfl
      rotate_left
      ·simp only [Act.put, List.setIfInBounds_toArray, List.set_cons_zero, List.set_cons_succ, i64_w, i32_w]
       rfl
      refine pure_ (i := 8) (N := some 19) (v := ?_) (a' := ?_) #[true, true, true, true, true, false, true, true, true, false, false, false, false, false, false] rfl rfl (any_of HT_.out (by kernel_rfl)) (fun _ _ _ h => h) (Or.inl ⟨by rfl, ?_⟩) ?_ ?_
      rotate_left
      ·intro w'
       go_simp
       with_reducible rfl
      rotate_left
      ·simp only [Act.put, List.setIfInBounds_toArray, List.set_cons_zero, List.set_cons_succ, i64_w, i32_w]
       rfl
      refine pure_ (i := 9) (N := some 20) (v := ?_) (a' := ?_) #[true, true, true, true, true, false, true, true, true, true, false, false, false, false, false] rfl rfl (any_of HT_.out (by kernel_rfl)) (fun _ _ _ h => h) (Or.inl ⟨by rfl, ?_⟩) ?_ ?_
      rotate_left
      ·intro w'
       go_simp
       with_reducible rfl
      rotate_left
      ·simp only [Act.put, List.setIfInBounds_toArray, List.set_cons_zero, List.set_cons_succ, i64_w, i32_w]
       rfl
      refine take_ (i := 5) (N := some 16) (v := ?_) (a' := ?_) #[true, true, true, true, true, true, true, true, true, true, false, false, false, false, false] rfl rfl (take_ofW HT_.out HW_.out (by kernel_rfl)) (fun _ _ _ h => h) (Or.inl ⟨by rfl, ?_⟩) hHeld ?_ ?_
      rotate_left
      ·rintro w' ⟨s0, s1, s2, s3⟩
       go_simp
       with_reducible rfl
      rotate_left
      ·simp only [Act.put, List.setIfInBounds_toArray, List.set_cons_zero, List.set_cons_succ, i64_w, i32_w]
       rfl
      refine take_ (i := 10) (N := some 21) (v := ?_) (a' := ?_) #[true, true, true, true, true, true, true, true, true, true, true, false, false, false, false] rfl rfl (take_ofW HT_.out HW_.out (by kernel_rfl)) (fun _ _ _ h => h) (Or.inl ⟨by rfl, ?_⟩) hHeld ?_ ?_
      rotate_left
      ·rintro w' ⟨s0, s1, s2, s3⟩
       go_simp
       with_reducible rfl
      rotate_left
      ·simp only [Act.put, List.setIfInBounds_toArray, List.set_cons_zero, List.set_cons_succ, i64_w, i32_w]
       rfl
      refine pure_ (i := 11) (N := some 22) (v := ?_) (a' := ?_) #[true, true, true, true, true, true, true, true, true, true, true, true, false, false, false] rfl rfl (any_of HT_.out (by kernel_rfl)) (fun _ _ _ h => h) (Or.inl ⟨by rfl, ?_⟩) ?_ ?_
      rotate_left
      ·intro w'
       go_simp
       with_reducible rfl
      rotate_left
      ·simp only [Act.put, List.setIfInBounds_toArray, List.set_cons_zero, List.set_cons_succ, i64_w, i32_w]
       rfl
      refine one_ (i := 12) (N := some 23) #[true, true, true, true, true, true, true, true, true, true, true, true, true, false, false] rfl rfl (one_of HT_.out (by kernel_rfl)) (by decide) (fun K hK => ?_)
      refine value_ (w1 := ?_) (v := ?_) (by rfl) rfl ?_ ?_
      rotate_left 2
      ·go_simp
       constructor
       ·rfl
       ·rfl
      refine hK.out _ _ ⟨(World.cell?_alloc_lt _ _ _ (World.block_lt_of_cell? _ _ (((HB.out.cell (World.block_lt_of_cell? w _ hw253_0)).trans hw253_0)))).trans (((HB.out.cell (World.block_lt_of_cell? w _ hw253_0)).trans hw253_0)), (World.cell?_alloc_lt _ _ _ (World.block_lt_of_cell? _ _ (((HB.out.cell (World.block_lt_of_cell? w _ hw253_1)).trans hw253_1)))).trans (((HB.out.cell (World.block_lt_of_cell? w _ hw253_1)).trans hw253_1)), (World.cell?_alloc_lt _ _ _ (World.block_lt_of_cell? _ _ (((HB.out.cell (World.block_lt_of_cell? w _ hw254_0)).trans hw254_0)))).trans (((HB.out.cell (World.block_lt_of_cell? w _ hw254_0)).trans hw254_0)), (World.cell?_alloc_lt _ _ _ (World.block_lt_of_cell? _ _ (((HB.out.cell (World.block_lt_of_cell? w _ hw254_1)).trans hw254_1)))).trans (((HB.out.cell (World.block_lt_of_cell? w _ hw254_1)).trans hw254_1))⟩ (fun hHeld => ?_)
      clear hK K
      refine norm_ (a' := ?_) ?_ ?_
      rotate_left
      ·show Act.put _ (some 23) _ = _
       simp only [Act.put, List.setIfInBounds_toArray, List.set_cons_zero, List.set_cons_succ, i64_w, i32_w]
       rfl
      refine one_ (i := 13) (N := some 24) #[true, true, true, true, true, true, true, true, true, true, true, true, true, true, false] rfl rfl (one_of HT_.out (by kernel_rfl)) (by decide) (fun K hK => ?_)
      refine Kd.R_append_step k38 (w0 := w) w.heap.size (by rfl) (.tmp 11) (.tmp 23) 27 38 (.agg #[(.int .i64 0), (.int .u32 0)]) 16 rfl Try.underlying27 info38 rfl (by decide) (by omega) u3 x3_1 (⟨(rd_T73 l0 x4_1).f0, (rd_T73 l0 x4_1).f1⟩ : S38) [.int .i64 ((rd_T73 l0 x4_1).f0), .int .u32 ((rd_T73 l0 x4_1).f1)] (fun _ => True) (fun _ => False) rfl rfl ?aP (fun _ hk => hk.elim) ?aF ?aO ?aB ?aS ?aL ?_
      (case aP => exact k38_mkM _ _ _ (⟨(rd_T73 l0 x4_1).f0, (rd_T73 l0 x4_1).f1⟩ : S38))
      (case aB => exact blx)
      (case aF => exact (fun _ _ => trivial))
      (case aO => exact (by (with_reducible repeat (first | apply Kd.R_alloc | apply Kd.R_drewN | apply Kd.R_drew)); exact HO_3.out))
      (case aS => exact (below_size blx))
      (case aL => have := LMc4.out; omega)
      intro v256 w6 ho hb hg hat
      rw [← Ny255.out] at ho
      have n0_ := Aside0.mk (hb)
      have n1_ := Aside0.mk (ho)
      clear HB
      clear HO_3
      have HB := n0_
      have HO257 := n1_
      clear n0_ n1_
      clear ho hb hg hat
      refine hK.out _ _ ⟨((HB.out.cell (World.block_lt_of_cell? w _ hw253_0)).trans hw253_0), ((HB.out.cell (World.block_lt_of_cell? w _ hw253_1)).trans hw253_1), ((HB.out.cell (World.block_lt_of_cell? w _ hw254_0)).trans hw254_0), ((HB.out.cell (World.block_lt_of_cell? w _ hw254_1)).trans hw254_1)⟩ (fun hHeld => ?_)
      clear hK K
      refine norm_ (a' := ?_) ?_ ?_
      rotate_left
      ·show Act.put _ (some 24) _ = _
       simp only [Act.put, List.setIfInBounds_toArray, List.set_cons_zero, List.set_cons_succ, i64_w, i32_w]
       rfl
      refine pure_ (i := 14) (N := some 3) (v := ?_) (a' := ?_) #[true, true, true, true, true, true, true, true, true, true, true, true, true, true, true] rfl rfl (any_of HT_.out (by kernel_rfl)) (fun _ _ _ h => h) (Or.inl ⟨by rfl, ?_⟩) ?_ ?_
      rotate_left
      ·intro w'
       go_simp
       with_reducible rfl
      rotate_left
      ·simp only [Act.put, List.setIfInBounds_toArray, List.set_cons_zero, List.set_cons_succ, i64_w, i32_w]
       rfl
      refine done_ (done_of HT_.out (by kernel_rfl)) ?_
      try go_wp2
      go_roundg k1
      case measure => have := HK1.out; omega
      case rel => exact ⟨(y255), (wrap64 (x4_1 + 1)), (by first | rfl | (simp; done) | (simp [*]; done)), H', ⟨by have := HK1.out; omega⟩, ⟨by (with_reducible repeat (first | apply Kd.R_alloc | apply Kd.R_drewN | apply Kd.R_drew)); exact HO257.out⟩, ⟨blx⟩⟩
     ·rw [if_neg c4] at H
      exact absurd H (by simp)
    ·rw [if_neg c3] at H
     exact absurd H (by simp)
   ·rw [if_neg c2] at H
    have c2b0 : decide (x4_1 < (l0.length : Int)) = false := decide_eq_false c2
    clear c2
    obtain rfl := Option.some.inj H
    go_wp2
    go_ret
    exact ⟨_, by first | rfl | (simp [errW_none, errW_some] <;> rfl) | (simp [*, errW_none, errW_some] <;> rfl), by (with_reducible repeat (first | apply Kd.R_alloc | apply Kd.R_drewN | apply Kd.R_drew)); exact HO_3.out, blx⟩
end Go.Proofs.Ytfhgomcfpmbhnaa.PS
end

section
namespace Go.Proofs.Ytfhgomcfpmbhnaa.PS
open Go.RowKit Go.Proofs.YtfhgomcfpmbhnaaW.PrintWords Go.Proofs.YtfhgomcfpmbhnaaW.PrintLast Go.Proofs.YtfhgomcfpmbhnaaW.PrintMore
attribute [local go_sem] frun_add frun_sub frun_mul frun_quo frun_neg frun_of frun_same frun_store frun_bits frun_from
attribute [local go_sem] max2_int min2_int max_two min_two max_three min_three max_four min_four
set_option linter.unusedVariables false
set_option linter.unusedSimpArgs false
def curve_whole.f (a0 : Int) : Option (Nat) := some (fl_of a0)
set_option maxHeartbeats 8000000 in
set_option maxRecDepth 100000 in
theorem curve_whole.calls (a0 : Int) (r : Nat) (w : World) (h : curve_whole.f a0 = some r) :
  Calls Try.prog 33 #[.int .i64 a0] w fun e w' => e = .returned (.float .f32 r) ∧ Drawn0 w w' := by
 have H : (some (fl_of a0)) = some r := h
 clear h
 obtain rfl := Option.some.inj H
 go_enter Try.func33, Try.ntmps33
 go_wp2
 go_ret
 exact ⟨by first | rfl | (simp; done) | (simp [*]; done), by repeat (first | exact Drawn0.refl _ | apply Drawn0.step)⟩
end Go.Proofs.Ytfhgomcfpmbhnaa.PS
end

section
namespace Go.Proofs.Ytfhgomcfpmbhnaa.PS
open Go.RowKit Go.Proofs.YtfhgomcfpmbhnaaW.PrintWords Go.Proofs.YtfhgomcfpmbhnaaW.PrintLast Go.Proofs.YtfhgomcfpmbhnaaW.PrintMore
attribute [local go_sem] frun_add frun_sub frun_mul frun_quo frun_neg frun_of frun_same frun_store frun_bits frun_from
attribute [local go_sem] max2_int min2_int max_two min_two max_three min_three max_four min_four
set_option linter.unusedVariables false
set_option linter.unusedSimpArgs false
def levylaw17_sameDots.l0 : Nat → List (S58) → List (S38) → Int → Option (Bool)
 | 0, _, _, _ => none
 | k + 1, x0, x1, x5 => if x5 < (x0.length : Int) then (if 0 ≤ x5 then (if x5 < (x1.length : Int) then (if ((rd_T58 x0 x5).f0) = ((rd_T38 x1 x5).f0) then ((levylaw17_near.f ((rd_T58 x0 x5).f1) ((rd_T38 x1 x5).f1)).bind fun t312 => (if t312 = true then (levylaw17_sameDots.l0 k x0 x1 (wrap64 (x5 + 1))) else (some false))) else (some false)) else (none)) else (none)) else (some true)
def levylaw17_sameDots.f (k : Nat) (l0 : List (S58)) (l1 : List (S38)) : Option (Bool) := if (l0.length : Int) = (l1.length : Int) then (levylaw17_sameDots.l0 k l0 l1 0) else (some false)
theorem levylaw17_sameDots.mono_l : ∀ k, (∀ y0 y1 y2, LeO (levylaw17_sameDots.l0 k y0 y1 y2) (levylaw17_sameDots.l0 (k + 1) y0 y1 y2))
 | 0 => fun _ _ _ r h => by simp [levylaw17_sameDots.l0] at h
 | k + 1 => by
  have ih0 := levylaw17_sameDots.mono_l k
  ·intro y0 y1 y2
   unfold levylaw17_sameDots.l0
   repeat' first
   | (with_reducible exact ih0 _ _ _)
   | (with_reducible exact LeO.refl _)
   | (with_reducible exact LeO.none _)
   | (with_reducible refine LeO.ite ?_ ?_)
   | (with_reducible refine LeO.bind ?_ (fun _ => ?_))
   | exact ih0 _ _ _
   | exact LeO.none _
   | refine LeO.ite ?_ ?_
   | refine LeO.bind ?_ (fun _ => ?_)
theorem levylaw17_sameDots.mono : ∀ a0 a1 k, LeO (levylaw17_sameDots.f k a0 a1) (levylaw17_sameDots.f (k + 1) a0 a1) := by
 intro a0 a1 k
 have ih0 := levylaw17_sameDots.mono_l k
 unfold levylaw17_sameDots.f
 repeat' first
   | (with_reducible exact ih0 _ _ _)
   | (with_reducible exact LeO.refl _)
   | (with_reducible exact LeO.none _)
   | (with_reducible refine LeO.ite ?_ ?_)
   | (with_reducible refine LeO.bind ?_ (fun _ => ?_))
   | exact ih0 _ _ _
   | exact LeO.none _
   | refine LeO.ite ?_ ?_
   | refine LeO.bind ?_ (fun _ => ?_)
set_option maxHeartbeats 8000000 in
set_option maxRecDepth 100000 in
theorem levylaw17_sameDots.calls (k : Nat) (A0 : Option Addr) (c0 : Nat) (l0 : List (S58)) (A1 : Option Addr) (c1 : Nat) (l1 : List (S38)) (r : Bool) (w : World) (hr0 : Kd.C k58 w A0 l0.length l0) (hc0 : l0.length ≤ c0) (hr1 : Kd.C k38 w A1 l1.length l1) (hc1 : l1.length ≤ c1) (h : levylaw17_sameDots.f k l0 l1 = some r) :
  Calls Try.prog 15 #[.slice A0 l0.length c0, .slice A1 l1.length c1] w fun e w' => e = .returned (.bool r) ∧ Drawn0 w w' := by
 have HR0 := Aside0.mk hr0
 have HC0 := Aside0.mk hc0
 clear hr0 hc0
 have HR1 := Aside0.mk hr1
 have HC1 := Aside0.mk hc1
 clear hr1 hc1
 have H : (if (l0.length : Int) = (l1.length : Int) then (levylaw17_sameDots.l0 k l0 l1 0) else (some false)) = some r := h
 clear h
 by_cases c3 : (l0.length : Int) = (l1.length : Int)
 ·rw [if_pos c3] at H
  have c3b0 : ((l0.length : Int) == (l1.length : Int)) = true := beq_iff_eq.mpr c3
  have c3b1 : ((l0.length : Int) != (l1.length : Int)) = false := bne_eq_false_iff_eq.mpr c3
  have c3b2 : (l0.length == l1.length) = true := by first | simpa using c3 | (simp at c3 ⊢; omega)
  clear c3
  have H' := Aside0.mk H
  clear H
  go_enter Try.func15, Try.ntmps15
  go_wp2
  repeat (go_quiet (fail); try go_wp2)
  go_loopg [5] k (fun kq v5 w' => ∃ (x5_1 : Int), v5 = .int .i64 x5_1 ∧ Aside0 (levylaw17_sameDots.l0 kq l0 l1 x5_1 = some r) ∧ Aside0 (kq ≤ k) ∧ Drawn0 w w')
  case atStart => exact ⟨(0), (by first | rfl | (simp; done) | (simp [*]; done)), H', ⟨Nat.le_refl _⟩, by repeat (first | exact Drawn0.refl _ | apply Drawn0.step)⟩
  case round =>
   clear H'
   try clear c1
   try clear p2
   try clear c3
   try clear c3b0
   try clear c3b1
   try clear c3b2
   obtain ⟨x5_1, rfl, HA, HK1, ⟨m1, rfl⟩⟩ := hrel
   cases gk with
   | zero => exact absurd HA.out (by simp [levylaw17_sameDots.l0])
   | succ k1 =>
    have H := HA.out
    clear HA
    simp only [levylaw17_sameDots.l0] at H
    by_cases c4 : x5_1 < (l0.length : Int)
    ·rw [if_pos c4] at H
     have c4b0 : decide (x5_1 < (l0.length : Int)) = true := decide_eq_true c4
     clear c4
     by_cases c5 : 0 ≤ x5_1
     ·rw [if_pos c5] at H
      have c5b0 : decide (0 ≤ x5_1) = true := decide_eq_true c5
      clear c5
      by_cases c6 : x5_1 < (l1.length : Int)
      ·rw [if_pos c6] at H
       have c6b0 : decide (x5_1 < (l1.length : Int)) = true := decide_eq_true c6
       clear c6
       by_cases c7 : ((rd_T58 l0 x5_1).f0) = ((rd_T38 l1 x5_1).f0)
       ·rw [if_pos c7] at H
        have c7b0 : (((rd_T58 l0 x5_1).f0) == ((rd_T38 l1 x5_1).f0)) = true := beq_iff_eq.mpr c7
        have c7b1 : (((rd_T58 l0 x5_1).f0) != ((rd_T38 l1 x5_1).f0)) = false := bne_eq_false_iff_eq.mpr c7
        clear c7
        replace H := Option.bind_eq_some_iff.mp H
        obtain ⟨t312, A80, H⟩ := H
        replace H : (if t312 = true then (levylaw17_sameDots.l0 k1 l0 l1 (wrap64 (x5_1 + 1))) else (some false)) = some r := H
        have A8 := Aside0.mk A80
        clear A80
        by_cases c9 : t312 = true
        ·subst c9
         have H1 : (levylaw17_sameDots.l0 k1 l0 l1 (wrap64 (x5_1 + 1))) = some r := by rw [if_pos rfl] at H; exact H
         clear H
         have H := H1
         clear H1
         have H' := Aside0.mk H
         clear H
         have p308 : 0 ≤ (x5_1 : Int) := odx
         have q308 : x5_1 < (l0.length : Int) := odx
         obtain ⟨ad308, e308, hx308_0, hx308_1⟩ := at_T58 HR0.out x5_1 p308 q308
         cases e308
         replace p308 := eq_true p308
         replace q308 := eq_true q308
         have p309 : 0 ≤ (x5_1 : Int) := odx
         have q309 : x5_1 < (l1.length : Int) := odx
         obtain ⟨ad309, e309, hx309_0, hx309_1⟩ := at_T38 HR1.out x5_1 p309 q309
         cases e309
         replace p309 := eq_true p309
         replace q309 := eq_true q309
         have p310 : 0 ≤ (x5_1 : Int) := odx
         have q310 : x5_1 < (l0.length : Int) := odx
         obtain ⟨ad310, e310, hx310_0, hx310_1⟩ := at_T58 HR0.out x5_1 p310 q310
         obtain rfl : ad308 = ad310 := (by injection e310)
         replace p310 := eq_true p310
         replace q310 := eq_true q310
         have p311 : 0 ≤ (x5_1 : Int) := odx
         have q311 : x5_1 < (l1.length : Int) := odx
         obtain ⟨ad311, e311, hx311_0, hx311_1⟩ := at_T38 HR1.out x5_1 p311 q311
         obtain rfl : ad309 = ad311 := (by injection e311)
         replace p311 := eq_true p311
         replace q311 := eq_true q311
         go_wp2_with (first | (go_at_call 35; (with_reducible refine (levylaw17_near.calls ((rd_T58 l0 x5_1).f1) ((rd_T38 l1 x5_1).f1) true _ A8.out).mono ?_); rintro e w' ⟨rfl, ⟨nd, rfl⟩⟩; (try first | exact ⟨rfl, _, World.drewN_drewN _ _ _⟩ | exact ⟨rfl, _, Eq.trans (World.drewN_drewN _ _ _) (congrArg (World.drewN _) (Nat.add_assoc _ _ _))⟩)))
         repeat (go_quiet (first | (go_at_call 35; (with_reducible refine (levylaw17_near.calls ((rd_T58 l0 x5_1).f1) ((rd_T38 l1 x5_1).f1) true _ A8.out).mono ?_); rintro e w' ⟨rfl, ⟨nd, rfl⟩⟩; (try first | exact ⟨rfl, _, World.drewN_drewN _ _ _⟩ | exact ⟨rfl, _, Eq.trans (World.drewN_drewN _ _ _) (congrArg (World.drewN _) (Nat.add_assoc _ _ _))⟩))); try go_wp2_with (first | (go_at_call 35; (with_reducible refine (levylaw17_near.calls ((rd_T58 l0 x5_1).f1) ((rd_T38 l1 x5_1).f1) true _ A8.out).mono ?_); rintro e w' ⟨rfl, ⟨nd, rfl⟩⟩; (try first | exact ⟨rfl, _, World.drewN_drewN _ _ _⟩ | exact ⟨rfl, _, Eq.trans (World.drewN_drewN _ _ _) (congrArg (World.drewN _) (Nat.add_assoc _ _ _))⟩))))
         go_roundg k1
         case measure => have := HK1.out; omega
         case rel => exact ⟨(wrap64 (x5_1 + 1)), (by first | rfl | (simp; done) | (simp [*]; done)), H', ⟨by have := HK1.out; omega⟩, by repeat (first | exact Drawn0.refl _ | apply Drawn0.step)⟩
        ·replace c9 := Bool.eq_false_iff.mpr c9
         subst c9
         have H1 : (some false) = some r := by rw [if_neg (show ¬ (false = true) by decide)] at H; exact H
         clear H
         have H := H1
         clear H1
         obtain rfl := Option.some.inj H
         have p308 : 0 ≤ (x5_1 : Int) := odx
         have q308 : x5_1 < (l0.length : Int) := odx
         obtain ⟨ad308, e308, hx308_0, hx308_1⟩ := at_T58 HR0.out x5_1 p308 q308
         cases e308
         replace p308 := eq_true p308
         replace q308 := eq_true q308
         have p309 : 0 ≤ (x5_1 : Int) := odx
         have q309 : x5_1 < (l1.length : Int) := odx
         obtain ⟨ad309, e309, hx309_0, hx309_1⟩ := at_T38 HR1.out x5_1 p309 q309
         cases e309
         replace p309 := eq_true p309
         replace q309 := eq_true q309
         have p310 : 0 ≤ (x5_1 : Int) := odx
         have q310 : x5_1 < (l0.length : Int) := odx
         obtain ⟨ad310, e310, hx310_0, hx310_1⟩ := at_T58 HR0.out x5_1 p310 q310
         obtain rfl : ad308 = ad310 := (by injection e310)
         replace p310 := eq_true p310
         replace q310 := eq_true q310
         have p311 : 0 ≤ (x5_1 : Int) := odx
         have q311 : x5_1 < (l1.length : Int) := odx
         obtain ⟨ad311, e311, hx311_0, hx311_1⟩ := at_T38 HR1.out x5_1 p311 q311
         obtain rfl : ad309 = ad311 := (by injection e311)
         replace p311 := eq_true p311
         replace q311 := eq_true q311
         go_wp2_with (first | (go_at_call 35; (with_reducible refine (levylaw17_near.calls ((rd_T58 l0 x5_1).f1) ((rd_T38 l1 x5_1).f1) false _ A8.out).mono ?_); rintro e w' ⟨rfl, ⟨nd, rfl⟩⟩; (try first | exact ⟨rfl, _, World.drewN_drewN _ _ _⟩ | exact ⟨rfl, _, Eq.trans (World.drewN_drewN _ _ _) (congrArg (World.drewN _) (Nat.add_assoc _ _ _))⟩)))
         repeat (go_quiet (first | (go_at_call 35; (with_reducible refine (levylaw17_near.calls ((rd_T58 l0 x5_1).f1) ((rd_T38 l1 x5_1).f1) false _ A8.out).mono ?_); rintro e w' ⟨rfl, ⟨nd, rfl⟩⟩; (try first | exact ⟨rfl, _, World.drewN_drewN _ _ _⟩ | exact ⟨rfl, _, Eq.trans (World.drewN_drewN _ _ _) (congrArg (World.drewN _) (Nat.add_assoc _ _ _))⟩))); try go_wp2_with (first | (go_at_call 35; (with_reducible refine (levylaw17_near.calls ((rd_T58 l0 x5_1).f1) ((rd_T38 l1 x5_1).f1) false _ A8.out).mono ?_); rintro e w' ⟨rfl, ⟨nd, rfl⟩⟩; (try first | exact ⟨rfl, _, World.drewN_drewN _ _ _⟩ | exact ⟨rfl, _, Eq.trans (World.drewN_drewN _ _ _) (congrArg (World.drewN _) (Nat.add_assoc _ _ _))⟩))))
         go_ret
         exact ⟨by first | rfl | (simp; done) | (simp [*]; done), by repeat (first | exact Drawn0.refl _ | apply Drawn0.step)⟩
       ·rw [if_neg c7] at H
        have c7b0 : (((rd_T58 l0 x5_1).f0) == ((rd_T38 l1 x5_1).f0)) = false := beq_eq_false_iff_ne.mpr c7
        have c7b1 : (((rd_T58 l0 x5_1).f0) != ((rd_T38 l1 x5_1).f0)) = true := bne_iff_ne.mpr c7
        obtain rfl := Option.some.inj H
        have p308 : 0 ≤ (x5_1 : Int) := odx
        have q308 : x5_1 < (l0.length : Int) := odx
        obtain ⟨ad308, e308, hx308_0, hx308_1⟩ := at_T58 HR0.out x5_1 p308 q308
        cases e308
        replace p308 := eq_true p308
        replace q308 := eq_true q308
        have p309 : 0 ≤ (x5_1 : Int) := odx
        have q309 : x5_1 < (l1.length : Int) := odx
        obtain ⟨ad309, e309, hx309_0, hx309_1⟩ := at_T38 HR1.out x5_1 p309 q309
        cases e309
        replace p309 := eq_true p309
        replace q309 := eq_true q309
        go_wp2
        repeat (go_quiet (fail); try go_wp2)
        go_ret
        exact ⟨by first | rfl | (simp; done) | (simp [*]; done), by repeat (first | exact Drawn0.refl _ | apply Drawn0.step)⟩
      ·rw [if_neg c6] at H
       exact absurd H (by simp)
     ·rw [if_neg c5] at H
      exact absurd H (by simp)
    ·rw [if_neg c4] at H
     have c4b0 : decide (x5_1 < (l0.length : Int)) = false := decide_eq_false c4
     clear c4
     obtain rfl := Option.some.inj H
     go_wp2
     repeat (go_quiet (fail); try go_wp2)
     go_ret
     exact ⟨by first | rfl | (simp; done) | (simp [*]; done), by repeat (first | exact Drawn0.refl _ | apply Drawn0.step)⟩
 ·rw [if_neg c3] at H
  have c3b0 : ((l0.length : Int) == (l1.length : Int)) = false := beq_eq_false_iff_ne.mpr c3
  have c3b1 : ((l0.length : Int) != (l1.length : Int)) = true := bne_iff_ne.mpr c3
  have c3b2 : (l0.length == l1.length) = false := by first | simpa using c3 | (simp at c3 ⊢; omega)
  obtain rfl := Option.some.inj H
  go_enter Try.func15, Try.ntmps15
  go_wp2
  repeat (go_quiet (fail); try go_wp2)
  go_ret
  exact ⟨by first | rfl | (simp; done) | (simp [*]; done), by repeat (first | exact Drawn0.refl _ | apply Drawn0.step)⟩
end Go.Proofs.Ytfhgomcfpmbhnaa.PS
end

section
namespace Go.Proofs.Ytfhgomcfpmbhnaa.PS
open Go.RowKit Go.Proofs.YtfhgomcfpmbhnaaW.PrintWords Go.Proofs.YtfhgomcfpmbhnaaW.PrintLast Go.Proofs.YtfhgomcfpmbhnaaW.PrintMore
attribute [local go_sem] frun_add frun_sub frun_mul frun_quo frun_neg frun_of frun_same frun_store frun_bits frun_from
attribute [local go_sem] max2_int min2_int max_two min_two max_three min_three max_four min_four
set_option linter.unusedVariables false
set_option linter.unusedSimpArgs false
mutual
def levyref17_Xs.j0 : Nat → Int → Int → Int → Bool → Option (List Int × Int)
 | 0, _, _, _, _ => none
 | k + 1, x0, x1, x2, x15 => if x15 = true then (some (([] : List Int), 170)) else (if x1 < 1 then (levyref17_Xs.j1 k x0 x1 x2 true) else (if x0 < (-9999999999999) then (levyref17_Xs.j1 k x0 x1 x2 true) else (if x0 > 9999999999999 then (levyref17_Xs.j1 k x0 x1 x2 true) else (if x2 > 1 then (if (wrap64 (x2 - 1)) = 0 then (none) else (levyref17_Xs.j1 k x0 x1 x2 (decide (x1 > (wrap64 (Int.tdiv (wrap64 (9999999999999 - x0)) (wrap64 (x2 - 1)))))))) else (levyref17_Xs.j1 k x0 x1 x2 false)))))
def levyref17_Xs.j1 : Nat → Int → Int → Int → Bool → Option (List Int × Int)
 | 0, _, _, _, _ => none
 | k + 1, x0, x1, x2, x38 => if x38 = true then (some (([] : List Int), 171)) else (levyref17_Xs.l0 k x0 x1 x2 ([] : List Int) 0)
def levyref17_Xs.l0 : Nat → Int → Int → Int → List Int → Int → Option (List Int × Int)
 | 0, _, _, _, _, _ => none
 | k + 1, x0, x1, x2, x8, x9 => if x9 < x2 then (if x8.length < 17592186044416 then (levyref17_Xs.l0 k x0 x1 x2 (x8 ++ [wrap64 (x0 + (wrap64 (x9 * x1)))]) (wrap64 (x9 + 1))) else (none)) else (some (x8, 0))
end
def levyref17_Xs.f (k : Nat) (a0 : Int) (a1 : Int) (a2 : Int) : Option (List Int × Int) := if a2 < 1 then (levyref17_Xs.j0 k a0 a1 a2 true) else (levyref17_Xs.j0 k a0 a1 a2 (decide (a2 > 64)))
theorem levyref17_Xs.mono_l : ∀ k, (∀ y0 y1 y2 y3, LeO (levyref17_Xs.j0 k y0 y1 y2 y3) (levyref17_Xs.j0 (k + 1) y0 y1 y2 y3)) ∧ (∀ y0 y1 y2 y3, LeO (levyref17_Xs.j1 k y0 y1 y2 y3) (levyref17_Xs.j1 (k + 1) y0 y1 y2 y3)) ∧ (∀ y0 y1 y2 y3 y4, LeO (levyref17_Xs.l0 k y0 y1 y2 y3 y4) (levyref17_Xs.l0 (k + 1) y0 y1 y2 y3 y4))
 | 0 => ⟨fun _ _ _ _ r h => by simp [levyref17_Xs.j0] at h, fun _ _ _ _ r h => by simp [levyref17_Xs.j1] at h, fun _ _ _ _ _ r h => by simp [levyref17_Xs.l0] at h⟩
 | k + 1 => by
  obtain ⟨ih0, ih1, ih2⟩ := levyref17_Xs.mono_l k
  refine ⟨?_, ?_, ?_⟩
  ·intro y0 y1 y2 y3
   unfold levyref17_Xs.j0
   repeat' first
   | (with_reducible exact ih0 _ _ _ _)
   | (with_reducible exact ih1 _ _ _ _)
   | (with_reducible exact ih2 _ _ _ _ _)
   | (with_reducible exact LeO.refl _)
   | (with_reducible exact LeO.none _)
   | (with_reducible refine LeO.ite ?_ ?_)
   | (with_reducible refine LeO.bind ?_ (fun _ => ?_))
   | exact ih0 _ _ _ _
   | exact ih1 _ _ _ _
   | exact ih2 _ _ _ _ _
   | exact LeO.none _
   | refine LeO.ite ?_ ?_
   | refine LeO.bind ?_ (fun _ => ?_)
  ·intro y0 y1 y2 y3
   unfold levyref17_Xs.j1
   repeat' first
   | (with_reducible exact ih0 _ _ _ _)
   | (with_reducible exact ih1 _ _ _ _)
   | (with_reducible exact ih2 _ _ _ _ _)
   | (with_reducible exact LeO.refl _)
   | (with_reducible exact LeO.none _)
   | (with_reducible refine LeO.ite ?_ ?_)
   | (with_reducible refine LeO.bind ?_ (fun _ => ?_))
   | exact ih0 _ _ _ _
   | exact ih1 _ _ _ _
   | exact ih2 _ _ _ _ _
   | exact LeO.none _
   | refine LeO.ite ?_ ?_
   | refine LeO.bind ?_ (fun _ => ?_)
  ·intro y0 y1 y2 y3 y4
   unfold levyref17_Xs.l0
   repeat' first
   | (with_reducible exact ih0 _ _ _ _)
   | (with_reducible exact ih1 _ _ _ _)
   | (with_reducible exact ih2 _ _ _ _ _)
   | (with_reducible exact LeO.refl _)
   | (with_reducible exact LeO.none _)
   | (with_reducible refine LeO.ite ?_ ?_)
   | (with_reducible refine LeO.bind ?_ (fun _ => ?_))
   | exact ih0 _ _ _ _
   | exact ih1 _ _ _ _
   | exact ih2 _ _ _ _ _
   | exact LeO.none _
   | refine LeO.ite ?_ ?_
   | refine LeO.bind ?_ (fun _ => ?_)
theorem levyref17_Xs.mono : ∀ a0 a1 a2 k, LeO (levyref17_Xs.f k a0 a1 a2) (levyref17_Xs.f (k + 1) a0 a1 a2) := by
 intro a0 a1 a2 k
 obtain ⟨ih0, ih1, ih2⟩ := levyref17_Xs.mono_l k
 unfold levyref17_Xs.f
 repeat' first
   | (with_reducible exact ih0 _ _ _ _)
   | (with_reducible exact ih1 _ _ _ _)
   | (with_reducible exact ih2 _ _ _ _ _)
   | (with_reducible exact LeO.refl _)
   | (with_reducible exact LeO.none _)
   | (with_reducible refine LeO.ite ?_ ?_)
   | (with_reducible refine LeO.bind ?_ (fun _ => ?_))
   | exact ih0 _ _ _ _
   | exact ih1 _ _ _ _
   | exact ih2 _ _ _ _ _
   | exact LeO.none _
   | refine LeO.ite ?_ ?_
   | refine LeO.bind ?_ (fun _ => ?_)
set_option maxHeartbeats 8000000 in
set_option maxRecDepth 100000 in
theorem levyref17_Xs.calls (k : Nat) (a0 : Int) (a1 : Int) (a2 : Int) (r1 : List Int) (r2 : Int) (w : World) (h : levyref17_Xs.f k a0 a1 a2 = some (r1, r2)) :
  Calls Try.prog 11 #[.int .i64 a0, .int .i64 a1, .int .i64 a2] w fun e w' => ∃ v0_ : Value, e = .returned (.tuple #[v0_, .int .i64 r2]) ∧ Kd.R (Kd.int .i64) 2 w' w.heap.size (fun _ => True) v0_ r1 ∧ Below w.heap.size w w' := by
 have HB := Aside0.mk (Below.refl w.heap.size w)
 have H : (if a2 < 1 then (levyref17_Xs.j0 k a0 a1 a2 true) else (levyref17_Xs.j0 k a0 a1 a2 (decide (a2 > 64)))) = some (r1, r2) := h
 clear h
 have HC4 := Aside0.mk H
 clear H
 go_enter Try.func11, Try.ntmps11
 go_upto_region 1 with (fail)
 go_cut [15] (fun v15 wc => ∃ (kq : Nat) (x15_3 : Bool), v15 = .bool x15_3 ∧ Aside0 (levyref17_Xs.j0 kq a0 a1 a2 x15_3 = some (r1, r2)) ∧ Aside0 (kq ≤ k) ∧ Aside0 (Below w.heap.size w wc))
 case first =>
  have H := HC4.out
  clear HC4
  by_cases c5 : a2 < 1
  ·rw [if_pos c5] at H
   have c5b0 : decide (a2 < 1) = true := decide_eq_true c5
   clear c5
   (first | rw [c5b0] | (simp only [i64_w, i32_w]; rw [c5b0]) | skip)
   have H' := Aside0.mk H
   clear H
   go_wp2
   go_meet
   case rel => exact ⟨_, (true), (by first | rfl | (simp; done) | (simp [*]; done)), H', ⟨by first | omega | exact Nat.le_refl _⟩, ⟨blx⟩⟩
  ·rw [if_neg c5] at H
   have c5b0 : decide (a2 < 1) = false := decide_eq_false c5
   clear c5
   (first | rw [c5b0] | (simp only [i64_w, i32_w]; rw [c5b0]) | skip)
   have H' := Aside0.mk H
   clear H
   go_wp2
   go_meet
   case rel => exact ⟨_, (decide (a2 > 64)), (by first | rfl | (simp; done) | (simp [*]; done)), H', ⟨by first | omega | exact Nat.le_refl _⟩, ⟨blx⟩⟩
 case rest =>
  clear HC4
  try clear c1
  try clear p2
  try clear c5
  try clear c5b0
  obtain ⟨kq, x15_3, rfl, HA, HJ3, HB⟩ := hcut
  cases kq with
  | zero => exact absurd HA.out (by simp [levyref17_Xs.j0])
  | succ kj3 =>
   have H := HA.out
   clear HA
   simp only [levyref17_Xs.j0] at H
   by_cases c6 : x15_3 = true
   ·subst c6
    have H1 : (some (([] : List Int), 170)) = some (r1, r2) := by rw [if_pos rfl] at H; exact H
    clear H
    have H := H1
    clear H1
    simp only [Option.some.injEq, Prod.mk.injEq] at H
    obtain ⟨rfl, rfl⟩ := H
    go_wp2
    go_ret2
    exact ⟨_, by first | rfl | (simp [errW_none, errW_some] <;> rfl) | (simp [*, errW_none, errW_some] <;> rfl), by first | exact Kd.R_nil _ _ _ _ _ | exact Kd.N_nil _ _ _ _ _ | exact Kd.V_nil _ _ _ _ _ | exact Kd.Q_nil _ _ _ _ _ | exact Kd.S_nil _ _ _ _ _, blx⟩
   ·replace c6 := Bool.eq_false_iff.mpr c6
    subst c6
    have H1 : (if a1 < 1 then (levyref17_Xs.j1 kj3 a0 a1 a2 true) else (if a0 < (-9999999999999) then (levyref17_Xs.j1 kj3 a0 a1 a2 true) else (if a0 > 9999999999999 then (levyref17_Xs.j1 kj3 a0 a1 a2 true) else (if a2 > 1 then (if (wrap64 (a2 - 1)) = 0 then (none) else (levyref17_Xs.j1 kj3 a0 a1 a2 (decide (a1 > (wrap64 (Int.tdiv (wrap64 (9999999999999 - a0)) (wrap64 (a2 - 1)))))))) else (levyref17_Xs.j1 kj3 a0 a1 a2 false))))) = some (r1, r2) := by rw [if_neg (show ¬ (false = true) by decide)] at H; exact H
    clear H
    have H := H1
    clear H1
    have HC7 := Aside0.mk H
    clear H
    go_upto_region 3 with (fail)
    go_cut [38] (fun v38 wc => ∃ (kq : Nat) (x38_6 : Bool), v38 = .bool x38_6 ∧ Aside0 (levyref17_Xs.j1 kq a0 a1 a2 x38_6 = some (r1, r2)) ∧ Aside0 (kq ≤ kj3) ∧ Aside0 (Below w.heap.size w wc))
    case first =>
     have H := HC7.out
     clear HC7
     by_cases c8 : a1 < 1
     ·rw [if_pos c8] at H
      have c8b0 : decide (a1 < 1) = true := decide_eq_true c8
      clear c8
      (first | rw [c8b0] | (simp only [i64_w, i32_w]; rw [c8b0]) | skip)
      have H' := Aside0.mk H
      clear H
      go_wp2
      go_meet
      case rel => exact ⟨_, (true), (by first | rfl | (simp; done) | (simp [*]; done)), H', ⟨by have := HJ3.out; first | omega | exact Nat.le_refl _⟩, ⟨blx⟩⟩
     ·rw [if_neg c8] at H
      have c8b0 : decide (a1 < 1) = false := decide_eq_false c8
      clear c8
      (first | rw [c8b0] | (simp only [i64_w, i32_w]; rw [c8b0]) | skip)
      by_cases c9 : a0 < (-9999999999999)
      ·rw [if_pos c9] at H
       have c9b0 : decide (a0 < (-9999999999999)) = true := decide_eq_true c9
       clear c9
       have H' := Aside0.mk H
       clear H
       go_wp2
       go_meet
       case rel => exact ⟨_, (true), (by first | rfl | (simp; done) | (simp [*]; done)), H', ⟨by have := HJ3.out; first | omega | exact Nat.le_refl _⟩, ⟨blx⟩⟩
      ·rw [if_neg c9] at H
       have c9b0 : decide (a0 < (-9999999999999)) = false := decide_eq_false c9
       clear c9
       by_cases c10 : a0 > 9999999999999
       ·rw [if_pos c10] at H
        have c10b0 : decide (9999999999999 < a0) = true := decide_eq_true c10
        clear c10
        have H' := Aside0.mk H
        clear H
        go_wp2
        go_meet
        case rel => exact ⟨_, (true), (by first | rfl | (simp; done) | (simp [*]; done)), H', ⟨by have := HJ3.out; first | omega | exact Nat.le_refl _⟩, ⟨blx⟩⟩
       ·rw [if_neg c10] at H
        have c10b0 : decide (9999999999999 < a0) = false := decide_eq_false c10
        clear c10
        by_cases c11 : a2 > 1
        ·rw [if_pos c11] at H
         have c11b0 : decide (1 < a2) = true := decide_eq_true c11
         clear c11
         by_cases c12 : (wrap64 (a2 - 1)) = 0
         ·rw [if_pos c12] at H
          exact absurd H (by simp)
         ·rw [if_neg c12] at H
          have c12b0 : ((wrap64 (a2 - 1)) == 0) = false := beq_eq_false_iff_ne.mpr c12
          have c12b1 : ((wrap64 (a2 - 1)) != 0) = true := bne_iff_ne.mpr c12
          have H' := Aside0.mk H
          clear H
          go_wp2
          go_meet
          case rel => exact ⟨_, (decide (a1 > (wrap64 (Int.tdiv (wrap64 (9999999999999 - a0)) (wrap64 (a2 - 1)))))), (by first | rfl | (simp; done) | (simp [*]; done)), H', ⟨by have := HJ3.out; first | omega | exact Nat.le_refl _⟩, ⟨blx⟩⟩
        ·rw [if_neg c11] at H
         have c11b0 : decide (1 < a2) = false := decide_eq_false c11
         clear c11
         have H' := Aside0.mk H
         clear H
         go_wp2
         go_meet
         case rel => exact ⟨_, (false), (by first | rfl | (simp; done) | (simp [*]; done)), H', ⟨by have := HJ3.out; first | omega | exact Nat.le_refl _⟩, ⟨blx⟩⟩
    case rest =>
     clear HC7
     try clear c1
     try clear p2
     try clear c5
     try clear c5b0
     try clear c6
     try clear p6
     try clear c8
     try clear c8b0
     try clear c9
     try clear c9b0
     try clear c10
     try clear c10b0
     try clear c11
     try clear c11b0
     try clear c12
     try clear c12b0
     try clear c12b1
     try clear p2
     obtain ⟨kq, x38_6, rfl, HA, HJ6, HB⟩ := hcut
     cases kq with
     | zero => exact absurd HA.out (by simp [levyref17_Xs.j1])
     | succ kj6 =>
      have H := HA.out
      clear HA
      simp only [levyref17_Xs.j1] at H
      by_cases c13 : x38_6 = true
      ·subst c13
       have H1 : (some (([] : List Int), 171)) = some (r1, r2) := by rw [if_pos rfl] at H; exact H
       clear H
       have H := H1
       clear H1
       simp only [Option.some.injEq, Prod.mk.injEq] at H
       obtain ⟨rfl, rfl⟩ := H
       go_wp2
       go_ret2
       exact ⟨_, by first | rfl | (simp [errW_none, errW_some] <;> rfl) | (simp [*, errW_none, errW_some] <;> rfl), by first | exact Kd.R_nil _ _ _ _ _ | exact Kd.N_nil _ _ _ _ _ | exact Kd.V_nil _ _ _ _ _ | exact Kd.Q_nil _ _ _ _ _ | exact Kd.S_nil _ _ _ _ _, blx⟩
      ·replace c13 := Bool.eq_false_iff.mpr c13
       subst c13
       have H1 : (levyref17_Xs.l0 kj6 a0 a1 a2 ([] : List Int) 0) = some (r1, r2) := by rw [if_neg (show ¬ (false = true) by decide)] at H; exact H
       clear H
       have H := H1
       clear H1
       have H' := Aside0.mk H
       clear H
       go_wp2
       go_loopg [8, 9] kj6 (fun kq v8 v9 w' => ∃ (x8_3 : List Int) (x9_3 : Int), v9 = .int .i64 x9_3 ∧ Aside0 (levyref17_Xs.l0 kq a0 a1 a2 x8_3 x9_3 = some (r1, r2)) ∧ Aside0 (kq ≤ kj6) ∧ Aside0 (Kd.R (Kd.int .i64) 2 w' w.heap.size (fun _ => True) v8 x8_3) ∧ Aside0 (Below w.heap.size w w'))
       case atStart => exact ⟨(([] : List Int)), (0), (by first | rfl | (simp; done) | (simp [*]; done)), H', ⟨Nat.le_refl _⟩, ⟨by first | exact Kd.R_nil _ _ _ _ _ | exact Kd.N_nil _ _ _ _ _ | exact Kd.V_nil _ _ _ _ _ | exact Kd.Q_nil _ _ _ _ _ | exact Kd.S_nil _ _ _ _ _⟩, ⟨blx⟩⟩
       case round =>
        clear H'
        try clear c1
        try clear p2
        try clear c5
        try clear c5b0
        try clear c6
        try clear p6
        try clear c8
        try clear c8b0
        try clear c9
        try clear c9b0
        try clear c10
        try clear c10b0
        try clear c11
        try clear c11b0
        try clear c12
        try clear c12b0
        try clear c12b1
        try clear c13
        try clear p2
        try clear p6
        obtain ⟨x8_3, x9_3, rfl, HA, HK3, HO_8, HB⟩ := hrel
        cases gk with
        | zero => exact absurd HA.out (by simp [levyref17_Xs.l0])
        | succ k3 =>
         have H := HA.out
         clear HA
         simp only [levyref17_Xs.l0] at H
         by_cases c14 : x9_3 < a2
         ·rw [if_pos c14] at H
          have c14b0 : decide (x9_3 < a2) = true := decide_eq_true c14
          clear c14
          by_cases c15 : x8_3.length < 17592186044416
          ·rw [if_pos c15] at H
           have LMc15 := Aside0.mk c15
           clear c15
           obtain ⟨y101, hy101⟩ : ∃ y_ : List Int, y_ = (x8_3 ++ [wrap64 (a0 + (wrap64 (x9_3 * a1)))]) := ⟨_, rfl⟩
           replace H : (levyref17_Xs.l0 k3 a0 a1 a2 y101 (wrap64 (x9_3 + 1))) = some (r1, r2) := by first | (rw [hy101]; with_reducible exact H) | (have H2_ := (Option.bind_some _ _).symm.trans H; rw [hy101]; with_reducible exact H2_) | (have H2_ := (Option.bind_some _ _).symm.trans H; with_reducible exact H2_) | with_reducible exact H | (rw [hy101]; exact H) | exact H
           have Ny101 := Aside0.mk hy101
           clear hy101
           have H' := Aside0.mk H
           clear H
           go_wp2_with (first | ((with_reducible refine gate_builtin (b := .append) (xs := #[.tmp 44, .tmp 50]) rfl ?_); at_builtin; refine Kd.R_append (Kd.int .i64) (w0 := w) w.heap.size rfl (.tmp 44) (.tmp 50) 24 2 (.int .i64 0) 8 rfl Try.underlying24 info2 rfl (by decide) (by omega) u8 x8_3 (wrap64 (a0 + (wrap64 (x9_3 * a1)))) [.int .i64 (wrap64 (a0 + (wrap64 (x9_3 * a1))))] (fun _ => True) (fun _ => False) rfl rfl ?aP (fun _ hk => hk.elim) ?aF ?aO ?aB ?aS ?aL ?_; (case aP => exact rfl); (case aB => exact blx); (case aF => exact (fun _ _ => trivial)); (case aO => exact (by (with_reducible repeat (first | apply Kd.R_alloc | apply Kd.R_drewN | apply Kd.R_drew)); exact HO_8.out)); (case aS => exact (below_size blx)); (case aL => have := LMc15.out; omega); intro v102 w16 ho hb hg hat; rw [← Ny101.out] at ho; have n0_ := Aside0.mk (hb); have n1_ := Aside0.mk (ho); clear HB; clear HO_8; have HB := n0_; have HO103 := n1_; clear n0_ n1_; clear ho hb hg hat))
           go_roundg k3
           case measure => have := HJ3.out; have := HJ6.out; have := HK3.out; omega
           case rel => exact ⟨(y101), (wrap64 (x9_3 + 1)), (by first | rfl | (simp; done) | (simp [*]; done)), H', ⟨by have := HJ3.out; have := HJ6.out; have := HK3.out; omega⟩, ⟨by (with_reducible repeat (first | apply Kd.R_alloc | apply Kd.R_drewN | apply Kd.R_drew)); exact HO103.out⟩, ⟨blx⟩⟩
          ·rw [if_neg c15] at H
           exact absurd H (by simp)
         ·rw [if_neg c14] at H
          have c14b0 : decide (x9_3 < a2) = false := decide_eq_false c14
          clear c14
          simp only [Option.some.injEq, Prod.mk.injEq] at H
          obtain ⟨rfl, rfl⟩ := H
          go_wp2
          go_ret2
          exact ⟨_, by first | rfl | (simp [errW_none, errW_some] <;> rfl) | (simp [*, errW_none, errW_some] <;> rfl), by (with_reducible repeat (first | apply Kd.R_alloc | apply Kd.R_drewN | apply Kd.R_drew)); exact HO_8.out, blx⟩
end Go.Proofs.Ytfhgomcfpmbhnaa.PS
end

-- Part 2 of the texts of the claim CL (wrote by programs: words of the kit's print.sh, printed functions; and my own texts; joined by wip/tools/pack.py).
import Derived.Test.YtfhgomcfpmbhnaaCL1
import Derived.Test.YtfhgomcfpmbhnaaProg
import Derived.WalkLawsBesides

section
namespace Go.Proofs.YtfhgomcfpmbhnaaW.PrintMore
open Go.RowKit Go.Proofs.YtfhgomcfpmbhnaaW.PrintWords
set_option linter.unusedVariables false
def Kd.f32 : PrintWords.Kd Nat := PrintWords.Kd.scalar (Value.float .f32) (fun _ => rfl)
def fk_add (x y : Nat) : Bool := (Ieee.single.add x y).isSome
def fk_sub (x y : Nat) : Bool := (Ieee.single.sub x y).isSome
def fk_mul (x y : Nat) : Bool := (Ieee.single.mul x y).isSome
def fk_quo (x y : Nat) : Bool := (Ieee.single.div x y).isSome
def fl_add (x y : Nat) : Nat := (Ieee.single.add x y).getD 0
def fl_sub (x y : Nat) : Nat := (Ieee.single.sub x y).getD 0
def fl_mul (x y : Nat) : Nat := (Ieee.single.mul x y).getD 0
def fl_quo (x y : Nat) : Nat := (Ieee.single.div x y).getD 0
def fl_neg (x : Nat) : Nat := Op.negFloat .f32 x
def fl_of (n : Int) : Nat := FloatKind.f32.nearest n
section
variable {P : Program} {w : World} {t : TypeId} {x y : Nat}
theorem frun_add (h : fk_add x y = true) : (binOp .add t (.float .f32 x) (.float .f32 y)).run P w = .ok (.float .f32 (fl_add x y)) w := by
  obtain ⟨r, hr⟩ := Option.isSome_iff_exists.1 h
  rw [run_float_arith w .add t .f32 x y r hr]; unfold fl_add; rw [hr]; rfl
theorem frun_sub (h : fk_sub x y = true) : (binOp .sub t (.float .f32 x) (.float .f32 y)).run P w = .ok (.float .f32 (fl_sub x y)) w := by
  obtain ⟨r, hr⟩ := Option.isSome_iff_exists.1 h
  rw [run_float_arith w .sub t .f32 x y r hr]; unfold fl_sub; rw [hr]; rfl
theorem frun_mul (h : fk_mul x y = true) : (binOp .mul t (.float .f32 x) (.float .f32 y)).run P w = .ok (.float .f32 (fl_mul x y)) w := by
  obtain ⟨r, hr⟩ := Option.isSome_iff_exists.1 h
  rw [run_float_arith w .mul t .f32 x y r hr]; unfold fl_mul; rw [hr]; rfl
theorem frun_quo (h : fk_quo x y = true) : (binOp .quo t (.float .f32 x) (.float .f32 y)).run P w = .ok (.float .f32 (fl_quo x y)) w := by
  obtain ⟨r, hr⟩ := Option.isSome_iff_exists.1 h
  rw [run_float_arith w .quo t .f32 x y r hr]; unfold fl_quo; rw [hr]; rfl
theorem frun_neg : (Op.unary .neg (.float .f32 x)).run P w = .ok (.float .f32 (fl_neg x)) w := rfl
end
theorem frun_store {P : Program} {a : Addr} {m : Mode} {w : World} (b : Nat) : (store a (.float .f32 b) m).run P w = stored P w a (.float .f32 b) m := run_store P w a _ m rfl
theorem frun_bits (w : World) (x : Nat) : (callFunc 40 #[.float .f32 x]).run Try.prog w = .ok (.value (.int .u32 x)) w := rfl
theorem frun_from (w : World) (x : Int) : (callFunc 36 #[.int .u32 x]).run Try.prog w = .ok (.value (.float .f32 x.toNat)) w := rfl
theorem frun_of (w : World) (n : Int) : (convert 2 56 (.int .i64 n)).run Try.prog w = .ok (.float .f32 (fl_of n)) w := by
  simp [convert, run_underlying Try.underlying2, run_underlying Try.underlying56, Conv.intToFloat, fl_of, go_sem]
theorem frun_same (w : World) (x : Nat) : (convert 56 56 (.float .f32 x)).run Try.prog w = .ok (.float .f32 x) w := by
  simp [convert, run_underlying Try.underlying56, Conv.floatToFloat, go_sem]
end Go.Proofs.YtfhgomcfpmbhnaaW.PrintMore
end

section
namespace Go.Proofs.YtfhgomcfpmbhnaaW.PrintLast
open Go.Proofs.YtfhgomcfpmbhnaaW.PrintWords (Aside0)
def needsOf (md : Region.Mode) (o : Oper) : List Nat := (o.after.toList.filter (fun e => Region.binds md e)).map (fun e => e.on)
def clashOf (md : Region.Mode) (ops : Array Oper) (i : Nat) (oi : Oper) : List Nat := (List.range ops.size).filter fun j => !(j == i) && match ops[j]? with
  | some oj => !(oj.after.any (fun e => Region.binds md e && e.on == i) || oi.apart ops oj)
  | none => false
def rtab (md : Region.Mode) (ops : Array Oper) : Bool × List (List Nat × List Nat) := (Region.noSelect ops, (List.range ops.size).map fun i => match ops[i]? with
  | some o => (needsOf md o, clashOf md ops i o)
  | none => ([], []))
def readyAt (T : List (List Nat × List Nat)) (l : List Bool) (i : Nat) : Bool := !l.getD i true && match T[i]? with
  | some r => r.1.all (fun j => l.getD j false)
  | none => false
def readyT (T : List (List Nat × List Nat)) (l : List Bool) : List Nat := (List.range T.length).filter (readyAt T l)
def freeT (T : List (List Nat × List Nat)) (l : List Bool) (i : Nat) : Bool := match T[i]? with
  | some r => r.2.all (fun j => l.getD j true)
  | none => false
def closedT (T : List (List Nat × List Nat)) (l : List Bool) : Bool := (List.range T.length).all fun j => !l.getD j false || match T[j]? with
  | some r => r.1.all (fun k => l.getD k false)
  | none => true
def reachT (T : List (List Nat × List Nat)) (i : Nat) : Nat → Nat → Bool
  | 0, _ => false
  | fuel + 1, d => match T[d]? with
    | some r => r.1.any fun j => j == i || reachT T i fuel j
    | none => false
def lastT (T : List (List Nat × List Nat)) (l : List Bool) (ds : List Nat) (i : Nat) : Bool := ds.all fun d => l.getD d true || reachT T i T.length d
section
variable {md : Region.Mode} {ops : Array Oper} {T : Bool × List (List Nat × List Nat)} {l l' li lj lk : Array Bool} {ds : List Nat} {i j k : Nat}
theorem gd (l : Array Bool) (j : Nat) (b : Bool) : l.getD j b = l.toList.getD j b := by simp [Array.getD_eq_getD_getElem?, List.getD_eq_getElem?_getD]
theorem needs_all (o : Oper) (p : Nat → Bool) : o.after.all (fun e => !Region.binds md e || p e.on) = (needsOf md o).all p := by
  unfold needsOf
  rw [← Array.all_toList]
  induction o.after.toList with
  | nil => rfl
  | cons e r ih =>
    rw [List.all_cons, ih, List.filter_cons]
    cases h : Region.binds md e <;> simp
theorem needs_any (o : Oper) (p : Nat → Bool) : o.after.any (fun e => Region.binds md e && p e.on) = (needsOf md o).any p := by
  unfold needsOf
  rw [← Array.any_toList]
  induction o.after.toList with
  | nil => rfl
  | cons e r ih =>
    rw [List.any_cons, ih, List.filter_cons]
    cases h : Region.binds md e <;> simp
theorem rtab_length : (rtab md ops).2.length = ops.size := by simp [rtab]
theorem rtab_some {o : Oper} (h : ops[i]? = some o) : (rtab md ops).2[i]? = some (needsOf md o, clashOf md ops i o) := by
  have hi := (Array.getElem?_eq_some_iff.1 h).1
  unfold rtab
  rw [List.getElem?_map, List.getElem?_range hi, Option.map_some, h]
theorem rtab_none (h : ops[i]? = none) : (rtab md ops).2[i]? = none := by
  have hi : ops.size ≤ i := Array.getElem?_eq_none_iff.1 h
  exact List.getElem?_eq_none (by rw [rtab_length]; exact hi)
theorem readyAt_eq : readyAt (rtab md ops).2 l.toList i = (!l.getD i true && ((ops[i]?).map (·.after.all fun e => !Region.binds md e || l.getD e.on false)).getD false) := by
  unfold readyAt
  rw [gd]
  cases h : ops[i]? with
  | none => rw [rtab_none h]; rfl
  | some o =>
    rw [rtab_some h]
    simp only [Option.map_some, Option.getD_some]
    rw [← needs_all]
    simp only [gd]
theorem ready_eq : Region.ready md ops l = readyT (rtab md ops).2 l.toList := by
  unfold Region.ready readyT
  rw [rtab_length]
  refine List.filter_congr (fun i _ => ?_)
  rw [readyAt_eq]
theorem free_eq : Region.free md ops l i = freeT (rtab md ops).2 l.toList i := by
  unfold Region.free freeT
  cases h : ops[i]? with
  | none => rw [rtab_none h]
  | some oi =>
    rw [rtab_some h]
    simp only [clashOf]
    rw [List.all_filter]
    congr 1
    funext j
    rw [gd]
    cases hj : ops[j]? with
    | none => cases (j == i) <;> cases (l.toList.getD j true) <;> simp
    | some oj =>
      cases (j == i) <;> cases (l.toList.getD j true) <;> cases (oj.after.any (fun e => Region.binds md e && e.on == i) || oi.apart ops oj) <;> simp_all
theorem closed_eq : Region.closedB md ops l = closedT (rtab md ops).2 l.toList := by
  unfold Region.closedB closedT
  rw [rtab_length]
  congr 1
  funext j
  rw [gd]
  cases h : ops[j]? with
  | none => rw [rtab_none h]
  | some o =>
    rw [rtab_some h]
    simp only
    rw [← needs_all]
    simp only [gd]
theorem reach_eq : ∀ (fuel d : Nat), Region.reachB md ops i fuel d = reachT (rtab md ops).2 i fuel d
  | 0, _ => rfl
  | fuel + 1, d => by
    unfold Region.reachB reachT
    cases h : ops[d]? with
    | none => rw [rtab_none h]
    | some o =>
      rw [rtab_some h]
      simp only
      rw [← needs_any]
      congr 1
      funext e
      rw [reach_eq fuel]
theorem last_eq : Region.lastB md ops l ds i = lastT (rtab md ops).2 l.toList ds i := by
  unfold Region.lastB lastT
  rw [rtab_length]
  congr 1
  funext d
  rw [gd, reach_eq]
theorem readyAt_mem (h : readyAt T.2 l.toList i = true) (hT : rtab md ops = T) : (Region.ready md ops l).contains i = true := by
  subst hT
  rw [ready_eq]
  unfold readyT
  rw [List.contains_iff_mem, List.mem_filter, List.mem_range]
  refine ⟨?_, h⟩
  unfold readyAt at h
  rw [Bool.and_eq_true] at h
  cases hq : (rtab md ops).2[i]? with
  | none => rw [hq] at h; simp at h
  | some r => exact (List.getElem?_eq_some_iff.1 hq).1
theorem set_of (h : (l.toList.set i true == l'.toList) = true) : (l.setIfInBounds i true == l') = true := by
  rw [beq_iff_eq] at h ⊢
  apply Array.ext'
  rw [Array.toList_setIfInBounds]
  exact h
def anyT (T : Bool × List (List Nat × List Nat)) (l l' : List Bool) (i : Nat) : Bool := T.1 && freeT T.2 l i && readyAt T.2 l i && (l.set i true == l')
theorem any_of (hT : rtab md ops = T) (h : anyT T l.toList l'.toList i = true) : anyB md ops l l' i = true := by
  simp only [anyT, Bool.and_eq_true] at h
  obtain ⟨⟨⟨h1, h2⟩, h3⟩, h4⟩ := h
  have h5 := readyAt_mem h3 hT
  have h6 := set_of h4
  subst hT
  simp only [anyB, Bool.and_eq_true]
  exact ⟨⟨⟨h1, by rw [free_eq]; exact h2⟩, h5⟩, h6⟩
def takeT (T : Bool × List (List Nat × List Nat)) (ds : List Nat) (l l' : List Bool) (i : Nat) : Bool := T.1 && freeT T.2 l i && readyAt T.2 l i && closedT T.2 l && lastT T.2 l ds i && (l.set i true == l')
theorem take_of (hT : rtab md ops = T) (h : takeT T ds l.toList l'.toList i = true) : takeB md ops ds l l' i = true := by
  simp only [takeT, Bool.and_eq_true] at h
  obtain ⟨⟨⟨⟨⟨h1, h2⟩, h3⟩, h4⟩, h5⟩, h6⟩ := h
  have h7 := readyAt_mem h3 hT
  have h8 := set_of h6
  subst hT
  simp only [takeB, Bool.and_eq_true]
  exact ⟨⟨⟨⟨⟨h1, by rw [free_eq]; exact h2⟩, h7⟩, by rw [closed_eq]; exact h4⟩, by rw [last_eq]; exact h5⟩, h8⟩
theorem one_of (hT : rtab md ops = T) (h : (readyT T.2 l.toList == [i] && l.toList.set i true == l'.toList) = true) : readyB md ops l l' i = true := by
  simp only [Bool.and_eq_true] at h
  obtain ⟨h1, h2⟩ := h
  subst hT
  simp only [readyB, Bool.and_eq_true]
  exact ⟨by rw [ready_eq]; exact h1, set_of h2⟩
theorem done_of (hT : rtab md ops = T) (h : (readyT T.2 l.toList == []) = true) : (Region.ready md ops l == []) = true := by
  subst hT
  rw [ready_eq]
  exact h
def upM (B : List Nat) (d : Nat) : List Nat → Nat
  | [] => 0
  | n :: r => (2 ^ n ||| (if n < d then B.getD n 0 else 0)) ||| upM B d r
def waitsOk (T : List (List Nat × List Nat)) (B : List Nat) : Bool := (List.range T.length).all fun d => match T[d]? with
  | some r => (B.getD d 0 ||| upM B d r.1) == upM B d r.1
  | none => false
theorem upM_bit {B : List Nat} {d i : Nat} : ∀ {ns : List Nat}, (upM B d ns).testBit i = true → ∃ n ∈ ns, n = i ∨ (n < d ∧ (B.getD n 0).testBit i = true)
  | [], h => by simp [upM] at h
  | n :: r, h => by
    unfold upM at h
    rw [Nat.testBit_or, Nat.testBit_or, Bool.or_eq_true, Bool.or_eq_true] at h
    rcases h with (h | h) | h
    · rw [Nat.testBit_two_pow] at h
      exact ⟨n, List.mem_cons_self, .inl (by simpa using h)⟩
    · by_cases hn : n < d
      · rw [if_pos hn] at h
        exact ⟨n, List.mem_cons_self, .inr ⟨hn, h⟩⟩
      · rw [if_neg hn] at h
        simp at h
    · obtain ⟨m, hm, h2⟩ := upM_bit h
      exact ⟨m, List.mem_cons_of_mem _ hm, h2⟩
theorem reach_bit {T : List (List Nat × List Nat)} {B : List Nat} (hB : waitsOk T B = true) : ∀ (fuel d : Nat), d < fuel → d < T.length → (B.getD d 0).testBit i = true → reachT T i fuel d = true
  | 0, d, h, _, _ => by omega
  | fuel + 1, d, h, hd, hb => by
    have h1 := List.all_eq_true.1 hB d (List.mem_range.2 hd)
    cases hr : T[d]? with
    | none => rw [hr] at h1; simp at h1
    | some r =>
      rw [hr] at h1
      simp only [beq_iff_eq] at h1
      have h2 : (upM B d r.1).testBit i = true := by rw [← h1, Nat.testBit_or, hb, Bool.true_or]
      obtain ⟨n, hn, h3⟩ := upM_bit h2
      unfold reachT
      rw [hr]
      simp only
      rw [List.any_eq_true]
      refine ⟨n, hn, ?_⟩
      rcases h3 with rfl | ⟨h4, h5⟩
      · simp
      · rw [reach_bit hB fuel n (by omega) (by omega) h5, Bool.or_true]
def lastW (T : List (List Nat × List Nat)) (B : List Nat) (l : List Bool) (ds : List Nat) (i : Nat) : Bool := ds.all fun d => l.getD d true || (decide (d < T.length) && (B.getD d 0).testBit i)
def takeW (T : Bool × List (List Nat × List Nat)) (B : List Nat) (ds : List Nat) (l l' : List Bool) (i : Nat) : Bool := T.1 && freeT T.2 l i && readyAt T.2 l i && closedT T.2 l && lastW T.2 B l ds i && (l.set i true == l')
theorem take_ofW {B : List Nat} (hT : rtab md ops = T) (hB : waitsOk T.2 B = true) (h : takeW T B ds l.toList l'.toList i = true) : takeB md ops ds l l' i = true := by
  refine take_of hT ?_
  simp only [takeW, takeT, Bool.and_eq_true] at h ⊢
  obtain ⟨⟨⟨⟨⟨h1, h2⟩, h3⟩, h4⟩, h5⟩, h6⟩ := h
  refine ⟨⟨⟨⟨⟨h1, h2⟩, h3⟩, h4⟩, ?_⟩, h6⟩
  unfold lastW at h5
  unfold lastT
  rw [List.all_eq_true] at h5 ⊢
  intro d hd
  have h7 := h5 d hd
  rw [Bool.or_eq_true, Bool.and_eq_true, decide_eq_true_eq] at h7
  rcases h7 with h7 | ⟨h8, h9⟩
  · rw [h7, Bool.true_or]
  · rw [reach_bit hB _ d h8 h8 h9, Bool.or_true]
theorem with_tabW {P : Program} {Q : Exit → Act → World → Prop} {S : World → Prop} {n : Nat} {a : Act} {w : World} {B : List Nat} (hT : rtab md ops = T) (hB : waitsOk T.2 B = true) (h : Aside0 (rtab md ops = T) → Aside0 (waitsOk T.2 B = true) → wpAnyLast P md ops Q S ds n l a w) : wpAnyLast P md ops Q S ds n l a w := h ⟨hT⟩ ⟨hB⟩
end
def opsIn : Code → Nat → Option (Array Oper)
  | .region id ops _, k => if id == k then some ops else none
  | .seq a b, k => match opsIn a k with
    | some o => some o
    | none => opsIn b k
  | .cond _ a b, k => match opsIn a k with
    | some o => some o
    | none => opsIn b k
  | .block _ c, k => opsIn c k
  | .loop c, k => opsIn c k
  | .scope c, k => opsIn c k
  | .rangeFunc _ _ a b, k => match opsIn a k with
    | some o => some o
    | none => opsIn b k
  | _, _ => none
def opsOf (f : Func) (k : Nat) : Array Oper := ((f.body.bind fun c => opsIn c k)).getD #[]
end Go.Proofs.YtfhgomcfpmbhnaaW.PrintLast
end

section
namespace Go.Proofs.YtfhgomcfpmbhnaaW.PrintWords
theorem Reps.front {α : Type} {R : α → List Value → Prop} {size : Nat} {ps : List α} {cs c all : List Value} {p : α} (hp : R p c) (hc : c.length = size) (h : Reps R size ps cs) (ha : c ++ cs = all) : Reps R size (p :: ps) all := by
  subst ha
  refine ⟨by rw [List.length_append, hc, h.1, List.length_cons, Nat.succ_mul, Nat.add_comm], fun j q hq => ?_⟩
  cases j with
  | zero =>
    simp only [List.getElem?_cons_zero, Option.some.injEq] at hq
    subst hq
    rw [Nat.zero_mul, List.drop_zero, List.take_append_of_le_length (by omega), List.take_of_length_le (by omega)]
    exact hp
  | succ j =>
    simp only [List.getElem?_cons_succ] at hq
    have h1 := h.2 j q hq
    rw [Nat.succ_mul, List.drop_append, List.drop_of_length_le (by rw [hc]; exact Nat.le_add_left _ _), List.nil_append, hc, Nat.add_sub_cancel]
    exact h1
theorem Reps.c2 {α : Type} {R : α → List Value → Prop} {ps : List α} {cs : List Value} {p : α} {va vb : Value} (hp : R p [va, vb]) (h : Reps R 2 ps cs) : Reps R 2 (p :: ps) (va :: vb :: cs) := Reps.front hp rfl h rfl
theorem Reps.c3 {α : Type} {R : α → List Value → Prop} {ps : List α} {cs : List Value} {p : α} {va vb vc : Value} (hp : R p [va, vb, vc]) (h : Reps R 3 ps cs) : Reps R 3 (p :: ps) (va :: vb :: vc :: cs) := Reps.front hp rfl h rfl
theorem Reps.c4 {α : Type} {R : α → List Value → Prop} {ps : List α} {cs : List Value} {p : α} {va vb vc vd : Value} (hp : R p [va, vb, vc, vd]) (h : Reps R 4 ps cs) : Reps R 4 (p :: ps) (va :: vb :: vc :: vd :: cs) := Reps.front hp rfl h rfl
theorem Reps.c5 {α : Type} {R : α → List Value → Prop} {ps : List α} {cs : List Value} {p : α} {va vb vc vd ve : Value} (hp : R p [va, vb, vc, vd, ve]) (h : Reps R 5 ps cs) : Reps R 5 (p :: ps) (va :: vb :: vc :: vd :: ve :: cs) := Reps.front hp rfl h rfl
theorem Reps.c6 {α : Type} {R : α → List Value → Prop} {ps : List α} {cs : List Value} {p : α} {va vb vc vd ve vf : Value} (hp : R p [va, vb, vc, vd, ve, vf]) (h : Reps R 6 ps cs) : Reps R 6 (p :: ps) (va :: vb :: vc :: vd :: ve :: vf :: cs) := Reps.front hp rfl h rfl
theorem Reps.c7 {α : Type} {R : α → List Value → Prop} {ps : List α} {cs : List Value} {p : α} {va vb vc vd ve vf vg : Value} (hp : R p [va, vb, vc, vd, ve, vf, vg]) (h : Reps R 7 ps cs) : Reps R 7 (p :: ps) (va :: vb :: vc :: vd :: ve :: vf :: vg :: cs) := Reps.front hp rfl h rfl
theorem Reps.c8 {α : Type} {R : α → List Value → Prop} {ps : List α} {cs : List Value} {p : α} {va vb vc vd ve vf vg vh : Value} (hp : R p [va, vb, vc, vd, ve, vf, vg, vh]) (h : Reps R 8 ps cs) : Reps R 8 (p :: ps) (va :: vb :: vc :: vd :: ve :: vf :: vg :: vh :: cs) := Reps.front hp rfl h rfl
theorem Reps.c9 {α : Type} {R : α → List Value → Prop} {ps : List α} {cs : List Value} {p : α} {va vb vc vd ve vf vg vh vi : Value} (hp : R p [va, vb, vc, vd, ve, vf, vg, vh, vi]) (h : Reps R 9 ps cs) : Reps R 9 (p :: ps) (va :: vb :: vc :: vd :: ve :: vf :: vg :: vh :: vi :: cs) := Reps.front hp rfl h rfl
theorem Reps.c10 {α : Type} {R : α → List Value → Prop} {ps : List α} {cs : List Value} {p : α} {va vb vc vd ve vf vg vh vi vj : Value} (hp : R p [va, vb, vc, vd, ve, vf, vg, vh, vi, vj]) (h : Reps R 10 ps cs) : Reps R 10 (p :: ps) (va :: vb :: vc :: vd :: ve :: vf :: vg :: vh :: vi :: vj :: cs) := Reps.front hp rfl h rfl
end Go.Proofs.YtfhgomcfpmbhnaaW.PrintWords
end

section
namespace Go.Proofs.Ytfhgomcfpmbhnaa.PS
open Go.RowKit Go.Proofs.YtfhgomcfpmbhnaaW.PrintWords Go.Proofs.YtfhgomcfpmbhnaaW.PrintLast Go.Proofs.YtfhgomcfpmbhnaaW.PrintMore
attribute [local go_sem] frun_add frun_sub frun_mul frun_quo frun_neg frun_of frun_same frun_store frun_bits frun_from
attribute [local go_sem] max2_int min2_int max_two min_two max_three min_three max_four min_four
set_option linter.unusedVariables false
set_option linter.unusedSimpArgs false
def errW : Option Int → Value
  | none => .nilIface
  | some c => .iface 0 (.int .i64 c)
theorem errW_none : errW none = .nilIface := rfl
theorem errW_some (c : Int) : errW (some c) = .iface 0 (.int .i64 c) := rfl
theorem info2 : (Try.prog.info? 2).map (fun i => (i.zero, i.size, i.bytes)) = some (some (.int .i64 0), 1, 8) := by kernel_rfl
theorem info3 : (Try.prog.info? 3).map (fun i => (i.zero, i.size, i.bytes)) = some (some (.int .i64 0), 1, 8) := by kernel_rfl
theorem info9 : (Try.prog.info? 9).map (fun i => (i.zero, i.size, i.bytes)) = some (some (.string ⟨#[]⟩), 1, 16) := by kernel_rfl
theorem info38 : (Try.prog.info? 38).map (fun i => (i.zero, i.size, i.bytes)) = some (some (.agg #[(.int .i64 0), (.int .u32 0)]), 2, 16) := by kernel_rfl
theorem info58 : (Try.prog.info? 58).map (fun i => (i.zero, i.size, i.bytes)) = some (some (.agg #[(.int .i64 0), (.float .f32 0)]), 2, 16) := by kernel_rfl
structure S38 where
  f0 : Int
  f1 : Int
def z38 : S38 := ⟨(0 : Int), (0 : Int)⟩
def k38 : Kd S38 := Kd.iso (Kd.pair (Kd.int .i64) (Kd.int .u32)) (fun x : S38 => (x.f0, x.f1))
theorem k38_open {w : World} {x : S38} {cs : List Value} (h : k38.K w x cs) : cs = [.int .i64 x.f0, .int .u32 x.f1] := by
  obtain ⟨_, _, rfl, rfl, rfl⟩ := h
  exact rfl
theorem k38_openM {w : World} {base : Nat} {ok : Nat → Prop} {x : S38} {cs : List Value} (h : k38.M w base ok x cs) : cs = [.int .i64 x.f0, .int .u32 x.f1] := by
  obtain ⟨_, _, rfl, rfl, rfl⟩ := h
  exact rfl
theorem k38_mk (w : World) (x : S38)  : k38.K w x [.int .i64 x.f0, .int .u32 x.f1] := ⟨[.int .i64 x.f0], [.int .u32 x.f1], rfl, rfl, rfl⟩
theorem k38_mkM (w : World) (base : Nat) (ok : Nat → Prop) (x : S38)  : k38.M w base ok x [.int .i64 x.f0, .int .u32 x.f1] := ⟨[.int .i64 x.f0], [.int .u32 x.f1], rfl, rfl, rfl⟩
def rd_T38 (xs : List S38) (i : Int) : S38 := xs.getD i.toNat z38
theorem at_T38 {w : World} {A : Option Addr} {n : Nat} {xs : List S38} (h : Kd.C k38 w A n xs) (i : Int) (h0 : 0 ≤ i) (h1 : i < n) : ∃ ad , A = some ad ∧ w.cell? (ad.add (i.toNat * 2)) = some (.int .i64 (rd_T38 xs i).f0) ∧ w.cell? ⟨(ad.add (i.toNat * 2)).block, (ad.add (i.toNat * 2)).off + 1, none⟩ = some (.int .u32 (rd_T38 xs i).f1) := by
  obtain ⟨ad, c, e, _, hK, hc0⟩ := Kd.C_get h z38 i h0 h1
  have hc : ∀ j u, c[j]? = some u → w.cell? (ad.add (i.toNat * 2 + j)) = some u := hc0
  obtain rfl := k38_open hK
  exact ⟨ad, e, hc 0 _ rfl, by rw [← add_field _ _ 1 (by omega)]; exact hc 1 _ rfl⟩
structure S73 where
  f0 : Int
  f1 : Int
def z73 : S73 := ⟨(0 : Int), (0 : Int)⟩
def k73 : Kd S73 := Kd.iso (Kd.pair (Kd.int .i64) (Kd.int .u32)) (fun x : S73 => (x.f0, x.f1))
theorem k73_open {w : World} {x : S73} {cs : List Value} (h : k73.K w x cs) : cs = [.int .i64 x.f0, .int .u32 x.f1] := by
  obtain ⟨_, _, rfl, rfl, rfl⟩ := h
  exact rfl
theorem k73_openM {w : World} {base : Nat} {ok : Nat → Prop} {x : S73} {cs : List Value} (h : k73.M w base ok x cs) : cs = [.int .i64 x.f0, .int .u32 x.f1] := by
  obtain ⟨_, _, rfl, rfl, rfl⟩ := h
  exact rfl
theorem k73_mk (w : World) (x : S73)  : k73.K w x [.int .i64 x.f0, .int .u32 x.f1] := ⟨[.int .i64 x.f0], [.int .u32 x.f1], rfl, rfl, rfl⟩
theorem k73_mkM (w : World) (base : Nat) (ok : Nat → Prop) (x : S73)  : k73.M w base ok x [.int .i64 x.f0, .int .u32 x.f1] := ⟨[.int .i64 x.f0], [.int .u32 x.f1], rfl, rfl, rfl⟩
def rd_T73 (xs : List S73) (i : Int) : S73 := xs.getD i.toNat z73
theorem at_T73 {w : World} {A : Option Addr} {n : Nat} {xs : List S73} (h : Kd.C k73 w A n xs) (i : Int) (h0 : 0 ≤ i) (h1 : i < n) : ∃ ad , A = some ad ∧ w.cell? (ad.add (i.toNat * 2)) = some (.int .i64 (rd_T73 xs i).f0) ∧ w.cell? ⟨(ad.add (i.toNat * 2)).block, (ad.add (i.toNat * 2)).off + 1, none⟩ = some (.int .u32 (rd_T73 xs i).f1) := by
  obtain ⟨ad, c, e, _, hK, hc0⟩ := Kd.C_get h z73 i h0 h1
  have hc : ∀ j u, c[j]? = some u → w.cell? (ad.add (i.toNat * 2 + j)) = some u := hc0
  obtain rfl := k73_open hK
  exact ⟨ad, e, hc 0 _ rfl, by rw [← add_field _ _ 1 (by omega)]; exact hc 1 _ rfl⟩
structure S58 where
  f0 : Int
  f1 : Nat
def z58 : S58 := ⟨(0 : Int), (0 : Nat)⟩
def k58 : Kd S58 := Kd.iso (Kd.pair (Kd.int .i64) Kd.f32) (fun x : S58 => (x.f0, x.f1))
theorem k58_open {w : World} {x : S58} {cs : List Value} (h : k58.K w x cs) : cs = [.int .i64 x.f0, .float .f32 x.f1] := by
  obtain ⟨_, _, rfl, rfl, rfl⟩ := h
  exact rfl
theorem k58_openM {w : World} {base : Nat} {ok : Nat → Prop} {x : S58} {cs : List Value} (h : k58.M w base ok x cs) : cs = [.int .i64 x.f0, .float .f32 x.f1] := by
  obtain ⟨_, _, rfl, rfl, rfl⟩ := h
  exact rfl
theorem k58_mk (w : World) (x : S58)  : k58.K w x [.int .i64 x.f0, .float .f32 x.f1] := ⟨[.int .i64 x.f0], [.float .f32 x.f1], rfl, rfl, rfl⟩
theorem k58_mkM (w : World) (base : Nat) (ok : Nat → Prop) (x : S58)  : k58.M w base ok x [.int .i64 x.f0, .float .f32 x.f1] := ⟨[.int .i64 x.f0], [.float .f32 x.f1], rfl, rfl, rfl⟩
def rd_T58 (xs : List S58) (i : Int) : S58 := xs.getD i.toNat z58
theorem at_T58 {w : World} {A : Option Addr} {n : Nat} {xs : List S58} (h : Kd.C k58 w A n xs) (i : Int) (h0 : 0 ≤ i) (h1 : i < n) : ∃ ad , A = some ad ∧ w.cell? (ad.add (i.toNat * 2)) = some (.int .i64 (rd_T58 xs i).f0) ∧ w.cell? ⟨(ad.add (i.toNat * 2)).block, (ad.add (i.toNat * 2)).off + 1, none⟩ = some (.float .f32 (rd_T58 xs i).f1) := by
  obtain ⟨ad, c, e, _, hK, hc0⟩ := Kd.C_get h z58 i h0 h1
  have hc : ∀ j u, c[j]? = some u → w.cell? (ad.add (i.toNat * 2 + j)) = some u := hc0
  obtain rfl := k58_open hK
  exact ⟨ad, e, hc 0 _ rfl, by rw [← add_field _ _ 1 (by omega)]; exact hc 1 _ rfl⟩
end Go.Proofs.Ytfhgomcfpmbhnaa.PS
end

section
namespace Go.Proofs.Ytfhgomcfpmbhnaa.PS
open Go.RowKit Go.Proofs.YtfhgomcfpmbhnaaW.PrintWords Go.Proofs.YtfhgomcfpmbhnaaW.PrintLast Go.Proofs.YtfhgomcfpmbhnaaW.PrintMore
attribute [local go_sem] frun_add frun_sub frun_mul frun_quo frun_neg frun_of frun_same frun_store frun_bits frun_from
attribute [local go_sem] max2_int min2_int max_two min_two max_three min_three max_four min_four
set_option linter.unusedVariables false
set_option linter.unusedSimpArgs false
def levyref17_bits.l0 : Nat → Int → Int → Option (Int)
 | 0, _, _ => none
 | k + 1, x0, x3 => if x0 > 0 then (levyref17_bits.l0 k (IntKind.u64.wrap (Int.tdiv x0 2)) (wrap64 (x3 + 1))) else (some x3)
def levyref17_bits.f (k : Nat) (a0 : Int) : Option (Int) := levyref17_bits.l0 k a0 0
theorem levyref17_bits.mono_l : ∀ k, (∀ y0 y1, LeO (levyref17_bits.l0 k y0 y1) (levyref17_bits.l0 (k + 1) y0 y1))
 | 0 => fun _ _ r h => by simp [levyref17_bits.l0] at h
 | k + 1 => by
  have ih0 := levyref17_bits.mono_l k
  ·intro y0 y1
   unfold levyref17_bits.l0
   repeat' first
   | (with_reducible exact ih0 _ _)
   | (with_reducible exact LeO.refl _)
   | (with_reducible exact LeO.none _)
   | (with_reducible refine LeO.ite ?_ ?_)
   | (with_reducible refine LeO.bind ?_ (fun _ => ?_))
   | exact ih0 _ _
   | exact LeO.none _
   | refine LeO.ite ?_ ?_
   | refine LeO.bind ?_ (fun _ => ?_)
theorem levyref17_bits.mono : ∀ a0 k, LeO (levyref17_bits.f k a0) (levyref17_bits.f (k + 1) a0) := by
 intro a0 k
 have ih0 := levyref17_bits.mono_l k
 unfold levyref17_bits.f
 repeat' first
   | (with_reducible exact ih0 _ _)
   | (with_reducible exact LeO.refl _)
   | (with_reducible exact LeO.none _)
   | (with_reducible refine LeO.ite ?_ ?_)
   | (with_reducible refine LeO.bind ?_ (fun _ => ?_))
   | exact ih0 _ _
   | exact LeO.none _
   | refine LeO.ite ?_ ?_
   | refine LeO.bind ?_ (fun _ => ?_)
set_option maxHeartbeats 8000000 in
set_option maxRecDepth 100000 in
theorem levyref17_bits.calls (k : Nat) (a0 : Int) (r : Int) (w : World) (h : levyref17_bits.f k a0 = some r) :
  Calls Try.prog 52 #[.int .u64 a0] w fun e w' => e = .returned (.int .i64 r) ∧ Drawn0 w w' := by
 have H : (levyref17_bits.l0 k a0 0) = some r := h
 clear h
 have H' := Aside0.mk H
 clear H
 go_enter Try.func52, Try.ntmps52
 go_wp2
 go_loopg [0, 3] k (fun kq v0 v3 w' => ∃ (x0_1 : Int) (x3_1 : Int), v0 = .int .u64 x0_1 ∧ v3 = .int .i64 x3_1 ∧ Aside0 (levyref17_bits.l0 kq x0_1 x3_1 = some r) ∧ Aside0 (kq ≤ k) ∧ Drawn0 w w')
 case atStart => exact ⟨(a0), (0), (by first | rfl | (simp; done) | (simp [*]; done)), (by first | rfl | (simp; done) | (simp [*]; done)), H', ⟨Nat.le_refl _⟩, by repeat (first | exact Drawn0.refl _ | apply Drawn0.step)⟩
 case round =>
  clear H'
  obtain ⟨x0_1, x3_1, rfl, rfl, HA, HK1, ⟨m1, rfl⟩⟩ := hrel
  cases gk with
  | zero => exact absurd HA.out (by simp [levyref17_bits.l0])
  | succ k1 =>
   have H := HA.out
   clear HA
   simp only [levyref17_bits.l0] at H
   by_cases c2 : x0_1 > 0
   ·rw [if_pos c2] at H
    have c2b0 : decide (0 < x0_1) = true := decide_eq_true c2
    clear c2
    have H' := Aside0.mk H
    clear H
    go_wp2
    go_roundg k1
    case measure => have := HK1.out; omega
    case rel => exact ⟨(IntKind.u64.wrap (Int.tdiv x0_1 2)), (wrap64 (x3_1 + 1)), (by first | rfl | (simp; done) | (simp [*]; done)), (by first | rfl | (simp; done) | (simp [*]; done)), H', ⟨by have := HK1.out; omega⟩, by repeat (first | exact Drawn0.refl _ | apply Drawn0.step)⟩
   ·rw [if_neg c2] at H
    have c2b0 : decide (0 < x0_1) = false := decide_eq_false c2
    clear c2
    obtain rfl := Option.some.inj H
    go_wp2
    go_ret
    exact ⟨by first | rfl | (simp; done) | (simp [*]; done), by repeat (first | exact Drawn0.refl _ | apply Drawn0.step)⟩
end Go.Proofs.Ytfhgomcfpmbhnaa.PS
end

section
namespace Go.Proofs.Ytfhgomcfpmbhnaa.PS
open Go.RowKit Go.Proofs.YtfhgomcfpmbhnaaW.PrintWords Go.Proofs.YtfhgomcfpmbhnaaW.PrintLast Go.Proofs.YtfhgomcfpmbhnaaW.PrintMore
attribute [local go_sem] frun_add frun_sub frun_mul frun_quo frun_neg frun_of frun_same frun_store frun_bits frun_from
attribute [local go_sem] max2_int min2_int max_two min_two max_three min_three max_four min_four
set_option linter.unusedVariables false
set_option linter.unusedSimpArgs false
def levyref17_signed.f (a0 : Bool) (a1 : Int) : Option (Int) := if a0 = true then (some ((a1 + 2147483648) % 4294967296)) else (some a1)
set_option maxHeartbeats 8000000 in
set_option maxRecDepth 100000 in
theorem levyref17_signed.calls (a0 : Bool) (a1 : Int) (r : Int) (w : World) (h : levyref17_signed.f a0 a1 = some r) :
  Calls Try.prog 53 #[.bool a0, .int .u32 a1] w fun e w' => e = .returned (.int .u32 r) ∧ Drawn0 w w' := by
 have H : (if a0 = true then (some ((a1 + 2147483648) % 4294967296)) else (some a1)) = some r := h
 clear h
 by_cases c3 : a0 = true
 ·subst c3
  have H1 : (some ((a1 + 2147483648) % 4294967296)) = some r := by rw [if_pos rfl] at H; exact H
  clear H
  have H := H1
  clear H1
  obtain rfl := Option.some.inj H
  go_enter Try.func53, Try.ntmps53
  go_wp2
  go_ret
  exact ⟨by first | rfl | (simp; done) | (simp [*]; done), by repeat (first | exact Drawn0.refl _ | apply Drawn0.step)⟩
 ·replace c3 := Bool.eq_false_iff.mpr c3
  subst c3
  have H1 : (some a1) = some r := by rw [if_neg (show ¬ (false = true) by decide)] at H; exact H
  clear H
  have H := H1
  clear H1
  obtain rfl := Option.some.inj H
  go_enter Try.func53, Try.ntmps53
  go_wp2
  go_ret
  exact ⟨by first | rfl | (simp; done) | (simp [*]; done), by repeat (first | exact Drawn0.refl _ | apply Drawn0.step)⟩
end Go.Proofs.Ytfhgomcfpmbhnaa.PS
end

section
namespace Go.Proofs.Ytfhgomcfpmbhnaa.Y
open Go.RowKit Go.Proofs.Ytfhgomcfpmbhnaa.PS Go.Proofs.YtfhgomcfpmbhnaaW.PrintWords
set_option linter.unusedVariables false
def sgS (minus : Bool) (b : Int) : Int := if minus then b + 2147483648 else b
def shS (n e : Int) : Int := if e + (n - 24) < -149 then -149 - e else n - 24
def upS (m P : Int) (more : Bool) : Bool := decide (P / 2 < m % P) || (m % P == P / 2 && (more || (m / P) % 2 == 1))
def m1S (m s : Int) (more : Bool) : Int := if 0 < s then m / 2 ^ s.toNat + (if upS m (2 ^ s.toNat) more then 1 else 0) else m * 2 ^ (-s).toNat
def fS (minus : Bool) (m e : Int) : Int := if m < 8388608 then sgS minus m else if e + 150 ≥ 255 then sgS minus 2139095040 else sgS minus ((e + 150) * 8388608 + (m - 8388608))
def gS (minus : Bool) (m e : Int) : Int := if m = 16777216 then fS minus 8388608 (e + 1) else fS minus m e
def rrS (minus : Bool) (m e n : Int) (more : Bool) : Int := if n < shS n e then sgS minus 0 else gS minus (m1S m (shS n e) more) (e + shS n e)
theorem signed_any (minus : Bool) (b : Int) (w : World) (h0 : 0 ≤ b) (h1 : b < 2147483648) : Calls Try.prog 53 #[.bool minus, .int .u32 b] w fun e w' => e = .returned (.int .u32 (sgS minus b)) ∧ Drawn0 w w' := by
  refine levyref17_signed.calls minus b (sgS minus b) w ?_
  unfold levyref17_signed.f sgS
  cases minus <;> simp
  omega
theorem pow_small (s : Int) (h0 : 0 < s) (h1 : s ≤ 63) : 2 ≤ (2 : Int) ^ s.toNat ∧ (2 : Int) ^ s.toNat ≤ 9223372036854775808 := by
  obtain ⟨n, rfl⟩ := Int.eq_ofNat_of_zero_le (by omega : 0 ≤ s)
  have h2 : n ≤ 63 := by omega
  have h3 : 1 ≤ n := by omega
  simp only [Int.toNat_natCast]
  have e : (2 : Int) ^ n = ((2 ^ n : Nat) : Int) := by simp
  have a := Nat.pow_le_pow_right (by decide : 0 < 2) h3
  have b := Nat.pow_le_pow_right (by decide : 0 < 2) h2
  rw [e]
  generalize 2 ^ n = z at a b ⊢
  omega
theorem u64_id (x : Int) (h0 : 0 ≤ x) (h1 : x ≤ 18446744073709551615) : IntKind.u64.wrap x = x := by
  have : IntKind.u64.wrap x = x % 18446744073709551616 := rfl
  omega
theorem ret_u32 {a b : Int} (h : a = b) : Ending.returned (.int .u32 a) = Ending.returned (.int .u32 b) := by rw [h]
set_option maxRecDepth 100000 in
set_option maxHeartbeats 16000000 in
theorem rounded_calls (minus more : Bool) (m e n : Int) (w : World) (h0 : 0 ≤ m) (h1 : m ≤ 9223372036854775808) (e0 : -400 ≤ e) (e1 : e ≤ 400) (n0 : 0 ≤ n) (n1 : n ≤ 64) (hn63 : n ≤ 63 ∨ -200 ≤ e)
    (hm : n ≤ 24 → ∀ j : Nat, (j : Int) ≤ 24 - n → m * 2 ^ j ≤ 16777216) (hP : ∀ s : Int, 0 < s → n - 24 ≤ s → m / 2 ^ s.toNat < 16777216)
    (hb : ∀ W, Calls Try.prog 52 #[.int .u64 m] W fun e w' => e = .returned (.int .i64 n) ∧ Drawn0 W w') :
    Calls Try.prog 34 #[.bool minus, .int .u64 m, .int .i64 e, .bool more] w fun e' w' => e' = .returned (.int .u32 (rrS minus m e n more)) ∧ Drawn0 w w' := by
  have HM := Aside0.mk hm
  have HP := Aside0.mk hP
  have HN := Aside0.mk hn63
  clear hm hP hn63
  by_cases c : e + (n - 24) < -149
  · have cb : decide (e + (n - 24) < -149) = true := decide_eq_true c
    have hs : shS n e = -149 - e := if_pos c
    have hs1 : n - 24 ≤ -149 - e := by omega
    have hs2 : -149 ≤ e + (-149 - e) := by omega
    by_cases c1 : n < -149 - e
    · have c1b : decide (n < -149 - e) = true := decide_eq_true c1
      have HR := Aside0.mk (show rrS minus m e n more = sgS minus 0 by unfold rrS; rw [hs, if_pos c1])
      clear hs c
      go_enter Try.func34, Try.ntmps34
      go_wp2_with (first | (go_at_call 52; refine (hb _).mono ?_; rintro e w1 ⟨rfl, ⟨nd, rfl⟩⟩) | (go_at_call 53; refine (signed_any minus _ _ ?h0 ?h1).mono ?_; (case h0 => omega); (case h1 => omega); rintro e w2 ⟨rfl, ⟨nd2, rfl⟩⟩))
      go_ret
      exact ⟨ret_u32 ((congrArg (sgS minus) (by omega)).trans HR.out.symm), by repeat (first | exact Drawn0.refl _ | apply Drawn0.step)⟩
    · have c1b : decide (n < -149 - e) = false := decide_eq_false c1
      obtain ⟨m1, hm1⟩ : ∃ m1, m1S m (-149 - e) more = m1 := ⟨_, rfl⟩
      have hr : rrS minus m e n more = gS minus m1 (e + (-149 - e)) := by unfold rrS; rw [hs, if_neg c1, hm1]
      have HG := Aside0.mk hr
      clear hs hr
      unfold m1S at hm1
      by_cases c2 : 0 < -149 - e
      · have c2b : decide (0 < -149 - e) = true := decide_eq_true c2
        have c2d : decide (e < -149) = true := decide_eq_true (by omega)
        have hn63 := HN.out
        have hS63 : -149 - e ≤ 63 := by omega
        clear hn63
        obtain ⟨P0, P1⟩ := pow_small (-149 - e) c2 (by omega)
        have hq0 := HP.out (-149 - e) c2 (by omega)
        have hS0 : 0 ≤ -149 - e := by omega
        have hS64 : -149 - e < 64 := by omega
        rw [if_pos c2] at hm1
        obtain ⟨P, hP⟩ : ∃ P : Int, 2 ^ (-149 - e).toNat = P := ⟨_, rfl⟩
        rw [hP] at P0 P1 hm1 hq0
        have hone : IntKind.u64.wrap (2 ^ (-149 - e).toNat) = P := by rw [hP]; exact u64_id _ (by omega) (by omega)
        have hone2 : IntKind.u64.wrap (2 ^ min (-149 - e).toNat 64) = P := by rw [Nat.min_eq_left (by omega)]; exact hone
        obtain ⟨q, hq⟩ : ∃ q, m / P = q := ⟨_, rfl⟩
        obtain ⟨r, hrr⟩ : ∃ r, m % P = r := ⟨_, rfl⟩
        have q0 : 0 ≤ q := by rw [← hq]; exact Int.ediv_nonneg h0 (by omega)
        have r0 : 0 ≤ r := by rw [← hrr]; exact Int.emod_nonneg _ (by omega)
        rw [hq] at hq0 hm1
        unfold upS at hm1
        rw [hq, hrr] at hm1
        have m10 : 0 ≤ m1 := by rw [← hm1]; split <;> omega
        have m11 : m1 ≤ 16777216 := by rw [← hm1]; split <;> omega
        have HM1 := Aside0.mk hm1
        clear hP c c2 hm1
        cases more with
        | true =>
          go_enter Try.func34, Try.ntmps34
          go_upto_if 29 with (first | (go_at_call 52; refine (hb _).mono ?_; rintro e w1 ⟨rfl, ⟨nd, rfl⟩⟩))
          go_cut [1] (fun v1 wc => v1 = .int .u64 m1 ∧ Drawn0 w wc)
          case first =>
            have hm1 := HM1.out
            by_cases u1 : P / 2 < r
            · have u1b : decide (P / 2 < r) = true := decide_eq_true u1
              have HV := Aside0.mk (congrArg (Value.int .u64) (show q + 1 = m1 by rw [← hm1]; simp [u1]))
              clear hm1
              go_wp2
              go_meet
              case rel => exact ⟨HV.out, by repeat (first | exact Drawn0.refl _ | apply Drawn0.step)⟩
            · have u1b : decide (P / 2 < r) = false := decide_eq_false u1
              by_cases u2 : r = P / 2
              · have u2b : (r == P / 2) = true := beq_iff_eq.mpr u2
                have HV := Aside0.mk (congrArg (Value.int .u64) (show q + 1 = m1 by rw [← hm1]; simp [u1b, u2b]))
                clear hm1
                clear u2
                go_wp2
                go_meet
                case rel => exact ⟨HV.out, by repeat (first | exact Drawn0.refl _ | apply Drawn0.step)⟩
              · have u2b : (r == P / 2) = false := beq_eq_false_iff_ne.mpr u2
                have HV := Aside0.mk (congrArg (Value.int .u64) (show q = m1 by rw [← hm1]; simp [u1b, u2b]))
                clear hm1
                clear u2
                go_wp2
                go_meet
                case rel => exact ⟨HV.out, by repeat (first | exact Drawn0.refl _ | apply Drawn0.step)⟩
          case rest =>
            obtain ⟨rfl, ⟨mc6, rfl⟩⟩ := hcut
            clear hq hrr hone hone2 q0 r0 hq0 P0 P1 h0 h1 hs1
            by_cases d1 : m1 = 16777216
            · have d1b : (m1 == 16777216) = true := beq_iff_eq.mpr d1
              by_cases d3 : e + (-149 - e) + 1 + 150 ≥ 255
              · have d3b : decide (255 ≤ e + (-149 - e) + 1 + 150) = true := decide_eq_true d3
                have HR := Aside0.mk (HG.out.trans (by unfold gS fS; rw [if_pos d1, if_neg (by decide), if_pos d3]))
                clear d1 d3
                go_wp2_with (first | (go_at_call 53; refine (signed_any minus _ _ ?h0 ?h1).mono ?_; (case h0 => omega); (case h1 => omega); rintro e w2 ⟨rfl, ⟨nd2, rfl⟩⟩))
                go_ret
                exact ⟨ret_u32 ((congrArg (sgS minus) (by omega)).trans HR.out.symm), by repeat (first | exact Drawn0.refl _ | apply Drawn0.step)⟩
              · have d3b : decide (255 ≤ e + (-149 - e) + 1 + 150) = false := decide_eq_false (by omega)
                have HR := Aside0.mk (HG.out.trans (by unfold gS fS; rw [if_pos d1, if_neg (by decide), if_neg d3]))
                clear d1
                have d3' : e + (-149 - e) + 1 + 150 < 255 := by omega
                clear d3
                go_wp2_with (first | (go_at_call 53; refine (signed_any minus _ _ ?h0 ?h1).mono ?_; (case h0 => omega); (case h1 => omega); rintro e w2 ⟨rfl, ⟨nd2, rfl⟩⟩))
                go_ret
                exact ⟨ret_u32 ((congrArg (sgS minus) (by omega)).trans HR.out.symm), by repeat (first | exact Drawn0.refl _ | apply Drawn0.step)⟩
            · have d1b : (m1 == 16777216) = false := beq_eq_false_iff_ne.mpr d1
              by_cases d2 : m1 < 8388608
              · have d2b : decide (m1 < 8388608) = true := decide_eq_true d2
                have HR := Aside0.mk (HG.out.trans (by unfold gS fS; rw [if_neg d1, if_pos d2]))
                clear d1
                go_wp2_with (first | (go_at_call 53; refine (signed_any minus _ _ ?h0 ?h1).mono ?_; (case h0 => omega); (case h1 => omega); rintro e w2 ⟨rfl, ⟨nd2, rfl⟩⟩))
                go_ret
                exact ⟨ret_u32 ((congrArg (sgS minus) (by omega)).trans HR.out.symm), by repeat (first | exact Drawn0.refl _ | apply Drawn0.step)⟩
              · have d2b : decide (m1 < 8388608) = false := decide_eq_false d2
                by_cases d3 : e + (-149 - e) + 150 ≥ 255
                · have d3b : decide (255 ≤ e + (-149 - e) + 150) = true := decide_eq_true d3
                  have HR := Aside0.mk (HG.out.trans (by unfold gS fS; rw [if_neg d1, if_neg d2, if_pos d3]))
                  have d2' : 8388608 ≤ m1 := by omega
                  have d1' : m1 < 16777216 := by omega
                  clear d1 d2 d3
                  go_wp2_with (first | (go_at_call 53; refine (signed_any minus _ _ ?h0 ?h1).mono ?_; (case h0 => omega); (case h1 => omega); rintro e w2 ⟨rfl, ⟨nd2, rfl⟩⟩))
                  go_ret
                  exact ⟨ret_u32 ((congrArg (sgS minus) (by omega)).trans HR.out.symm), by repeat (first | exact Drawn0.refl _ | apply Drawn0.step)⟩
                · have d3b : decide (255 ≤ e + (-149 - e) + 150) = false := decide_eq_false (by omega)
                  have HR := Aside0.mk (HG.out.trans (by unfold gS fS; rw [if_neg d1, if_neg d2, if_neg d3]))
                  have d2' : 8388608 ≤ m1 := by omega
                  have d1' : m1 < 16777216 := by omega
                  clear d1 d2
                  have d3' : e + (-149 - e) + 150 < 255 := by omega
                  clear d3
                  go_wp2_with (first | (go_at_call 53; refine (signed_any minus _ _ ?h0 ?h1).mono ?_; (case h0 => omega); (case h1 => omega); rintro e w2 ⟨rfl, ⟨nd2, rfl⟩⟩))
                  go_ret
                  exact ⟨ret_u32 ((congrArg (sgS minus) (by omega)).trans HR.out.symm), by repeat (first | exact Drawn0.refl _ | apply Drawn0.step)⟩
        | false =>
          go_enter Try.func34, Try.ntmps34
          go_upto_if 29 with (first | (go_at_call 52; refine (hb _).mono ?_; rintro e w1 ⟨rfl, ⟨nd, rfl⟩⟩))
          go_cut [1] (fun v1 wc => v1 = .int .u64 m1 ∧ Drawn0 w wc)
          case first =>
            have hm1 := HM1.out
            by_cases u1 : P / 2 < r
            · have u1b : decide (P / 2 < r) = true := decide_eq_true u1
              have HV := Aside0.mk (congrArg (Value.int .u64) (show q + 1 = m1 by rw [← hm1]; simp [u1]))
              clear hm1
              go_wp2
              go_meet
              case rel => exact ⟨HV.out, by repeat (first | exact Drawn0.refl _ | apply Drawn0.step)⟩
            · have u1b : decide (P / 2 < r) = false := decide_eq_false u1
              by_cases u2 : r = P / 2
              · have u2b : (r == P / 2) = true := beq_iff_eq.mpr u2
                by_cases u3 : q % 2 = 1
                · have u3b : (q % 2 == 1) = true := beq_iff_eq.mpr u3
                  have HV := Aside0.mk (congrArg (Value.int .u64) (show q + 1 = m1 by rw [← hm1]; simp [u1b, u2b, u3b]))
                  clear hm1
                  clear u2 u3
                  go_wp2
                  go_meet
                  case rel => exact ⟨HV.out, by repeat (first | exact Drawn0.refl _ | apply Drawn0.step)⟩
                · have u3b : (q % 2 == 1) = false := beq_eq_false_iff_ne.mpr u3
                  have HV := Aside0.mk (congrArg (Value.int .u64) (show q = m1 by rw [← hm1]; simp [u1b, u2b, u3b]))
                  clear hm1
                  clear u2 u3
                  go_wp2
                  go_meet
                  case rel => exact ⟨HV.out, by repeat (first | exact Drawn0.refl _ | apply Drawn0.step)⟩
              · have u2b : (r == P / 2) = false := beq_eq_false_iff_ne.mpr u2
                have HV := Aside0.mk (congrArg (Value.int .u64) (show q = m1 by rw [← hm1]; simp [u1b, u2b]))
                clear hm1
                clear u2
                go_wp2
                go_meet
                case rel => exact ⟨HV.out, by repeat (first | exact Drawn0.refl _ | apply Drawn0.step)⟩
          case rest =>
            obtain ⟨rfl, ⟨mc6, rfl⟩⟩ := hcut
            clear hq hrr hone hone2 q0 r0 hq0 P0 P1 h0 h1 hs1
            by_cases d1 : m1 = 16777216
            · have d1b : (m1 == 16777216) = true := beq_iff_eq.mpr d1
              by_cases d3 : e + (-149 - e) + 1 + 150 ≥ 255
              · have d3b : decide (255 ≤ e + (-149 - e) + 1 + 150) = true := decide_eq_true d3
                have HR := Aside0.mk (HG.out.trans (by unfold gS fS; rw [if_pos d1, if_neg (by decide), if_pos d3]))
                clear d1 d3
                go_wp2_with (first | (go_at_call 53; refine (signed_any minus _ _ ?h0 ?h1).mono ?_; (case h0 => omega); (case h1 => omega); rintro e w2 ⟨rfl, ⟨nd2, rfl⟩⟩))
                go_ret
                exact ⟨ret_u32 ((congrArg (sgS minus) (by omega)).trans HR.out.symm), by repeat (first | exact Drawn0.refl _ | apply Drawn0.step)⟩
              · have d3b : decide (255 ≤ e + (-149 - e) + 1 + 150) = false := decide_eq_false (by omega)
                have HR := Aside0.mk (HG.out.trans (by unfold gS fS; rw [if_pos d1, if_neg (by decide), if_neg d3]))
                clear d1
                have d3' : e + (-149 - e) + 1 + 150 < 255 := by omega
                clear d3
                go_wp2_with (first | (go_at_call 53; refine (signed_any minus _ _ ?h0 ?h1).mono ?_; (case h0 => omega); (case h1 => omega); rintro e w2 ⟨rfl, ⟨nd2, rfl⟩⟩))
                go_ret
                exact ⟨ret_u32 ((congrArg (sgS minus) (by omega)).trans HR.out.symm), by repeat (first | exact Drawn0.refl _ | apply Drawn0.step)⟩
            · have d1b : (m1 == 16777216) = false := beq_eq_false_iff_ne.mpr d1
              by_cases d2 : m1 < 8388608
              · have d2b : decide (m1 < 8388608) = true := decide_eq_true d2
                have HR := Aside0.mk (HG.out.trans (by unfold gS fS; rw [if_neg d1, if_pos d2]))
                clear d1
                go_wp2_with (first | (go_at_call 53; refine (signed_any minus _ _ ?h0 ?h1).mono ?_; (case h0 => omega); (case h1 => omega); rintro e w2 ⟨rfl, ⟨nd2, rfl⟩⟩))
                go_ret
                exact ⟨ret_u32 ((congrArg (sgS minus) (by omega)).trans HR.out.symm), by repeat (first | exact Drawn0.refl _ | apply Drawn0.step)⟩
              · have d2b : decide (m1 < 8388608) = false := decide_eq_false d2
                by_cases d3 : e + (-149 - e) + 150 ≥ 255
                · have d3b : decide (255 ≤ e + (-149 - e) + 150) = true := decide_eq_true d3
                  have HR := Aside0.mk (HG.out.trans (by unfold gS fS; rw [if_neg d1, if_neg d2, if_pos d3]))
                  have d2' : 8388608 ≤ m1 := by omega
                  have d1' : m1 < 16777216 := by omega
                  clear d1 d2 d3
                  go_wp2_with (first | (go_at_call 53; refine (signed_any minus _ _ ?h0 ?h1).mono ?_; (case h0 => omega); (case h1 => omega); rintro e w2 ⟨rfl, ⟨nd2, rfl⟩⟩))
                  go_ret
                  exact ⟨ret_u32 ((congrArg (sgS minus) (by omega)).trans HR.out.symm), by repeat (first | exact Drawn0.refl _ | apply Drawn0.step)⟩
                · have d3b : decide (255 ≤ e + (-149 - e) + 150) = false := decide_eq_false (by omega)
                  have HR := Aside0.mk (HG.out.trans (by unfold gS fS; rw [if_neg d1, if_neg d2, if_neg d3]))
                  have d2' : 8388608 ≤ m1 := by omega
                  have d1' : m1 < 16777216 := by omega
                  clear d1 d2
                  have d3' : e + (-149 - e) + 150 < 255 := by omega
                  clear d3
                  go_wp2_with (first | (go_at_call 53; refine (signed_any minus _ _ ?h0 ?h1).mono ?_; (case h0 => omega); (case h1 => omega); rintro e w2 ⟨rfl, ⟨nd2, rfl⟩⟩))
                  go_ret
                  exact ⟨ret_u32 ((congrArg (sgS minus) (by omega)).trans HR.out.symm), by repeat (first | exact Drawn0.refl _ | apply Drawn0.step)⟩
      · have c2b : decide (0 < -149 - e) = false := decide_eq_false c2
        have c2d : decide (e < -149) = false := decide_eq_false (by omega)
        have hz0 := HM.out (by omega) (-(-149 - e)).toNat (by omega)
        rw [if_neg c2] at hm1
        rw [hm1] at hz0
        have m10 : 0 ≤ m1 := by rw [← hm1]; exact Int.mul_nonneg h0 (Int.pow_nonneg (by decide))
        have hone : IntKind.u64.wrap (m * 2 ^ (-(-149 - e)).toNat) = m1 := by rw [hm1]; exact u64_id _ (by omega) (by omega)
        clear hm1 c
        go_enter Try.func34, Try.ntmps34
        go_upto_if 29 with (first | (go_at_call 52; refine (hb _).mono ?_; rintro e w1 ⟨rfl, ⟨nd, rfl⟩⟩))
        go_cut [1] (fun v1 wc => v1 = .int .u64 m1 ∧ Drawn0 w wc)
        case first =>
          go_wp2
          go_meet
          case rel => exact ⟨rfl, by repeat (first | exact Drawn0.refl _ | apply Drawn0.step)⟩
        case rest =>
          obtain ⟨rfl, ⟨mc6, rfl⟩⟩ := hcut
          clear hone h0 h1 hs1
          by_cases d1 : m1 = 16777216
          · have d1b : (m1 == 16777216) = true := beq_iff_eq.mpr d1
            by_cases d3 : e + (-149 - e) + 1 + 150 ≥ 255
            · have d3b : decide (255 ≤ e + (-149 - e) + 1 + 150) = true := decide_eq_true d3
              have HR := Aside0.mk (HG.out.trans (by unfold gS fS; rw [if_pos d1, if_neg (by decide), if_pos d3]))
              clear d1 d3
              go_wp2_with (first | (go_at_call 53; refine (signed_any minus _ _ ?h0 ?h1).mono ?_; (case h0 => omega); (case h1 => omega); rintro e w2 ⟨rfl, ⟨nd2, rfl⟩⟩))
              go_ret
              exact ⟨ret_u32 ((congrArg (sgS minus) (by omega)).trans HR.out.symm), by repeat (first | exact Drawn0.refl _ | apply Drawn0.step)⟩
            · have d3b : decide (255 ≤ e + (-149 - e) + 1 + 150) = false := decide_eq_false (by omega)
              have HR := Aside0.mk (HG.out.trans (by unfold gS fS; rw [if_pos d1, if_neg (by decide), if_neg d3]))
              clear d1
              have d3' : e + (-149 - e) + 1 + 150 < 255 := by omega
              clear d3
              go_wp2_with (first | (go_at_call 53; refine (signed_any minus _ _ ?h0 ?h1).mono ?_; (case h0 => omega); (case h1 => omega); rintro e w2 ⟨rfl, ⟨nd2, rfl⟩⟩))
              go_ret
              exact ⟨ret_u32 ((congrArg (sgS minus) (by omega)).trans HR.out.symm), by repeat (first | exact Drawn0.refl _ | apply Drawn0.step)⟩
          · have d1b : (m1 == 16777216) = false := beq_eq_false_iff_ne.mpr d1
            by_cases d2 : m1 < 8388608
            · have d2b : decide (m1 < 8388608) = true := decide_eq_true d2
              have HR := Aside0.mk (HG.out.trans (by unfold gS fS; rw [if_neg d1, if_pos d2]))
              clear d1
              go_wp2_with (first | (go_at_call 53; refine (signed_any minus _ _ ?h0 ?h1).mono ?_; (case h0 => omega); (case h1 => omega); rintro e w2 ⟨rfl, ⟨nd2, rfl⟩⟩))
              go_ret
              exact ⟨ret_u32 ((congrArg (sgS minus) (by omega)).trans HR.out.symm), by repeat (first | exact Drawn0.refl _ | apply Drawn0.step)⟩
            · have d2b : decide (m1 < 8388608) = false := decide_eq_false d2
              by_cases d3 : e + (-149 - e) + 150 ≥ 255
              · have d3b : decide (255 ≤ e + (-149 - e) + 150) = true := decide_eq_true d3
                have HR := Aside0.mk (HG.out.trans (by unfold gS fS; rw [if_neg d1, if_neg d2, if_pos d3]))
                have d2' : 8388608 ≤ m1 := by omega
                have d1' : m1 < 16777216 := by omega
                clear d1 d2 d3
                go_wp2_with (first | (go_at_call 53; refine (signed_any minus _ _ ?h0 ?h1).mono ?_; (case h0 => omega); (case h1 => omega); rintro e w2 ⟨rfl, ⟨nd2, rfl⟩⟩))
                go_ret
                exact ⟨ret_u32 ((congrArg (sgS minus) (by omega)).trans HR.out.symm), by repeat (first | exact Drawn0.refl _ | apply Drawn0.step)⟩
              · have d3b : decide (255 ≤ e + (-149 - e) + 150) = false := decide_eq_false (by omega)
                have HR := Aside0.mk (HG.out.trans (by unfold gS fS; rw [if_neg d1, if_neg d2, if_neg d3]))
                have d2' : 8388608 ≤ m1 := by omega
                have d1' : m1 < 16777216 := by omega
                clear d1 d2
                have d3' : e + (-149 - e) + 150 < 255 := by omega
                clear d3
                go_wp2_with (first | (go_at_call 53; refine (signed_any minus _ _ ?h0 ?h1).mono ?_; (case h0 => omega); (case h1 => omega); rintro e w2 ⟨rfl, ⟨nd2, rfl⟩⟩))
                go_ret
                exact ⟨ret_u32 ((congrArg (sgS minus) (by omega)).trans HR.out.symm), by repeat (first | exact Drawn0.refl _ | apply Drawn0.step)⟩
  · have cb : decide (e + (n - 24) < -149) = false := decide_eq_false c
    have hs : shS n e = n - 24 := if_neg c
    have hs1 : n - 24 ≤ n - 24 := by omega
    have hs2 : -149 ≤ e + (n - 24) := by omega
    by_cases c1 : n < n - 24
    · have c1b : decide (n < n - 24) = true := decide_eq_true c1
      have HR := Aside0.mk (show rrS minus m e n more = sgS minus 0 by unfold rrS; rw [hs, if_pos c1])
      clear hs c
      go_enter Try.func34, Try.ntmps34
      go_wp2_with (first | (go_at_call 52; refine (hb _).mono ?_; rintro e w1 ⟨rfl, ⟨nd, rfl⟩⟩) | (go_at_call 53; refine (signed_any minus _ _ ?h0 ?h1).mono ?_; (case h0 => omega); (case h1 => omega); rintro e w2 ⟨rfl, ⟨nd2, rfl⟩⟩))
      go_ret
      exact ⟨ret_u32 ((congrArg (sgS minus) (by omega)).trans HR.out.symm), by repeat (first | exact Drawn0.refl _ | apply Drawn0.step)⟩
    · have c1b : decide (n < n - 24) = false := decide_eq_false c1
      obtain ⟨m1, hm1⟩ : ∃ m1, m1S m (n - 24) more = m1 := ⟨_, rfl⟩
      have hr : rrS minus m e n more = gS minus m1 (e + (n - 24)) := by unfold rrS; rw [hs, if_neg c1, hm1]
      have HG := Aside0.mk hr
      clear hs hr
      unfold m1S at hm1
      by_cases c2 : 0 < n - 24
      · have c2b : decide (0 < n - 24) = true := decide_eq_true c2
        have c2d : decide (24 < n) = true := decide_eq_true (by omega)
        have hn63 := HN.out
        have hS63 : n - 24 ≤ 63 := by omega
        clear hn63
        obtain ⟨P0, P1⟩ := pow_small (n - 24) c2 (by omega)
        have hq0 := HP.out (n - 24) c2 (by omega)
        have hS0 : 0 ≤ n - 24 := by omega
        have hS64 : n - 24 < 64 := by omega
        rw [if_pos c2] at hm1
        obtain ⟨P, hP⟩ : ∃ P : Int, 2 ^ (n - 24).toNat = P := ⟨_, rfl⟩
        rw [hP] at P0 P1 hm1 hq0
        have hone : IntKind.u64.wrap (2 ^ (n - 24).toNat) = P := by rw [hP]; exact u64_id _ (by omega) (by omega)
        have hone2 : IntKind.u64.wrap (2 ^ min (n - 24).toNat 64) = P := by rw [Nat.min_eq_left (by omega)]; exact hone
        obtain ⟨q, hq⟩ : ∃ q, m / P = q := ⟨_, rfl⟩
        obtain ⟨r, hrr⟩ : ∃ r, m % P = r := ⟨_, rfl⟩
        have q0 : 0 ≤ q := by rw [← hq]; exact Int.ediv_nonneg h0 (by omega)
        have r0 : 0 ≤ r := by rw [← hrr]; exact Int.emod_nonneg _ (by omega)
        rw [hq] at hq0 hm1
        unfold upS at hm1
        rw [hq, hrr] at hm1
        have m10 : 0 ≤ m1 := by rw [← hm1]; split <;> omega
        have m11 : m1 ≤ 16777216 := by rw [← hm1]; split <;> omega
        have HM1 := Aside0.mk hm1
        clear hP c c2 hm1
        cases more with
        | true =>
          go_enter Try.func34, Try.ntmps34
          go_upto_if 29 with (first | (go_at_call 52; refine (hb _).mono ?_; rintro e w1 ⟨rfl, ⟨nd, rfl⟩⟩))
          go_cut [1] (fun v1 wc => v1 = .int .u64 m1 ∧ Drawn0 w wc)
          case first =>
            have hm1 := HM1.out
            by_cases u1 : P / 2 < r
            · have u1b : decide (P / 2 < r) = true := decide_eq_true u1
              have HV := Aside0.mk (congrArg (Value.int .u64) (show q + 1 = m1 by rw [← hm1]; simp [u1]))
              clear hm1
              go_wp2
              go_meet
              case rel => exact ⟨HV.out, by repeat (first | exact Drawn0.refl _ | apply Drawn0.step)⟩
            · have u1b : decide (P / 2 < r) = false := decide_eq_false u1
              by_cases u2 : r = P / 2
              · have u2b : (r == P / 2) = true := beq_iff_eq.mpr u2
                have HV := Aside0.mk (congrArg (Value.int .u64) (show q + 1 = m1 by rw [← hm1]; simp [u1b, u2b]))
                clear hm1
                clear u2
                go_wp2
                go_meet
                case rel => exact ⟨HV.out, by repeat (first | exact Drawn0.refl _ | apply Drawn0.step)⟩
              · have u2b : (r == P / 2) = false := beq_eq_false_iff_ne.mpr u2
                have HV := Aside0.mk (congrArg (Value.int .u64) (show q = m1 by rw [← hm1]; simp [u1b, u2b]))
                clear hm1
                clear u2
                go_wp2
                go_meet
                case rel => exact ⟨HV.out, by repeat (first | exact Drawn0.refl _ | apply Drawn0.step)⟩
          case rest =>
            obtain ⟨rfl, ⟨mc6, rfl⟩⟩ := hcut
            clear hq hrr hone hone2 q0 r0 hq0 P0 P1 h0 h1 hs1
            by_cases d1 : m1 = 16777216
            · have d1b : (m1 == 16777216) = true := beq_iff_eq.mpr d1
              by_cases d3 : e + (n - 24) + 1 + 150 ≥ 255
              · have d3b : decide (255 ≤ e + (n - 24) + 1 + 150) = true := decide_eq_true d3
                have HR := Aside0.mk (HG.out.trans (by unfold gS fS; rw [if_pos d1, if_neg (by decide), if_pos d3]))
                clear d1 d3
                go_wp2_with (first | (go_at_call 53; refine (signed_any minus _ _ ?h0 ?h1).mono ?_; (case h0 => omega); (case h1 => omega); rintro e w2 ⟨rfl, ⟨nd2, rfl⟩⟩))
                go_ret
                exact ⟨ret_u32 ((congrArg (sgS minus) (by omega)).trans HR.out.symm), by repeat (first | exact Drawn0.refl _ | apply Drawn0.step)⟩
              · have d3b : decide (255 ≤ e + (n - 24) + 1 + 150) = false := decide_eq_false (by omega)
                have HR := Aside0.mk (HG.out.trans (by unfold gS fS; rw [if_pos d1, if_neg (by decide), if_neg d3]))
                clear d1
                have d3' : e + (n - 24) + 1 + 150 < 255 := by omega
                clear d3
                go_wp2_with (first | (go_at_call 53; refine (signed_any minus _ _ ?h0 ?h1).mono ?_; (case h0 => omega); (case h1 => omega); rintro e w2 ⟨rfl, ⟨nd2, rfl⟩⟩))
                go_ret
                exact ⟨ret_u32 ((congrArg (sgS minus) (by omega)).trans HR.out.symm), by repeat (first | exact Drawn0.refl _ | apply Drawn0.step)⟩
            · have d1b : (m1 == 16777216) = false := beq_eq_false_iff_ne.mpr d1
              by_cases d2 : m1 < 8388608
              · have d2b : decide (m1 < 8388608) = true := decide_eq_true d2
                have HR := Aside0.mk (HG.out.trans (by unfold gS fS; rw [if_neg d1, if_pos d2]))
                clear d1
                go_wp2_with (first | (go_at_call 53; refine (signed_any minus _ _ ?h0 ?h1).mono ?_; (case h0 => omega); (case h1 => omega); rintro e w2 ⟨rfl, ⟨nd2, rfl⟩⟩))
                go_ret
                exact ⟨ret_u32 ((congrArg (sgS minus) (by omega)).trans HR.out.symm), by repeat (first | exact Drawn0.refl _ | apply Drawn0.step)⟩
              · have d2b : decide (m1 < 8388608) = false := decide_eq_false d2
                by_cases d3 : e + (n - 24) + 150 ≥ 255
                · have d3b : decide (255 ≤ e + (n - 24) + 150) = true := decide_eq_true d3
                  have HR := Aside0.mk (HG.out.trans (by unfold gS fS; rw [if_neg d1, if_neg d2, if_pos d3]))
                  have d2' : 8388608 ≤ m1 := by omega
                  have d1' : m1 < 16777216 := by omega
                  clear d1 d2 d3
                  go_wp2_with (first | (go_at_call 53; refine (signed_any minus _ _ ?h0 ?h1).mono ?_; (case h0 => omega); (case h1 => omega); rintro e w2 ⟨rfl, ⟨nd2, rfl⟩⟩))
                  go_ret
                  exact ⟨ret_u32 ((congrArg (sgS minus) (by omega)).trans HR.out.symm), by repeat (first | exact Drawn0.refl _ | apply Drawn0.step)⟩
                · have d3b : decide (255 ≤ e + (n - 24) + 150) = false := decide_eq_false (by omega)
                  have HR := Aside0.mk (HG.out.trans (by unfold gS fS; rw [if_neg d1, if_neg d2, if_neg d3]))
                  have d2' : 8388608 ≤ m1 := by omega
                  have d1' : m1 < 16777216 := by omega
                  clear d1 d2
                  have d3' : e + (n - 24) + 150 < 255 := by omega
                  clear d3
                  go_wp2_with (first | (go_at_call 53; refine (signed_any minus _ _ ?h0 ?h1).mono ?_; (case h0 => omega); (case h1 => omega); rintro e w2 ⟨rfl, ⟨nd2, rfl⟩⟩))
                  go_ret
                  exact ⟨ret_u32 ((congrArg (sgS minus) (by omega)).trans HR.out.symm), by repeat (first | exact Drawn0.refl _ | apply Drawn0.step)⟩
        | false =>
          go_enter Try.func34, Try.ntmps34
          go_upto_if 29 with (first | (go_at_call 52; refine (hb _).mono ?_; rintro e w1 ⟨rfl, ⟨nd, rfl⟩⟩))
          go_cut [1] (fun v1 wc => v1 = .int .u64 m1 ∧ Drawn0 w wc)
          case first =>
            have hm1 := HM1.out
            by_cases u1 : P / 2 < r
            · have u1b : decide (P / 2 < r) = true := decide_eq_true u1
              have HV := Aside0.mk (congrArg (Value.int .u64) (show q + 1 = m1 by rw [← hm1]; simp [u1]))
              clear hm1
              go_wp2
              go_meet
              case rel => exact ⟨HV.out, by repeat (first | exact Drawn0.refl _ | apply Drawn0.step)⟩
            · have u1b : decide (P / 2 < r) = false := decide_eq_false u1
              by_cases u2 : r = P / 2
              · have u2b : (r == P / 2) = true := beq_iff_eq.mpr u2
                by_cases u3 : q % 2 = 1
                · have u3b : (q % 2 == 1) = true := beq_iff_eq.mpr u3
                  have HV := Aside0.mk (congrArg (Value.int .u64) (show q + 1 = m1 by rw [← hm1]; simp [u1b, u2b, u3b]))
                  clear hm1
                  clear u2 u3
                  go_wp2
                  go_meet
                  case rel => exact ⟨HV.out, by repeat (first | exact Drawn0.refl _ | apply Drawn0.step)⟩
                · have u3b : (q % 2 == 1) = false := beq_eq_false_iff_ne.mpr u3
                  have HV := Aside0.mk (congrArg (Value.int .u64) (show q = m1 by rw [← hm1]; simp [u1b, u2b, u3b]))
                  clear hm1
                  clear u2 u3
                  go_wp2
                  go_meet
                  case rel => exact ⟨HV.out, by repeat (first | exact Drawn0.refl _ | apply Drawn0.step)⟩
              · have u2b : (r == P / 2) = false := beq_eq_false_iff_ne.mpr u2
                have HV := Aside0.mk (congrArg (Value.int .u64) (show q = m1 by rw [← hm1]; simp [u1b, u2b]))
                clear hm1
                clear u2
                go_wp2
                go_meet
                case rel => exact ⟨HV.out, by repeat (first | exact Drawn0.refl _ | apply Drawn0.step)⟩
          case rest =>
            obtain ⟨rfl, ⟨mc6, rfl⟩⟩ := hcut
            clear hq hrr hone hone2 q0 r0 hq0 P0 P1 h0 h1 hs1
            by_cases d1 : m1 = 16777216
            · have d1b : (m1 == 16777216) = true := beq_iff_eq.mpr d1
              by_cases d3 : e + (n - 24) + 1 + 150 ≥ 255
              · have d3b : decide (255 ≤ e + (n - 24) + 1 + 150) = true := decide_eq_true d3
                have HR := Aside0.mk (HG.out.trans (by unfold gS fS; rw [if_pos d1, if_neg (by decide), if_pos d3]))
                clear d1 d3
                go_wp2_with (first | (go_at_call 53; refine (signed_any minus _ _ ?h0 ?h1).mono ?_; (case h0 => omega); (case h1 => omega); rintro e w2 ⟨rfl, ⟨nd2, rfl⟩⟩))
                go_ret
                exact ⟨ret_u32 ((congrArg (sgS minus) (by omega)).trans HR.out.symm), by repeat (first | exact Drawn0.refl _ | apply Drawn0.step)⟩
              · have d3b : decide (255 ≤ e + (n - 24) + 1 + 150) = false := decide_eq_false (by omega)
                have HR := Aside0.mk (HG.out.trans (by unfold gS fS; rw [if_pos d1, if_neg (by decide), if_neg d3]))
                clear d1
                have d3' : e + (n - 24) + 1 + 150 < 255 := by omega
                clear d3
                go_wp2_with (first | (go_at_call 53; refine (signed_any minus _ _ ?h0 ?h1).mono ?_; (case h0 => omega); (case h1 => omega); rintro e w2 ⟨rfl, ⟨nd2, rfl⟩⟩))
                go_ret
                exact ⟨ret_u32 ((congrArg (sgS minus) (by omega)).trans HR.out.symm), by repeat (first | exact Drawn0.refl _ | apply Drawn0.step)⟩
            · have d1b : (m1 == 16777216) = false := beq_eq_false_iff_ne.mpr d1
              by_cases d2 : m1 < 8388608
              · have d2b : decide (m1 < 8388608) = true := decide_eq_true d2
                have HR := Aside0.mk (HG.out.trans (by unfold gS fS; rw [if_neg d1, if_pos d2]))
                clear d1
                go_wp2_with (first | (go_at_call 53; refine (signed_any minus _ _ ?h0 ?h1).mono ?_; (case h0 => omega); (case h1 => omega); rintro e w2 ⟨rfl, ⟨nd2, rfl⟩⟩))
                go_ret
                exact ⟨ret_u32 ((congrArg (sgS minus) (by omega)).trans HR.out.symm), by repeat (first | exact Drawn0.refl _ | apply Drawn0.step)⟩
              · have d2b : decide (m1 < 8388608) = false := decide_eq_false d2
                by_cases d3 : e + (n - 24) + 150 ≥ 255
                · have d3b : decide (255 ≤ e + (n - 24) + 150) = true := decide_eq_true d3
                  have HR := Aside0.mk (HG.out.trans (by unfold gS fS; rw [if_neg d1, if_neg d2, if_pos d3]))
                  have d2' : 8388608 ≤ m1 := by omega
                  have d1' : m1 < 16777216 := by omega
                  clear d1 d2 d3
                  go_wp2_with (first | (go_at_call 53; refine (signed_any minus _ _ ?h0 ?h1).mono ?_; (case h0 => omega); (case h1 => omega); rintro e w2 ⟨rfl, ⟨nd2, rfl⟩⟩))
                  go_ret
                  exact ⟨ret_u32 ((congrArg (sgS minus) (by omega)).trans HR.out.symm), by repeat (first | exact Drawn0.refl _ | apply Drawn0.step)⟩
                · have d3b : decide (255 ≤ e + (n - 24) + 150) = false := decide_eq_false (by omega)
                  have HR := Aside0.mk (HG.out.trans (by unfold gS fS; rw [if_neg d1, if_neg d2, if_neg d3]))
                  have d2' : 8388608 ≤ m1 := by omega
                  have d1' : m1 < 16777216 := by omega
                  clear d1 d2
                  have d3' : e + (n - 24) + 150 < 255 := by omega
                  clear d3
                  go_wp2_with (first | (go_at_call 53; refine (signed_any minus _ _ ?h0 ?h1).mono ?_; (case h0 => omega); (case h1 => omega); rintro e w2 ⟨rfl, ⟨nd2, rfl⟩⟩))
                  go_ret
                  exact ⟨ret_u32 ((congrArg (sgS minus) (by omega)).trans HR.out.symm), by repeat (first | exact Drawn0.refl _ | apply Drawn0.step)⟩
      · have c2b : decide (0 < n - 24) = false := decide_eq_false c2
        have c2d : decide (24 < n) = false := decide_eq_false (by omega)
        have hz0 := HM.out (by omega) (-(n - 24)).toNat (by omega)
        rw [if_neg c2] at hm1
        rw [hm1] at hz0
        have m10 : 0 ≤ m1 := by rw [← hm1]; exact Int.mul_nonneg h0 (Int.pow_nonneg (by decide))
        have hone : IntKind.u64.wrap (m * 2 ^ (-(n - 24)).toNat) = m1 := by rw [hm1]; exact u64_id _ (by omega) (by omega)
        clear hm1 c
        go_enter Try.func34, Try.ntmps34
        go_upto_if 29 with (first | (go_at_call 52; refine (hb _).mono ?_; rintro e w1 ⟨rfl, ⟨nd, rfl⟩⟩))
        go_cut [1] (fun v1 wc => v1 = .int .u64 m1 ∧ Drawn0 w wc)
        case first =>
          go_wp2
          go_meet
          case rel => exact ⟨rfl, by repeat (first | exact Drawn0.refl _ | apply Drawn0.step)⟩
        case rest =>
          obtain ⟨rfl, ⟨mc6, rfl⟩⟩ := hcut
          clear hone h0 h1 hs1
          by_cases d1 : m1 = 16777216
          · have d1b : (m1 == 16777216) = true := beq_iff_eq.mpr d1
            by_cases d3 : e + (n - 24) + 1 + 150 ≥ 255
            · have d3b : decide (255 ≤ e + (n - 24) + 1 + 150) = true := decide_eq_true d3
              have HR := Aside0.mk (HG.out.trans (by unfold gS fS; rw [if_pos d1, if_neg (by decide), if_pos d3]))
              clear d1 d3
              go_wp2_with (first | (go_at_call 53; refine (signed_any minus _ _ ?h0 ?h1).mono ?_; (case h0 => omega); (case h1 => omega); rintro e w2 ⟨rfl, ⟨nd2, rfl⟩⟩))
              go_ret
              exact ⟨ret_u32 ((congrArg (sgS minus) (by omega)).trans HR.out.symm), by repeat (first | exact Drawn0.refl _ | apply Drawn0.step)⟩
            · have d3b : decide (255 ≤ e + (n - 24) + 1 + 150) = false := decide_eq_false (by omega)
              have HR := Aside0.mk (HG.out.trans (by unfold gS fS; rw [if_pos d1, if_neg (by decide), if_neg d3]))
              clear d1
              have d3' : e + (n - 24) + 1 + 150 < 255 := by omega
              clear d3
              go_wp2_with (first | (go_at_call 53; refine (signed_any minus _ _ ?h0 ?h1).mono ?_; (case h0 => omega); (case h1 => omega); rintro e w2 ⟨rfl, ⟨nd2, rfl⟩⟩))
              go_ret
              exact ⟨ret_u32 ((congrArg (sgS minus) (by omega)).trans HR.out.symm), by repeat (first | exact Drawn0.refl _ | apply Drawn0.step)⟩
          · have d1b : (m1 == 16777216) = false := beq_eq_false_iff_ne.mpr d1
            by_cases d2 : m1 < 8388608
            · have d2b : decide (m1 < 8388608) = true := decide_eq_true d2
              have HR := Aside0.mk (HG.out.trans (by unfold gS fS; rw [if_neg d1, if_pos d2]))
              clear d1
              go_wp2_with (first | (go_at_call 53; refine (signed_any minus _ _ ?h0 ?h1).mono ?_; (case h0 => omega); (case h1 => omega); rintro e w2 ⟨rfl, ⟨nd2, rfl⟩⟩))
              go_ret
              exact ⟨ret_u32 ((congrArg (sgS minus) (by omega)).trans HR.out.symm), by repeat (first | exact Drawn0.refl _ | apply Drawn0.step)⟩
            · have d2b : decide (m1 < 8388608) = false := decide_eq_false d2
              by_cases d3 : e + (n - 24) + 150 ≥ 255
              · have d3b : decide (255 ≤ e + (n - 24) + 150) = true := decide_eq_true d3
                have HR := Aside0.mk (HG.out.trans (by unfold gS fS; rw [if_neg d1, if_neg d2, if_pos d3]))
                have d2' : 8388608 ≤ m1 := by omega
                have d1' : m1 < 16777216 := by omega
                clear d1 d2 d3
                go_wp2_with (first | (go_at_call 53; refine (signed_any minus _ _ ?h0 ?h1).mono ?_; (case h0 => omega); (case h1 => omega); rintro e w2 ⟨rfl, ⟨nd2, rfl⟩⟩))
                go_ret
                exact ⟨ret_u32 ((congrArg (sgS minus) (by omega)).trans HR.out.symm), by repeat (first | exact Drawn0.refl _ | apply Drawn0.step)⟩
              · have d3b : decide (255 ≤ e + (n - 24) + 150) = false := decide_eq_false (by omega)
                have HR := Aside0.mk (HG.out.trans (by unfold gS fS; rw [if_neg d1, if_neg d2, if_neg d3]))
                have d2' : 8388608 ≤ m1 := by omega
                have d1' : m1 < 16777216 := by omega
                clear d1 d2
                have d3' : e + (n - 24) + 150 < 255 := by omega
                clear d3
                go_wp2_with (first | (go_at_call 53; refine (signed_any minus _ _ ?h0 ?h1).mono ?_; (case h0 => omega); (case h1 => omega); rintro e w2 ⟨rfl, ⟨nd2, rfl⟩⟩))
                go_ret
                exact ⟨ret_u32 ((congrArg (sgS minus) (by omega)).trans HR.out.symm), by repeat (first | exact Drawn0.refl _ | apply Drawn0.step)⟩
end Go.Proofs.Ytfhgomcfpmbhnaa.Y
end

section
namespace Go.Proofs.Ytfhgomcfpmbhnaa.PS
open Go.RowKit Go.Proofs.Ytfhgomcfpmbhnaa.Y Go.Proofs.YtfhgomcfpmbhnaaW.PrintWords
set_option linter.unusedVariables false
def bl (m : Int) : Int := if m ≤ 0 then 0 else (m.toNat.log2 : Int) + 1
theorem bl_half (m : Nat) (h : 0 < m) : bl (m : Int) = bl ((m / 2 : Nat) : Int) + 1 := by
  unfold bl
  rw [if_neg (by omega)]
  simp only [Int.toNat_natCast]
  rw [Nat.log2_def]
  by_cases h2 : 2 ≤ m
  · rw [if_pos h2, if_neg (by omega)]; omega
  · rw [if_neg h2, if_pos (by omega)]; omega
theorem bits_from : ∀ (n m : Nat) (c : Int), m < 2 ^ n → n ≤ 64 → 0 ≤ c → c ≤ 64 - n → ∃ k, levyref17_bits.l0 k (m : Int) c = some (c + bl m)
  | 0, m, c, h, _, _, _ => ⟨1, by
    obtain rfl : m = 0 := by simpa using h
    simp [levyref17_bits.l0, bl]⟩
  | n + 1, m, c, h, hn, h0, h1 => by
    by_cases hm : m = 0
    · subst hm
      exact ⟨1, by simp [levyref17_bits.l0, bl]⟩
    · have h2 : 2 ^ (n + 1) = 2 * 2 ^ n := by rw [Nat.pow_succ, Nat.mul_comm]
      have h64 : 2 ^ (n + 1) ≤ 2 ^ 64 := Nat.pow_le_pow_right (by decide) hn
      obtain ⟨k, hk⟩ := bits_from n (m / 2) (c + 1) (by omega) (by omega) (by omega) (by omega)
      refine ⟨k + 1, ?_⟩
      simp only [levyref17_bits.l0]
      have e1 : IntKind.u64.wrap (Int.tdiv (m : Int) 2) = ((m / 2 : Nat) : Int) := by
        rw [Int.tdiv_eq_ediv_of_nonneg (by omega)]
        have : IntKind.u64.wrap ((m : Int) / 2) = ((m : Int) / 2) % 18446744073709551616 := rfl
        omega
      have e2 : wrap64 (c + 1) = c + 1 := by unfold wrap64; omega
      rw [if_pos (by omega), e1, e2, hk, bl_half m (by omega)]
      congr 1; omega
theorem bl_64 (m : Int) (h0 : 0 ≤ m) (h1 : m ≤ 9223372036854775808) : 0 ≤ bl m ∧ bl m ≤ 64 := by
  unfold bl
  by_cases h : m ≤ 0
  · rw [if_pos h]; omega
  · rw [if_neg h]
    have := (Nat.log2_lt (n := m.toNat) (k := 64) (by omega)).2 (by omega)
    omega
theorem bl_bounds (m : Int) (h0 : 0 ≤ m) (h1 : m < 9223372036854775808) : 0 ≤ bl m ∧ bl m ≤ 63 := by
  unfold bl
  by_cases h : m ≤ 0
  · rw [if_pos h]; omega
  · rw [if_neg h]
    have := (Nat.log2_lt (n := m.toNat) (k := 63) (by omega)).2 (by omega)
    omega
theorem bl_lt (m : Int) (h0 : 0 ≤ m) : m < 2 ^ (bl m).toNat := by
  unfold bl
  by_cases h : m ≤ 0
  · rw [if_pos h]; simp; omega
  · rw [if_neg h]
    have := Nat.lt_log2_self (n := m.toNat)
    have e : ((m.toNat.log2 : Int) + 1).toNat = m.toNat.log2 + 1 := by omega
    rw [e]
    have e2 : (2 : Int) ^ (m.toNat.log2 + 1) = ((2 ^ (m.toNat.log2 + 1) : Nat) : Int) := by simp
    rw [e2]; omega
theorem bits_any (m : Int) (h0 : 0 ≤ m) (h1 : m ≤ 9223372036854775808) (w : World) : Calls Try.prog 52 #[.int .u64 m] w fun e w' => e = .returned (.int .i64 (bl m)) ∧ Drawn0 w w' := by
  obtain ⟨n, rfl⟩ := Int.eq_ofNat_of_zero_le h0
  obtain ⟨k, hk⟩ := bits_from 64 n 0 (by omega) (by omega) (by omega) (by omega)
  exact levyref17_bits.calls k _ _ w (by unfold levyref17_bits.f; rw [hk]; simp)
theorem pow_add_le (a b c : Nat) (h : a + b ≤ c) : (2 : Int) ^ a * 2 ^ b ≤ 2 ^ c := by
  rw [← Int.pow_add]
  have e : ∀ n : Nat, (2 : Int) ^ n = ((2 ^ n : Nat) : Int) := fun n => by simp
  rw [e, e]
  exact_mod_cast Nat.pow_le_pow_right (by decide) h
def levyref17_rounded.f (a0 : Bool) (a1 : Int) (a2 : Int) (a3 : Bool) : Option (Int) := if 0 ≤ a1 ∧ a1 ≤ 9223372036854775808 ∧ -400 ≤ a2 ∧ a2 ≤ 400 ∧ (a1 < 9223372036854775808 ∨ -200 ≤ a2) then some (rrS a0 a1 a2 (bl a1) a3) else none
theorem levyref17_rounded.calls (a0 : Bool) (a1 : Int) (a2 : Int) (a3 : Bool) (r : Int) (w : World) (h : levyref17_rounded.f a0 a1 a2 a3 = some r) :
    Calls Try.prog 34 #[.bool a0, .int .u64 a1, .int .i64 a2, .bool a3] w fun e w' => e = .returned (.int .u32 r) ∧ Drawn0 w w' := by
  unfold levyref17_rounded.f at h
  by_cases hc : 0 ≤ a1 ∧ a1 ≤ 9223372036854775808 ∧ -400 ≤ a2 ∧ a2 ≤ 400 ∧ (a1 < 9223372036854775808 ∨ -200 ≤ a2)
  · rw [if_pos hc] at h
    cases h
    obtain ⟨h0, h1, h2, h3, h4⟩ := hc
    obtain ⟨n0, n1⟩ := bl_64 a1 h0 h1
    have n2 : bl a1 ≤ 63 ∨ -200 ≤ a2 := h4.imp (fun h => (bl_bounds a1 h0 h).2) id
    clear h4
    have hlt := bl_lt a1 h0
    have e : ∀ n : Nat, (2 : Int) ^ n = ((2 ^ n : Nat) : Int) := fun n => by simp
    refine rounded_calls a0 a3 a1 a2 (bl a1) w h0 h1 h2 h3 n0 n1 n2 (fun hn j hj => ?_) (fun s hs hns => ?_) (bits_any a1 h0 h1)
    · have h4 : a1 * 2 ^ j ≤ 2 ^ (bl a1).toNat * 2 ^ j := Int.mul_le_mul_of_nonneg_right (by omega) (Int.pow_nonneg (by decide))
      have h5 := pow_add_le (bl a1).toNat j 24 (by omega)
      have h6 : (2 : Int) ^ 24 = 16777216 := by decide
      omega
    · have h5 := pow_add_le (bl a1).toNat 0 (24 + s.toNat) (by omega)
      have h6 : (2 : Int) ^ (24 + s.toNat) = 16777216 * 2 ^ s.toNat := by rw [Int.pow_add]; congr 1
      have hp : (0 : Int) < 2 ^ s.toNat := Int.pow_pos (by decide)
      rw [Int.pow_zero, Int.mul_one] at h5
      exact Int.ediv_lt_of_lt_mul hp (by omega)
  · rw [if_neg hc] at h; cases h
end Go.Proofs.Ytfhgomcfpmbhnaa.PS
end

section
namespace Go.Proofs.Ytfhgomcfpmbhnaa.PS
open Go.RowKit Go.Proofs.YtfhgomcfpmbhnaaW.PrintWords Go.Proofs.YtfhgomcfpmbhnaaW.PrintLast Go.Proofs.YtfhgomcfpmbhnaaW.PrintMore
attribute [local go_sem] frun_add frun_sub frun_mul frun_quo frun_neg frun_of frun_same frun_store frun_bits frun_from
attribute [local go_sem] max2_int min2_int max_two min_two max_three min_three max_four min_four
set_option linter.unusedVariables false
set_option linter.unusedSimpArgs false
def levyref17_parts.f (a0 : Int) : Option (Bool × Int × Int) := if (wrap64 ((Int.tmod a0 2147483648) / 8388608)) = 0 then (some (decide (a0 ≥ 2147483648), IntKind.u64.wrap (Int.tmod a0 8388608), (-149))) else (some (decide (a0 ≥ 2147483648), IntKind.u64.wrap ((IntKind.u64.wrap (Int.tmod a0 8388608)) + 8388608), wrap64 ((wrap64 ((Int.tmod a0 2147483648) / 8388608)) - 150)))
set_option maxHeartbeats 8000000 in
set_option maxRecDepth 100000 in
theorem levyref17_parts.calls (a0 : Int) (r1 : Bool) (r2 : Int) (r3 : Int) (w : World) (h : levyref17_parts.f a0 = some (r1, r2, r3)) :
  Calls Try.prog 73 #[.int .u32 a0] w fun e w' => e = .returned (.tuple #[.bool r1, .int .u64 r2, .int .i64 r3]) ∧ Drawn0 w w' := by
 have H : (if (wrap64 ((Int.tmod a0 2147483648) / 8388608)) = 0 then (some (decide (a0 ≥ 2147483648), IntKind.u64.wrap (Int.tmod a0 8388608), (-149))) else (some (decide (a0 ≥ 2147483648), IntKind.u64.wrap ((IntKind.u64.wrap (Int.tmod a0 8388608)) + 8388608), wrap64 ((wrap64 ((Int.tmod a0 2147483648) / 8388608)) - 150)))) = some (r1, r2, r3) := h
 clear h
 by_cases c2 : (wrap64 ((Int.tmod a0 2147483648) / 8388608)) = 0
 ·rw [if_pos c2] at H
  have c2b0 : ((wrap64 ((Int.tmod a0 2147483648) / 8388608)) == 0) = true := beq_iff_eq.mpr c2
  have c2b1 : ((wrap64 ((Int.tmod a0 2147483648) / 8388608)) != 0) = false := bne_eq_false_iff_eq.mpr c2
  clear c2
  simp only [Option.some.injEq, Prod.mk.injEq] at H
  obtain ⟨rfl, rfl, rfl⟩ := H
  go_enter Try.func73, Try.ntmps73
  go_wp2
  go_ret3
  exact ⟨by first | rfl | (simp; done) | (simp [*]; done), by repeat (first | exact Drawn0.refl _ | apply Drawn0.step)⟩
 ·rw [if_neg c2] at H
  have c2b0 : ((wrap64 ((Int.tmod a0 2147483648) / 8388608)) == 0) = false := beq_eq_false_iff_ne.mpr c2
  have c2b1 : ((wrap64 ((Int.tmod a0 2147483648) / 8388608)) != 0) = true := bne_iff_ne.mpr c2
  simp only [Option.some.injEq, Prod.mk.injEq] at H
  obtain ⟨rfl, rfl, rfl⟩ := H
  go_enter Try.func73, Try.ntmps73
  go_wp2
  go_ret3
  exact ⟨by first | rfl | (simp; done) | (simp [*]; done), by repeat (first | exact Drawn0.refl _ | apply Drawn0.step)⟩
end Go.Proofs.Ytfhgomcfpmbhnaa.PS
end

section
namespace Go.Proofs.Ytfhgomcfpmbhnaa.PS
open Go.RowKit Go.Proofs.YtfhgomcfpmbhnaaW.PrintWords Go.Proofs.YtfhgomcfpmbhnaaW.PrintLast Go.Proofs.YtfhgomcfpmbhnaaW.PrintMore
attribute [local go_sem] frun_add frun_sub frun_mul frun_quo frun_neg frun_of frun_same frun_store frun_bits frun_from
attribute [local go_sem] max2_int min2_int max_two min_two max_three min_three max_four min_four
set_option linter.unusedVariables false
set_option linter.unusedSimpArgs false
def levyref17_Finite.f (a0 : Int) : Option (Bool) := some (decide ((Int.tmod a0 2147483648) < 2139095040))
set_option maxHeartbeats 8000000 in
set_option maxRecDepth 100000 in
theorem levyref17_Finite.calls (a0 : Int) (r : Bool) (w : World) (h : levyref17_Finite.f a0 = some r) :
  Calls Try.prog 58 #[.int .u32 a0] w fun e w' => e = .returned (.bool r) ∧ Drawn0 w w' := by
 have H : (some (decide ((Int.tmod a0 2147483648) < 2139095040))) = some r := h
 clear h
 obtain rfl := Option.some.inj H
 go_enter Try.func58, Try.ntmps58
 go_wp2
 go_ret
 exact ⟨by first | rfl | (simp; done) | (simp [*]; done), by repeat (first | exact Drawn0.refl _ | apply Drawn0.step)⟩
end Go.Proofs.Ytfhgomcfpmbhnaa.PS
end

section
namespace Go.Proofs.Ytfhgomcfpmbhnaa.PS
open Go.RowKit Go.Proofs.YtfhgomcfpmbhnaaW.PrintWords Go.Proofs.YtfhgomcfpmbhnaaW.PrintLast Go.Proofs.YtfhgomcfpmbhnaaW.PrintMore
attribute [local go_sem] frun_add frun_sub frun_mul frun_quo frun_neg frun_of frun_same frun_store frun_bits frun_from
attribute [local go_sem] max2_int min2_int max_two min_two max_three min_three max_four min_four
set_option linter.unusedVariables false
set_option linter.unusedSimpArgs false
def levyref17_NaN.f (a0 : Int) : Option (Bool) := some (decide ((Int.tmod a0 2147483648) > 2139095040))
set_option maxHeartbeats 8000000 in
set_option maxRecDepth 100000 in
theorem levyref17_NaN.calls (a0 : Int) (r : Bool) (w : World) (h : levyref17_NaN.f a0 = some r) :
  Calls Try.prog 41 #[.int .u32 a0] w fun e w' => e = .returned (.bool r) ∧ Drawn0 w w' := by
 have H : (some (decide ((Int.tmod a0 2147483648) > 2139095040))) = some r := h
 clear h
 obtain rfl := Option.some.inj H
 go_enter Try.func41, Try.ntmps41
 go_wp2
 go_ret
 exact ⟨by first | rfl | (simp; done) | (simp [*]; done), by repeat (first | exact Drawn0.refl _ | apply Drawn0.step)⟩
end Go.Proofs.Ytfhgomcfpmbhnaa.PS
end

section
namespace Go.Proofs.Ytfhgomcfpmbhnaa.PS
open Go.RowKit Go.Proofs.YtfhgomcfpmbhnaaW.PrintWords Go.Proofs.YtfhgomcfpmbhnaaW.PrintLast Go.Proofs.YtfhgomcfpmbhnaaW.PrintMore
attribute [local go_sem] frun_add frun_sub frun_mul frun_quo frun_neg frun_of frun_same frun_store frun_bits frun_from
attribute [local go_sem] max2_int min2_int max_two min_two max_three min_three max_four min_four
set_option linter.unusedVariables false
set_option linter.unusedSimpArgs false
mutual
def levyref17_Add.j0 : Nat → Int → Int → Bool → Bool → Bool → Option (Int)
 | 0, _, _, _, _, _ => none
 | k + 1, x0, x1, x7, x8, x29 => if x29 = true then (some 2143289344) else (if x7 = true then (if x8 = true then ((levyref17_parts.f x0).bind fun bt116 => ((levyref17_parts.f x1).bind fun bt119 => (if bt116.2.2 < bt119.2.2 then (levyref17_Add.j1 k bt119.1 bt119.2.1 bt119.2.2 bt116.1 bt116.2.1 bt116.2.2) else (levyref17_Add.j1 k bt116.1 bt116.2.1 bt116.2.2 bt119.1 bt119.2.1 bt119.2.2)))) else (some x1)) else (some x0))
def levyref17_Add.j1 : Nat → Bool → Int → Int → Bool → Int → Int → Option (Int)
 | 0, _, _, _, _, _, _ => none
 | k + 1, x9, x10, x11, x12, x13, x14 => if (wrap64 (x11 - x14)) ≤ 38 then (if 0 ≤ (IntKind.u64.wrap (wrap64 (38 - (wrap64 (x11 - x14))))) then (levyref17_Add.j2 k x9 x11 x12 (IntKind.u64.wrap (x10 * 274877906944)) (shl .u64 x13 (IntKind.u64.wrap (wrap64 (38 - (wrap64 (x11 - x14)))))) false) else (none)) else (if (wrap64 ((wrap64 (x11 - x14)) - 38)) < 30 then (if 0 ≤ (IntKind.u64.wrap (wrap64 ((wrap64 (x11 - x14)) - 38))) then (if (shl .u64 1 (IntKind.u64.wrap (wrap64 ((wrap64 (x11 - x14)) - 38)))) = 0 then (none) else (levyref17_Add.j2 k x9 x11 x12 (IntKind.u64.wrap (x10 * 274877906944)) (IntKind.u64.wrap (Int.tdiv x13 (shl .u64 1 (IntKind.u64.wrap (wrap64 ((wrap64 (x11 - x14)) - 38)))))) (decide ((Int.tmod x13 (shl .u64 1 (IntKind.u64.wrap (wrap64 ((wrap64 (x11 - x14)) - 38))))) > 0)))) else (none)) else (levyref17_Add.j2 k x9 x11 x12 (IntKind.u64.wrap (x10 * 274877906944)) 0 (decide (x13 > 0))))
def levyref17_Add.j2 : Nat → Bool → Int → Bool → Int → Int → Bool → Option (Int)
 | 0, _, _, _, _, _, _ => none
 | k + 1, x9, x11, x12, x15, x16, x17 => if (x9 == x12) = true then ((levyref17_rounded.f x9 (IntKind.u64.wrap (x15 + x16)) (wrap64 (x11 - 38)) x17).bind fun t122 => (some t122)) else (if x15 = x16 then (levyref17_Add.j3 k x9 x12 x15 x16 x17 (wrap64 (x11 - 38)) (!x17)) else (levyref17_Add.j3 k x9 x12 x15 x16 x17 (wrap64 (x11 - 38)) false))
def levyref17_Add.j3 : Nat → Bool → Bool → Int → Int → Bool → Int → Bool → Option (Int)
 | 0, _, _, _, _, _, _, _ => none
 | k + 1, x9, x12, x15, x16, x17, x20, x123 => if x123 = true then (some 0) else (if x15 ≥ x16 then (if x17 = true then ((levyref17_rounded.f x9 (IntKind.u64.wrap ((IntKind.u64.wrap (x15 - x16)) - 1)) x20 true).bind fun t123 => (some t123)) else ((levyref17_rounded.f x9 (IntKind.u64.wrap (x15 - x16)) x20 false).bind fun t124 => (some t124))) else ((levyref17_rounded.f x12 (IntKind.u64.wrap (x16 - x15)) x20 false).bind fun t125 => (some t125)))
end
def levyref17_Add.f (k : Nat) (a0 : Int) (a1 : Int) : Option (Int) := (levyref17_NaN.f a0).bind fun t112 => ((levyref17_NaN.f a1).bind fun t113 => ((levyref17_Finite.f a0).bind fun t114 => ((levyref17_Finite.f a1).bind fun t115 => (if t112 = true then (levyref17_Add.j0 k a0 a1 t114 t115 true) else (if t113 = true then (levyref17_Add.j0 k a0 a1 t114 t115 true) else (if t114 = true then (levyref17_Add.j0 k a0 a1 t114 t115 false) else (if t115 = true then (levyref17_Add.j0 k a0 a1 t114 t115 false) else (levyref17_Add.j0 k a0 a1 t114 t115 (a0 != a1)))))))))
theorem levyref17_Add.mono_l : ∀ k, (∀ y0 y1 y2 y3 y4, LeO (levyref17_Add.j0 k y0 y1 y2 y3 y4) (levyref17_Add.j0 (k + 1) y0 y1 y2 y3 y4)) ∧ (∀ y0 y1 y2 y3 y4 y5, LeO (levyref17_Add.j1 k y0 y1 y2 y3 y4 y5) (levyref17_Add.j1 (k + 1) y0 y1 y2 y3 y4 y5)) ∧ (∀ y0 y1 y2 y3 y4 y5, LeO (levyref17_Add.j2 k y0 y1 y2 y3 y4 y5) (levyref17_Add.j2 (k + 1) y0 y1 y2 y3 y4 y5)) ∧ (∀ y0 y1 y2 y3 y4 y5 y6, LeO (levyref17_Add.j3 k y0 y1 y2 y3 y4 y5 y6) (levyref17_Add.j3 (k + 1) y0 y1 y2 y3 y4 y5 y6))
 | 0 => ⟨fun _ _ _ _ _ r h => by simp [levyref17_Add.j0] at h, fun _ _ _ _ _ _ r h => by simp [levyref17_Add.j1] at h, fun _ _ _ _ _ _ r h => by simp [levyref17_Add.j2] at h, fun _ _ _ _ _ _ _ r h => by simp [levyref17_Add.j3] at h⟩
 | k + 1 => by
  obtain ⟨ih0, ih1, ih2, ih3⟩ := levyref17_Add.mono_l k
  refine ⟨?_, ?_, ?_, ?_⟩
  ·intro y0 y1 y2 y3 y4
   unfold levyref17_Add.j0
   repeat' first
   | (with_reducible exact ih0 _ _ _ _ _)
   | (with_reducible exact ih1 _ _ _ _ _ _)
   | (with_reducible exact ih2 _ _ _ _ _ _)
   | (with_reducible exact ih3 _ _ _ _ _ _ _)
   | (with_reducible exact LeO.refl _)
   | (with_reducible exact LeO.none _)
   | (with_reducible refine LeO.ite ?_ ?_)
   | (with_reducible refine LeO.bind ?_ (fun _ => ?_))
   | exact ih0 _ _ _ _ _
   | exact ih1 _ _ _ _ _ _
   | exact ih2 _ _ _ _ _ _
   | exact ih3 _ _ _ _ _ _ _
   | exact LeO.none _
   | refine LeO.ite ?_ ?_
   | refine LeO.bind ?_ (fun _ => ?_)
  ·intro y0 y1 y2 y3 y4 y5
   unfold levyref17_Add.j1
   repeat' first
   | (with_reducible exact ih0 _ _ _ _ _)
   | (with_reducible exact ih1 _ _ _ _ _ _)
   | (with_reducible exact ih2 _ _ _ _ _ _)
   | (with_reducible exact ih3 _ _ _ _ _ _ _)
   | (with_reducible exact LeO.refl _)
   | (with_reducible exact LeO.none _)
   | (with_reducible refine LeO.ite ?_ ?_)
   | (with_reducible refine LeO.bind ?_ (fun _ => ?_))
   | exact ih0 _ _ _ _ _
   | exact ih1 _ _ _ _ _ _
   | exact ih2 _ _ _ _ _ _
   | exact ih3 _ _ _ _ _ _ _
   | exact LeO.none _
   | refine LeO.ite ?_ ?_
   | refine LeO.bind ?_ (fun _ => ?_)
  ·intro y0 y1 y2 y3 y4 y5
   unfold levyref17_Add.j2
   repeat' first
   | (with_reducible exact ih0 _ _ _ _ _)
   | (with_reducible exact ih1 _ _ _ _ _ _)
   | (with_reducible exact ih2 _ _ _ _ _ _)
   | (with_reducible exact ih3 _ _ _ _ _ _ _)
   | (with_reducible exact LeO.refl _)
   | (with_reducible exact LeO.none _)
   | (with_reducible refine LeO.ite ?_ ?_)
   | (with_reducible refine LeO.bind ?_ (fun _ => ?_))
   | exact ih0 _ _ _ _ _
   | exact ih1 _ _ _ _ _ _
   | exact ih2 _ _ _ _ _ _
   | exact ih3 _ _ _ _ _ _ _
   | exact LeO.none _
   | refine LeO.ite ?_ ?_
   | refine LeO.bind ?_ (fun _ => ?_)
  ·intro y0 y1 y2 y3 y4 y5 y6
   unfold levyref17_Add.j3
   repeat' first
   | (with_reducible exact ih0 _ _ _ _ _)
   | (with_reducible exact ih1 _ _ _ _ _ _)
   | (with_reducible exact ih2 _ _ _ _ _ _)
   | (with_reducible exact ih3 _ _ _ _ _ _ _)
   | (with_reducible exact LeO.refl _)
   | (with_reducible exact LeO.none _)
   | (with_reducible refine LeO.ite ?_ ?_)
   | (with_reducible refine LeO.bind ?_ (fun _ => ?_))
   | exact ih0 _ _ _ _ _
   | exact ih1 _ _ _ _ _ _
   | exact ih2 _ _ _ _ _ _
   | exact ih3 _ _ _ _ _ _ _
   | exact LeO.none _
   | refine LeO.ite ?_ ?_
   | refine LeO.bind ?_ (fun _ => ?_)
theorem levyref17_Add.mono : ∀ a0 a1 k, LeO (levyref17_Add.f k a0 a1) (levyref17_Add.f (k + 1) a0 a1) := by
 intro a0 a1 k
 obtain ⟨ih0, ih1, ih2, ih3⟩ := levyref17_Add.mono_l k
 unfold levyref17_Add.f
 repeat' first
   | (with_reducible exact ih0 _ _ _ _ _)
   | (with_reducible exact ih1 _ _ _ _ _ _)
   | (with_reducible exact ih2 _ _ _ _ _ _)
   | (with_reducible exact ih3 _ _ _ _ _ _ _)
   | (with_reducible exact LeO.refl _)
   | (with_reducible exact LeO.none _)
   | (with_reducible refine LeO.ite ?_ ?_)
   | (with_reducible refine LeO.bind ?_ (fun _ => ?_))
   | exact ih0 _ _ _ _ _
   | exact ih1 _ _ _ _ _ _
   | exact ih2 _ _ _ _ _ _
   | exact ih3 _ _ _ _ _ _ _
   | exact LeO.none _
   | refine LeO.ite ?_ ?_
   | refine LeO.bind ?_ (fun _ => ?_)
set_option maxHeartbeats 8000000 in
set_option maxRecDepth 100000 in
theorem levyref17_Add.calls (k : Nat) (a0 : Int) (a1 : Int) (r : Int) (w : World) (h : levyref17_Add.f k a0 a1 = some r) :
  Calls Try.prog 60 #[.int .u32 a0, .int .u32 a1] w fun e w' => e = .returned (.int .u32 r) ∧ Drawn0 w w' := by
 have H : ((levyref17_NaN.f a0).bind fun t112 => ((levyref17_NaN.f a1).bind fun t113 => ((levyref17_Finite.f a0).bind fun t114 => ((levyref17_Finite.f a1).bind fun t115 => (if t112 = true then (levyref17_Add.j0 k a0 a1 t114 t115 true) else (if t113 = true then (levyref17_Add.j0 k a0 a1 t114 t115 true) else (if t114 = true then (levyref17_Add.j0 k a0 a1 t114 t115 false) else (if t115 = true then (levyref17_Add.j0 k a0 a1 t114 t115 false) else (levyref17_Add.j0 k a0 a1 t114 t115 (a0 != a1)))))))))) = some r := h
 clear h
 replace H := Option.bind_eq_some_iff.mp H
 obtain ⟨t112, A30, H⟩ := H
 replace H : ((levyref17_NaN.f a1).bind fun t113 => ((levyref17_Finite.f a0).bind fun t114 => ((levyref17_Finite.f a1).bind fun t115 => (if t112 = true then (levyref17_Add.j0 k a0 a1 t114 t115 true) else (if t113 = true then (levyref17_Add.j0 k a0 a1 t114 t115 true) else (if t114 = true then (levyref17_Add.j0 k a0 a1 t114 t115 false) else (if t115 = true then (levyref17_Add.j0 k a0 a1 t114 t115 false) else (levyref17_Add.j0 k a0 a1 t114 t115 (a0 != a1))))))))) = some r := H
 have A3 := Aside0.mk A30
 clear A30
 replace H := Option.bind_eq_some_iff.mp H
 obtain ⟨t113, A40, H⟩ := H
 replace H : ((levyref17_Finite.f a0).bind fun t114 => ((levyref17_Finite.f a1).bind fun t115 => (if t112 = true then (levyref17_Add.j0 k a0 a1 t114 t115 true) else (if t113 = true then (levyref17_Add.j0 k a0 a1 t114 t115 true) else (if t114 = true then (levyref17_Add.j0 k a0 a1 t114 t115 false) else (if t115 = true then (levyref17_Add.j0 k a0 a1 t114 t115 false) else (levyref17_Add.j0 k a0 a1 t114 t115 (a0 != a1)))))))) = some r := H
 have A4 := Aside0.mk A40
 clear A40
 replace H := Option.bind_eq_some_iff.mp H
 obtain ⟨t114, A50, H⟩ := H
 replace H : ((levyref17_Finite.f a1).bind fun t115 => (if t112 = true then (levyref17_Add.j0 k a0 a1 t114 t115 true) else (if t113 = true then (levyref17_Add.j0 k a0 a1 t114 t115 true) else (if t114 = true then (levyref17_Add.j0 k a0 a1 t114 t115 false) else (if t115 = true then (levyref17_Add.j0 k a0 a1 t114 t115 false) else (levyref17_Add.j0 k a0 a1 t114 t115 (a0 != a1))))))) = some r := H
 have A5 := Aside0.mk A50
 clear A50
 replace H := Option.bind_eq_some_iff.mp H
 obtain ⟨t115, A60, H⟩ := H
 replace H : (if t112 = true then (levyref17_Add.j0 k a0 a1 t114 t115 true) else (if t113 = true then (levyref17_Add.j0 k a0 a1 t114 t115 true) else (if t114 = true then (levyref17_Add.j0 k a0 a1 t114 t115 false) else (if t115 = true then (levyref17_Add.j0 k a0 a1 t114 t115 false) else (levyref17_Add.j0 k a0 a1 t114 t115 (a0 != a1)))))) = some r := H
 have A6 := Aside0.mk A60
 clear A60
 have HC7 := Aside0.mk H
 clear H
 go_enter Try.func60, Try.ntmps60
 go_upto_region 3 with (first | ((with_reducible refine gate_callee (f := 41) rfl ?_); refine goesL_ (some 22) rfl rfl Try.func41 (by kernel_rfl) rfl #[.int .u32 a0] rfl agx ?_; (with_reducible refine (levyref17_NaN.calls a0 t112 _ A3.out).mono ?_); rintro e w' ⟨rfl, ⟨nd, rfl⟩⟩; refine ⟨_, rfl, ?_⟩) | ((with_reducible refine gate_callee (f := 41) rfl ?_); refine goesL_ (some 24) rfl rfl Try.func41 (by kernel_rfl) rfl #[.int .u32 a1] rfl agx ?_; (with_reducible refine (levyref17_NaN.calls a1 t113 _ A4.out).mono ?_); rintro e w' ⟨rfl, ⟨nd, rfl⟩⟩; refine ⟨_, rfl, ?_⟩) | ((with_reducible refine gate_callee (f := 58) rfl ?_); refine goesL_ (some 26) rfl rfl Try.func58 (by kernel_rfl) rfl #[.int .u32 a0] rfl agx ?_; (with_reducible refine (levyref17_Finite.calls a0 t114 _ A5.out).mono ?_); rintro e w' ⟨rfl, ⟨nd, rfl⟩⟩; refine ⟨_, rfl, ?_⟩) | ((with_reducible refine gate_callee (f := 58) rfl ?_); refine goesL_ (some 28) rfl rfl Try.func58 (by kernel_rfl) rfl #[.int .u32 a1] rfl agx ?_; (with_reducible refine (levyref17_Finite.calls a1 t115 _ A6.out).mono ?_); rintro e w' ⟨rfl, ⟨nd, rfl⟩⟩; refine ⟨_, rfl, ?_⟩))
 (try simp only [Act.put, List.setIfInBounds_toArray, List.set_cons_zero, List.set_cons_succ])
 go_cut [29] (fun v29 wc => ∃ (kq : Nat) (x29_6 : Bool), v29 = .bool x29_6 ∧ Aside0 (levyref17_Add.j0 kq a0 a1 t114 t115 x29_6 = some r) ∧ Aside0 (kq ≤ k) ∧ Drawn0 w wc)
 case first =>
  have H := HC7.out
  clear HC7
  by_cases c8 : t112 = true
  ·subst c8
   have H1 : (levyref17_Add.j0 k a0 a1 t114 t115 true) = some r := by rw [if_pos rfl] at H; exact H
   clear H
   have H := H1
   clear H1
   have H' := Aside0.mk H
   clear H
   go_wp2
   go_meet
   case rel => exact ⟨_, (true), (by first | rfl | (simp; done) | (simp [*]; done)), H', ⟨by first | omega | exact Nat.le_refl _⟩, by repeat (first | exact Drawn0.refl _ | apply Drawn0.step)⟩
  ·replace c8 := Bool.eq_false_iff.mpr c8
   subst c8
   have H1 : (if t113 = true then (levyref17_Add.j0 k a0 a1 t114 t115 true) else (if t114 = true then (levyref17_Add.j0 k a0 a1 t114 t115 false) else (if t115 = true then (levyref17_Add.j0 k a0 a1 t114 t115 false) else (levyref17_Add.j0 k a0 a1 t114 t115 (a0 != a1))))) = some r := by rw [if_neg (show ¬ (false = true) by decide)] at H; exact H
   clear H
   have H := H1
   clear H1
   by_cases c9 : t113 = true
   ·subst c9
    have H1 : (levyref17_Add.j0 k a0 a1 t114 t115 true) = some r := by rw [if_pos rfl] at H; exact H
    clear H
    have H := H1
    clear H1
    have H' := Aside0.mk H
    clear H
    go_wp2
    go_meet
    case rel => exact ⟨_, (true), (by first | rfl | (simp; done) | (simp [*]; done)), H', ⟨by first | omega | exact Nat.le_refl _⟩, by repeat (first | exact Drawn0.refl _ | apply Drawn0.step)⟩
   ·replace c9 := Bool.eq_false_iff.mpr c9
    subst c9
    have H1 : (if t114 = true then (levyref17_Add.j0 k a0 a1 t114 t115 false) else (if t115 = true then (levyref17_Add.j0 k a0 a1 t114 t115 false) else (levyref17_Add.j0 k a0 a1 t114 t115 (a0 != a1)))) = some r := by rw [if_neg (show ¬ (false = true) by decide)] at H; exact H
    clear H
    have H := H1
    clear H1
    by_cases c10 : t114 = true
    ·subst c10
     have H1 : (levyref17_Add.j0 k a0 a1 true t115 false) = some r := by rw [if_pos rfl] at H; exact H
     clear H
     have H := H1
     clear H1
     have H' := Aside0.mk H
     clear H
     go_wp2
     go_meet
     case rel => exact ⟨_, (false), (by first | rfl | (simp; done) | (simp [*]; done)), H', ⟨by first | omega | exact Nat.le_refl _⟩, by repeat (first | exact Drawn0.refl _ | apply Drawn0.step)⟩
    ·replace c10 := Bool.eq_false_iff.mpr c10
     subst c10
     have H1 : (if t115 = true then (levyref17_Add.j0 k a0 a1 false t115 false) else (levyref17_Add.j0 k a0 a1 false t115 (a0 != a1))) = some r := by rw [if_neg (show ¬ (false = true) by decide)] at H; exact H
     clear H
     have H := H1
     clear H1
     by_cases c11 : t115 = true
     ·subst c11
      have H1 : (levyref17_Add.j0 k a0 a1 false true false) = some r := by rw [if_pos rfl] at H; exact H
      clear H
      have H := H1
      clear H1
      have H' := Aside0.mk H
      clear H
      go_wp2
      go_meet
      case rel => exact ⟨_, (false), (by first | rfl | (simp; done) | (simp [*]; done)), H', ⟨by first | omega | exact Nat.le_refl _⟩, by repeat (first | exact Drawn0.refl _ | apply Drawn0.step)⟩
     ·replace c11 := Bool.eq_false_iff.mpr c11
      subst c11
      have H1 : (levyref17_Add.j0 k a0 a1 false false (a0 != a1)) = some r := by rw [if_neg (show ¬ (false = true) by decide)] at H; exact H
      clear H
      have H := H1
      clear H1
      have H' := Aside0.mk H
      clear H
      go_wp2
      go_meet
      case rel => exact ⟨_, ((a0 != a1)), (by first | rfl | (simp; done) | (simp [*]; done)), H', ⟨by first | omega | exact Nat.le_refl _⟩, by repeat (first | exact Drawn0.refl _ | apply Drawn0.step)⟩
 case rest =>
  clear HC7
  try clear c1
  try clear p2
  try clear c4
  try clear c5
  try clear c6
  try clear c8
  try clear c9
  try clear c10
  try clear c11
  obtain ⟨kq, x29_6, rfl, HA, HJ6, ⟨mc6, rfl⟩⟩ := hcut
  cases kq with
  | zero => exact absurd HA.out (by simp [levyref17_Add.j0])
  | succ kj6 =>
   have H := HA.out
   clear HA
   simp only [levyref17_Add.j0] at H
   by_cases c12 : x29_6 = true
   ·subst c12
    have H1 : (some 2143289344) = some r := by rw [if_pos rfl] at H; exact H
    clear H
    have H := H1
    clear H1
    obtain rfl := Option.some.inj H
    go_wp2
    go_ret
    exact ⟨by first | rfl | (simp; done) | (simp [*]; done), by repeat (first | exact Drawn0.refl _ | apply Drawn0.step)⟩
   ·replace c12 := Bool.eq_false_iff.mpr c12
    subst c12
    have H1 : (if t114 = true then (if t115 = true then ((levyref17_parts.f a0).bind fun bt116 => ((levyref17_parts.f a1).bind fun bt119 => (if bt116.2.2 < bt119.2.2 then (levyref17_Add.j1 kj6 bt119.1 bt119.2.1 bt119.2.2 bt116.1 bt116.2.1 bt116.2.2) else (levyref17_Add.j1 kj6 bt116.1 bt116.2.1 bt116.2.2 bt119.1 bt119.2.1 bt119.2.2)))) else (some a1)) else (some a0)) = some r := by rw [if_neg (show ¬ (false = true) by decide)] at H; exact H
    clear H
    have H := H1
    clear H1
    by_cases c13 : t114 = true
    ·subst c13
     have H1 : (if t115 = true then ((levyref17_parts.f a0).bind fun bt116 => ((levyref17_parts.f a1).bind fun bt119 => (if bt116.2.2 < bt119.2.2 then (levyref17_Add.j1 kj6 bt119.1 bt119.2.1 bt119.2.2 bt116.1 bt116.2.1 bt116.2.2) else (levyref17_Add.j1 kj6 bt116.1 bt116.2.1 bt116.2.2 bt119.1 bt119.2.1 bt119.2.2)))) else (some a1)) = some r := by rw [if_pos rfl] at H; exact H
     clear H
     have H := H1
     clear H1
     by_cases c14 : t115 = true
     ·subst c14
      have H1 : ((levyref17_parts.f a0).bind fun bt116 => ((levyref17_parts.f a1).bind fun bt119 => (if bt116.2.2 < bt119.2.2 then (levyref17_Add.j1 kj6 bt119.1 bt119.2.1 bt119.2.2 bt116.1 bt116.2.1 bt116.2.2) else (levyref17_Add.j1 kj6 bt116.1 bt116.2.1 bt116.2.2 bt119.1 bt119.2.1 bt119.2.2)))) = some r := by rw [if_pos rfl] at H; exact H
      clear H
      have H := H1
      clear H1
      replace H := Option.bind_eq_some_iff.mp H
      obtain ⟨⟨t116, t117, t118⟩, A150, H⟩ := H
      replace H : ((levyref17_parts.f a1).bind fun bt119 => (if t118 < bt119.2.2 then (levyref17_Add.j1 kj6 bt119.1 bt119.2.1 bt119.2.2 t116 t117 t118) else (levyref17_Add.j1 kj6 t116 t117 t118 bt119.1 bt119.2.1 bt119.2.2))) = some r := H
      have A15 := Aside0.mk A150
      clear A150
      replace H := Option.bind_eq_some_iff.mp H
      obtain ⟨⟨t119, t120, t121⟩, A160, H⟩ := H
      replace H : (if t118 < t121 then (levyref17_Add.j1 kj6 t119 t120 t121 t116 t117 t118) else (levyref17_Add.j1 kj6 t116 t117 t118 t119 t120 t121)) = some r := H
      have A16 := Aside0.mk A160
      clear A160
      have HC17 := Aside0.mk H
      clear H
      go_upto_if 69 with (first | ((with_reducible refine gate_callee (f := 73) rfl ?_); refine goesL_ (some 57) rfl rfl Try.func73 (by kernel_rfl) rfl #[.int .u32 a0] rfl agx ?_; (with_reducible refine (levyref17_parts.calls a0 t116 t117 t118 _ A15.out).mono ?_); rintro e w' ⟨rfl, ⟨nd, rfl⟩⟩; refine ⟨_, rfl, ?_⟩) | ((with_reducible refine gate_callee (f := 73) rfl ?_); refine goesL_ (some 63) rfl rfl Try.func73 (by kernel_rfl) rfl #[.int .u32 a1] rfl agx ?_; (with_reducible refine (levyref17_parts.calls a1 t119 t120 t121 _ A16.out).mono ?_); rintro e w' ⟨rfl, ⟨nd, rfl⟩⟩; refine ⟨_, rfl, ?_⟩))
      (try simp only [Act.put, List.setIfInBounds_toArray, List.set_cons_zero, List.set_cons_succ])
      go_cut [9, 10, 11, 12, 13, 14] (fun v9 v10 v11 v12 v13 v14 wc => ∃ (kq : Nat) (x9_16 : Bool) (x10_16 : Int) (x11_16 : Int) (x12_16 : Bool) (x13_16 : Int) (x14_16 : Int), v9 = .bool x9_16 ∧ v10 = .int .u64 x10_16 ∧ v11 = .int .i64 x11_16 ∧ v12 = .bool x12_16 ∧ v13 = .int .u64 x13_16 ∧ v14 = .int .i64 x14_16 ∧ Aside0 (levyref17_Add.j1 kq x9_16 x10_16 x11_16 x12_16 x13_16 x14_16 = some r) ∧ Aside0 (kq ≤ kj6) ∧ Drawn0 w wc)
      case first =>
       have H := HC17.out
       clear HC17
       by_cases c18 : t118 < t121
       ·rw [if_pos c18] at H
        have c18b0 : decide (t118 < t121) = true := decide_eq_true c18
        clear c18
        (first | rw [c18b0] | (simp only [i64_w, i32_w]; rw [c18b0]) | skip)
        have H' := Aside0.mk H
        clear H
        go_wp2
        go_meet
        case rel => exact ⟨_, (t119), (t120), (t121), (t116), (t117), (t118), (by first | rfl | (simp; done) | (simp [*]; done)), (by first | rfl | (simp; done) | (simp [*]; done)), (by first | rfl | (simp; done) | (simp [*]; done)), (by first | rfl | (simp; done) | (simp [*]; done)), (by first | rfl | (simp; done) | (simp [*]; done)), (by first | rfl | (simp; done) | (simp [*]; done)), H', ⟨by have := HJ6.out; first | omega | exact Nat.le_refl _⟩, by repeat (first | exact Drawn0.refl _ | apply Drawn0.step)⟩
       ·rw [if_neg c18] at H
        have c18b0 : decide (t118 < t121) = false := decide_eq_false c18
        clear c18
        (first | rw [c18b0] | (simp only [i64_w, i32_w]; rw [c18b0]) | skip)
        have H' := Aside0.mk H
        clear H
        go_wp2
        go_meet
        case rel => exact ⟨_, (t116), (t117), (t118), (t119), (t120), (t121), (by first | rfl | (simp; done) | (simp [*]; done)), (by first | rfl | (simp; done) | (simp [*]; done)), (by first | rfl | (simp; done) | (simp [*]; done)), (by first | rfl | (simp; done) | (simp [*]; done)), (by first | rfl | (simp; done) | (simp [*]; done)), (by first | rfl | (simp; done) | (simp [*]; done)), H', ⟨by have := HJ6.out; first | omega | exact Nat.le_refl _⟩, by repeat (first | exact Drawn0.refl _ | apply Drawn0.step)⟩
      case rest =>
       clear HC17
       try clear c1
       try clear p2
       try clear c4
       try clear c5
       try clear c6
       try clear c7
       try clear c8
       try clear c9
       try clear c10
       try clear c11
       try clear c12
       try clear c13
       try clear c14
       try clear c18
       try clear c18b0
       try clear p2
       obtain ⟨kq, x9_16, x10_16, x11_16, x12_16, x13_16, x14_16, rfl, rfl, rfl, rfl, rfl, rfl, HA, HJ16, ⟨mc16, rfl⟩⟩ := hcut
       cases kq with
       | zero => exact absurd HA.out (by simp [levyref17_Add.j1])
       | succ kj16 =>
        have H := HA.out
        clear HA
        simp only [levyref17_Add.j1] at H
        have HC19 := Aside0.mk H
        clear H
        go_upto_if 83 with (fail)
        go_cut [16, 17] (fun v16 v17 wc => ∃ (kq : Nat) (x16_18 : Int) (x17_18 : Bool), v16 = .int .u64 x16_18 ∧ v17 = .bool x17_18 ∧ Aside0 (levyref17_Add.j2 kq x9_16 x11_16 x12_16 (IntKind.u64.wrap (x10_16 * 274877906944)) x16_18 x17_18 = some r) ∧ Aside0 (kq ≤ kj16) ∧ Drawn0 w wc)
        case first =>
         have H := HC19.out
         clear HC19
         by_cases c20 : (wrap64 (x11_16 - x14_16)) ≤ 38
         ·rw [if_pos c20] at H
          have c20b0 : decide ((wrap64 (x11_16 - x14_16)) ≤ 38) = true := decide_eq_true c20
          clear c20
          (first | rw [c20b0] | (simp only [i64_w, i32_w]; rw [c20b0]) | skip)
          obtain ⟨ji21, hji21⟩ : ∃ j_ : Int, (IntKind.u64.wrap (wrap64 (38 - (wrap64 (x11_16 - x14_16))))) = j_ := ⟨_, rfl⟩
          replace H : (if 0 ≤ (ji21) then (levyref17_Add.j2 kj16 x9_16 x11_16 x12_16 (IntKind.u64.wrap (x10_16 * 274877906944)) (shl .u64 x13_16 (ji21)) false) else (none)) = some r := by first | (rw [hji21] at H; exact H) | (simp only [hji21] at H ⊢; exact H)
          by_cases c22 : 0 ≤ (ji21)
          ·rw [if_pos c22] at H
           have c22b0 := eq_true c22
           have c22b1 : decide (0 ≤ (ji21)) = true := decide_eq_true c22
           clear c22
           obtain ⟨ji23, hji23⟩ : ∃ j_ : Int, (shl .u64 x13_16 (ji21)) = j_ := ⟨_, rfl⟩
           replace H : (levyref17_Add.j2 kj16 x9_16 x11_16 x12_16 (IntKind.u64.wrap (x10_16 * 274877906944)) ji23 false) = some r := by first | (rw [hji23] at H; exact H) | (simp only [hji23] at H ⊢; exact H)
           have hji23_ : (IntKind.u64.wrap (x13_16 * 2 ^ min (ji21).toNat 64)) = ji23 := hji23
           have hji23z : (ji21) ≤ 64 → (IntKind.u64.wrap (x13_16 * 2 ^ (ji21).toNat)) = ji23 := shl_small hji23
           have H' := Aside0.mk H
           clear H
           go_wp2
           go_meet
           case rel => exact ⟨_, (ji23), (false), (by first | rfl | (simp; done) | (simp only [← hji23] <;> (first | rfl | simp)) | (simp [*]; done)), (by first | rfl | (simp; done) | (simp [*]; done)), H', ⟨by have := HJ6.out; have := HJ16.out; first | omega | exact Nat.le_refl _⟩, by repeat (first | exact Drawn0.refl _ | apply Drawn0.step)⟩
          ·rw [if_neg c22] at H
           exact absurd H (by simp)
         ·rw [if_neg c20] at H
          have c20b0 : decide ((wrap64 (x11_16 - x14_16)) ≤ 38) = false := decide_eq_false c20
          clear c20
          (first | rw [c20b0] | (simp only [i64_w, i32_w]; rw [c20b0]) | skip)
          by_cases c24 : (wrap64 ((wrap64 (x11_16 - x14_16)) - 38)) < 30
          ·rw [if_pos c24] at H
           have c24b0 : decide ((wrap64 ((wrap64 (x11_16 - x14_16)) - 38)) < 30) = true := decide_eq_true c24
           clear c24
           obtain ⟨ji25, hji25⟩ : ∃ j_ : Int, (IntKind.u64.wrap (wrap64 ((wrap64 (x11_16 - x14_16)) - 38))) = j_ := ⟨_, rfl⟩
           replace H : (if 0 ≤ (ji25) then (if (shl .u64 1 (ji25)) = 0 then (none) else (levyref17_Add.j2 kj16 x9_16 x11_16 x12_16 (IntKind.u64.wrap (x10_16 * 274877906944)) (IntKind.u64.wrap (Int.tdiv x13_16 (shl .u64 1 (ji25)))) (decide ((Int.tmod x13_16 (shl .u64 1 (ji25))) > 0)))) else (none)) = some r := by first | (rw [hji25] at H; exact H) | (simp only [hji25] at H ⊢; exact H)
           by_cases c26 : 0 ≤ (ji25)
           ·rw [if_pos c26] at H
            have c26b0 := eq_true c26
            have c26b1 : decide (0 ≤ (ji25)) = true := decide_eq_true c26
            clear c26
            obtain ⟨ji27, hji27⟩ : ∃ j_ : Int, (shl .u64 1 (ji25)) = j_ := ⟨_, rfl⟩
            replace H : (if (ji27) = 0 then (none) else (levyref17_Add.j2 kj16 x9_16 x11_16 x12_16 (IntKind.u64.wrap (x10_16 * 274877906944)) (IntKind.u64.wrap (Int.tdiv x13_16 (ji27))) (decide ((Int.tmod x13_16 (ji27)) > 0)))) = some r := by first | (rw [hji27] at H; exact H) | (simp only [hji27] at H ⊢; exact H)
            have hji27_ : (IntKind.u64.wrap (1 * 2 ^ min (ji25).toNat 64)) = ji27 := hji27
            have hji27z : (ji25) ≤ 64 → (IntKind.u64.wrap (1 * 2 ^ (ji25).toNat)) = ji27 := shl_small hji27
            have hji27u : (IntKind.u64.wrap (2 ^ min (ji25).toNat 64)) = ji27 := by have h_ := hji27_; rw [Int.one_mul] at h_; exact h_
            have hji27v : (ji25) ≤ 64 → (IntKind.u64.wrap (2 ^ (ji25).toNat)) = ji27 := fun hle_ => by have h_ := hji27z hle_; rw [Int.one_mul] at h_; exact h_
            by_cases c28 : (ji27) = 0
            ·rw [if_pos c28] at H
             exact absurd H (by simp)
            ·rw [if_neg c28] at H
             have c28b0 : ((ji27) == 0) = false := beq_eq_false_iff_ne.mpr c28
             have c28b1 : ((ji27) != 0) = true := bne_iff_ne.mpr c28
             have H' := Aside0.mk H
             clear H
             go_wp2
             go_meet
             case rel => exact ⟨_, (IntKind.u64.wrap (Int.tdiv x13_16 (ji27))), (decide ((Int.tmod x13_16 (ji27)) > 0)), (by first | rfl | (simp; done) | (simp only [← hji27] <;> (first | rfl | simp)) | (simp [*]; done)), (by first | rfl | (simp; done) | (simp only [← hji27] <;> (first | rfl | simp)) | (simp [*]; done)), H', ⟨by have := HJ6.out; have := HJ16.out; first | omega | exact Nat.le_refl _⟩, by repeat (first | exact Drawn0.refl _ | apply Drawn0.step)⟩
           ·rw [if_neg c26] at H
            exact absurd H (by simp)
          ·rw [if_neg c24] at H
           have c24b0 : decide ((wrap64 ((wrap64 (x11_16 - x14_16)) - 38)) < 30) = false := decide_eq_false c24
           clear c24
           have H' := Aside0.mk H
           clear H
           go_wp2
           go_meet
           case rel => exact ⟨_, (0), (decide (x13_16 > 0)), (by first | rfl | (simp; done) | (simp [*]; done)), (by first | rfl | (simp; done) | (simp [*]; done)), H', ⟨by have := HJ6.out; have := HJ16.out; first | omega | exact Nat.le_refl _⟩, by repeat (first | exact Drawn0.refl _ | apply Drawn0.step)⟩
        case rest =>
         clear HC19
         try clear c1
         try clear c2
         try clear p2
         try clear c4
         try clear c5
         try clear c6
         try clear p6
         try clear c7
         try clear c8
         try clear c9
         try clear c10
         try clear c11
         try clear c12
         try clear c13
         try clear c14
         try clear c16
         try clear c18
         try clear c18b0
         try clear c20
         try clear c20b0
         try clear c22
         try clear c22b0
         try clear c22b1
         try clear c24
         try clear c24b0
         try clear c26
         try clear c26b0
         try clear c26b1
         try clear c28
         try clear c28b0
         try clear c28b1
         try clear p2
         obtain ⟨kq, x16_18, x17_18, rfl, rfl, HA, HJ18, ⟨mc18, rfl⟩⟩ := hcut
         cases kq with
         | zero => exact absurd HA.out (by simp [levyref17_Add.j2])
         | succ kj18 =>
          have H := HA.out
          clear HA
          simp only [levyref17_Add.j2] at H
          by_cases c29 : (x9_16 == x12_16) = true
          ·rw [if_pos c29] at H
           have c29b0 : (x9_16 == x12_16) = true := c29
           (try (have c29b1 : decide (x9_16 = x12_16) = true := by simpa using c29))
           (try (have c29b2 : (x9_16 == x12_16) = true := by simpa using c29))
           clear c29
           replace H := Option.bind_eq_some_iff.mp H
           obtain ⟨t122, A300, H⟩ := H
           replace H : (some t122) = some r := H
           have A30 := Aside0.mk A300
           clear A300
           obtain rfl := Option.some.inj H
           go_wp2_with (first | ((with_reducible refine gate_callee (f := 34) rfl ?_); refine goesL_ (some 116) rfl rfl Try.func34 (by kernel_rfl) rfl #[.bool x9_16, .int .u64 (IntKind.u64.wrap ((IntKind.u64.wrap (x10_16 * 274877906944)) + x16_18)), .int .i64 (wrap64 (x11_16 - 38)), .bool x17_18] rfl agx ?_; (with_reducible refine (levyref17_rounded.calls x9_16 (IntKind.u64.wrap ((IntKind.u64.wrap (x10_16 * 274877906944)) + x16_18)) (wrap64 (x11_16 - 38)) x17_18 t122 _ A30.out).mono ?_); rintro e w' ⟨rfl, ⟨nd, rfl⟩⟩; refine ⟨_, rfl, ?_⟩))
           go_ret
           exact ⟨by first | rfl | (simp; done) | (simp [*]; done), by repeat (first | exact Drawn0.refl _ | apply Drawn0.step)⟩
          ·rw [if_neg c29] at H
           have c29b0 : (x9_16 == x12_16) = false := by simpa using c29
           (try (have c29b1 : decide (x9_16 = x12_16) = false := by simpa using c29))
           (try (have c29b2 : (x9_16 == x12_16) = false := by simpa using c29))
           (try (have c29b3 : ¬ (x9_16 = x12_16) := by simpa using c29))
           clear c29
           have HC31 := Aside0.mk H
           clear H
           go_upto_region 28 with (fail)
           go_cut [123] (fun v123 wc => ∃ (kq : Nat) (x123_30 : Bool), v123 = .bool x123_30 ∧ Aside0 (levyref17_Add.j3 kq x9_16 x12_16 (IntKind.u64.wrap (x10_16 * 274877906944)) x16_18 x17_18 (wrap64 (x11_16 - 38)) x123_30 = some r) ∧ Aside0 (kq ≤ kj18) ∧ Drawn0 w wc)
           case first =>
            have H := HC31.out
            clear HC31
            by_cases c32 : (IntKind.u64.wrap (x10_16 * 274877906944)) = x16_18
            ·rw [if_pos c32] at H
             have c32b0 : ((IntKind.u64.wrap (x10_16 * 274877906944)) == x16_18) = true := beq_iff_eq.mpr c32
             have c32b1 : ((IntKind.u64.wrap (x10_16 * 274877906944)) != x16_18) = false := bne_eq_false_iff_eq.mpr c32
             clear c32
             (first | rw [c32b0] | (simp only [i64_w, i32_w]; rw [c32b0]) | skip)
             have H' := Aside0.mk H
             clear H
             go_wp2
             go_meet
             case rel => exact ⟨_, (!x17_18), (by first | rfl | (simp; done) | (simp [*]; done)), H', ⟨by have := HJ6.out; have := HJ16.out; have := HJ18.out; first | omega | exact Nat.le_refl _⟩, by repeat (first | exact Drawn0.refl _ | apply Drawn0.step)⟩
            ·rw [if_neg c32] at H
             have c32b0 : ((IntKind.u64.wrap (x10_16 * 274877906944)) == x16_18) = false := beq_eq_false_iff_ne.mpr c32
             have c32b1 : ((IntKind.u64.wrap (x10_16 * 274877906944)) != x16_18) = true := bne_iff_ne.mpr c32
             (first | rw [c32b0] | (simp only [i64_w, i32_w]; rw [c32b0]) | skip)
             have H' := Aside0.mk H
             clear H
             go_wp2
             go_meet
             case rel => exact ⟨_, (false), (by first | rfl | (simp; done) | (simp [*]; done)), H', ⟨by have := HJ6.out; have := HJ16.out; have := HJ18.out; first | omega | exact Nat.le_refl _⟩, by repeat (first | exact Drawn0.refl _ | apply Drawn0.step)⟩
           case rest =>
            clear HC31
            try clear c1
            try clear c2
            try clear p2
            try clear c3
            try clear c4
            try clear c5
            try clear c6
            try clear p6
            try clear c7
            try clear c8
            try clear c9
            try clear c10
            try clear c11
            try clear c12
            try clear c13
            try clear c14
            try clear c16
            try clear c18
            try clear c18b0
            try clear c20
            try clear c20b0
            try clear c22
            try clear c22b0
            try clear c22b1
            try clear c24
            try clear c24b0
            try clear c26
            try clear c26b0
            try clear c26b1
            try clear c28
            try clear c28b0
            try clear c28b1
            try clear c29
            try clear c29b0
            try clear c29b1
            try clear c29b2
            try clear c32
            try clear c32b0
            try clear c32b1
            try clear p2
            try clear p6
            obtain ⟨kq, x123_30, rfl, HA, HJ30, ⟨mc30, rfl⟩⟩ := hcut
            cases kq with
            | zero => exact absurd HA.out (by simp [levyref17_Add.j3])
            | succ kj30 =>
             have H := HA.out
             clear HA
             simp only [levyref17_Add.j3] at H
             by_cases c33 : x123_30 = true
             ·subst c33
              have H1 : (some 0) = some r := by rw [if_pos rfl] at H; exact H
              clear H
              have H := H1
              clear H1
              obtain rfl := Option.some.inj H
              go_wp2
              go_ret
              exact ⟨by first | rfl | (simp; done) | (simp [*]; done), by repeat (first | exact Drawn0.refl _ | apply Drawn0.step)⟩
             ·replace c33 := Bool.eq_false_iff.mpr c33
              subst c33
              have H1 : (if (IntKind.u64.wrap (x10_16 * 274877906944)) ≥ x16_18 then (if x17_18 = true then ((levyref17_rounded.f x9_16 (IntKind.u64.wrap ((IntKind.u64.wrap ((IntKind.u64.wrap (x10_16 * 274877906944)) - x16_18)) - 1)) (wrap64 (x11_16 - 38)) true).bind fun t123 => (some t123)) else ((levyref17_rounded.f x9_16 (IntKind.u64.wrap ((IntKind.u64.wrap (x10_16 * 274877906944)) - x16_18)) (wrap64 (x11_16 - 38)) false).bind fun t124 => (some t124))) else ((levyref17_rounded.f x12_16 (IntKind.u64.wrap (x16_18 - (IntKind.u64.wrap (x10_16 * 274877906944)))) (wrap64 (x11_16 - 38)) false).bind fun t125 => (some t125))) = some r := by rw [if_neg (show ¬ (false = true) by decide)] at H; exact H
              clear H
              have H := H1
              clear H1
              by_cases c34 : (IntKind.u64.wrap (x10_16 * 274877906944)) ≥ x16_18
              ·rw [if_pos c34] at H
               have c34b0 : decide (x16_18 ≤ (IntKind.u64.wrap (x10_16 * 274877906944))) = true := decide_eq_true c34
               clear c34
               by_cases c35 : x17_18 = true
               ·subst c35
                have H1 : ((levyref17_rounded.f x9_16 (IntKind.u64.wrap ((IntKind.u64.wrap ((IntKind.u64.wrap (x10_16 * 274877906944)) - x16_18)) - 1)) (wrap64 (x11_16 - 38)) true).bind fun t123 => (some t123)) = some r := by rw [if_pos rfl] at H; exact H
                clear H
                have H := H1
                clear H1
                replace H := Option.bind_eq_some_iff.mp H
                obtain ⟨t123, A360, H⟩ := H
                replace H : (some t123) = some r := H
                have A36 := Aside0.mk A360
                clear A360
                obtain rfl := Option.some.inj H
                go_wp2_with (first | ((with_reducible refine gate_callee (f := 34) rfl ?_); refine goesL_ (some 134) rfl rfl Try.func34 (by kernel_rfl) rfl #[.bool x9_16, .int .u64 (IntKind.u64.wrap ((IntKind.u64.wrap ((IntKind.u64.wrap (x10_16 * 274877906944)) - x16_18)) - 1)), .int .i64 (wrap64 (x11_16 - 38)), .bool true] rfl agx ?_; (with_reducible refine (levyref17_rounded.calls x9_16 (IntKind.u64.wrap ((IntKind.u64.wrap ((IntKind.u64.wrap (x10_16 * 274877906944)) - x16_18)) - 1)) (wrap64 (x11_16 - 38)) true t123 _ A36.out).mono ?_); rintro e w' ⟨rfl, ⟨nd, rfl⟩⟩; refine ⟨_, rfl, ?_⟩))
                go_ret
                exact ⟨by first | rfl | (simp; done) | (simp [*]; done), by repeat (first | exact Drawn0.refl _ | apply Drawn0.step)⟩
               ·replace c35 := Bool.eq_false_iff.mpr c35
                subst c35
                have H1 : ((levyref17_rounded.f x9_16 (IntKind.u64.wrap ((IntKind.u64.wrap (x10_16 * 274877906944)) - x16_18)) (wrap64 (x11_16 - 38)) false).bind fun t124 => (some t124)) = some r := by rw [if_neg (show ¬ (false = true) by decide)] at H; exact H
                clear H
                have H := H1
                clear H1
                replace H := Option.bind_eq_some_iff.mp H
                obtain ⟨t124, A370, H⟩ := H
                replace H : (some t124) = some r := H
                have A37 := Aside0.mk A370
                clear A370
                obtain rfl := Option.some.inj H
                go_wp2_with (first | ((with_reducible refine gate_callee (f := 34) rfl ?_); refine goesL_ (some 140) rfl rfl Try.func34 (by kernel_rfl) rfl #[.bool x9_16, .int .u64 (IntKind.u64.wrap ((IntKind.u64.wrap (x10_16 * 274877906944)) - x16_18)), .int .i64 (wrap64 (x11_16 - 38)), .bool false] rfl agx ?_; (with_reducible refine (levyref17_rounded.calls x9_16 (IntKind.u64.wrap ((IntKind.u64.wrap (x10_16 * 274877906944)) - x16_18)) (wrap64 (x11_16 - 38)) false t124 _ A37.out).mono ?_); rintro e w' ⟨rfl, ⟨nd, rfl⟩⟩; refine ⟨_, rfl, ?_⟩))
                go_ret
                exact ⟨by first | rfl | (simp; done) | (simp [*]; done), by repeat (first | exact Drawn0.refl _ | apply Drawn0.step)⟩
              ·rw [if_neg c34] at H
               have c34b0 : decide (x16_18 ≤ (IntKind.u64.wrap (x10_16 * 274877906944))) = false := decide_eq_false c34
               clear c34
               replace H := Option.bind_eq_some_iff.mp H
               obtain ⟨t125, A380, H⟩ := H
               replace H : (some t125) = some r := H
               have A38 := Aside0.mk A380
               clear A380
               obtain rfl := Option.some.inj H
               go_wp2_with (first | ((with_reducible refine gate_callee (f := 34) rfl ?_); refine goesL_ (some 146) rfl rfl Try.func34 (by kernel_rfl) rfl #[.bool x12_16, .int .u64 (IntKind.u64.wrap (x16_18 - (IntKind.u64.wrap (x10_16 * 274877906944)))), .int .i64 (wrap64 (x11_16 - 38)), .bool false] rfl agx ?_; (with_reducible refine (levyref17_rounded.calls x12_16 (IntKind.u64.wrap (x16_18 - (IntKind.u64.wrap (x10_16 * 274877906944)))) (wrap64 (x11_16 - 38)) false t125 _ A38.out).mono ?_); rintro e w' ⟨rfl, ⟨nd, rfl⟩⟩; refine ⟨_, rfl, ?_⟩))
               go_ret
               exact ⟨by first | rfl | (simp; done) | (simp [*]; done), by repeat (first | exact Drawn0.refl _ | apply Drawn0.step)⟩
     ·replace c14 := Bool.eq_false_iff.mpr c14
      subst c14
      have H1 : (some a1) = some r := by rw [if_neg (show ¬ (false = true) by decide)] at H; exact H
      clear H
      have H := H1
      clear H1
      obtain rfl := Option.some.inj H
      go_wp2
      go_ret
      exact ⟨by first | rfl | (simp; done) | (simp [*]; done), by repeat (first | exact Drawn0.refl _ | apply Drawn0.step)⟩
    ·replace c13 := Bool.eq_false_iff.mpr c13
     subst c13
     have H1 : (some a0) = some r := by rw [if_neg (show ¬ (false = true) by decide)] at H; exact H
     clear H
     have H := H1
     clear H1
     obtain rfl := Option.some.inj H
     go_wp2
     go_ret
     exact ⟨by first | rfl | (simp; done) | (simp [*]; done), by repeat (first | exact Drawn0.refl _ | apply Drawn0.step)⟩
end Go.Proofs.Ytfhgomcfpmbhnaa.PS
end

section
namespace Go.Proofs.Ytfhgomcfpmbhnaa.PS
open Go.RowKit Go.Proofs.YtfhgomcfpmbhnaaW.PrintWords Go.Proofs.YtfhgomcfpmbhnaaW.PrintLast Go.Proofs.YtfhgomcfpmbhnaaW.PrintMore
attribute [local go_sem] frun_add frun_sub frun_mul frun_quo frun_neg frun_of frun_same frun_store frun_bits frun_from
attribute [local go_sem] max2_int min2_int max_two min_two max_three min_three max_four min_four
set_option linter.unusedVariables false
set_option linter.unusedSimpArgs false
def levyref17_Whole.f (a0 : Int) : Option (Int) := if a0 < 0 then ((levyref17_rounded.f true (IntKind.u64.wrap ((IntKind.u64.wrap (wrap64 (-(wrap64 (a0 + 1))))) + 1)) 0 false).bind fun t104 => (some t104)) else ((levyref17_rounded.f false (IntKind.u64.wrap (a0)) 0 false).bind fun t105 => (some t105))
set_option maxHeartbeats 8000000 in
set_option maxRecDepth 100000 in
theorem levyref17_Whole.calls (a0 : Int) (r : Int) (w : World) (h : levyref17_Whole.f a0 = some r) :
  Calls Try.prog 14 #[.int .i64 a0] w fun e w' => e = .returned (.int .u32 r) ∧ Drawn0 w w' := by
 have H : (if a0 < 0 then ((levyref17_rounded.f true (IntKind.u64.wrap ((IntKind.u64.wrap (wrap64 (-(wrap64 (a0 + 1))))) + 1)) 0 false).bind fun t104 => (some t104)) else ((levyref17_rounded.f false (IntKind.u64.wrap (a0)) 0 false).bind fun t105 => (some t105))) = some r := h
 clear h
 by_cases c2 : a0 < 0
 ·rw [if_pos c2] at H
  have c2b0 : decide (a0 < 0) = true := decide_eq_true c2
  clear c2
  replace H := Option.bind_eq_some_iff.mp H
  obtain ⟨t104, A30, H⟩ := H
  replace H : (some t104) = some r := H
  have A3 := Aside0.mk A30
  clear A30
  obtain rfl := Option.some.inj H
  go_enter Try.func14, Try.ntmps14
  go_wp2_with (first | ((with_reducible refine gate_callee (f := 34) rfl ?_); refine goesL_ (some 10) rfl rfl Try.func34 (by kernel_rfl) rfl #[.bool true, .int .u64 (IntKind.u64.wrap ((IntKind.u64.wrap (wrap64 (-(wrap64 (a0 + 1))))) + 1)), .int .i64 0, .bool false] rfl agx ?_; (with_reducible refine (levyref17_rounded.calls true (IntKind.u64.wrap ((IntKind.u64.wrap (wrap64 (-(wrap64 (a0 + 1))))) + 1)) 0 false t104 _ A3.out).mono ?_); rintro e w' ⟨rfl, ⟨nd, rfl⟩⟩; refine ⟨_, rfl, ?_⟩))
  go_ret
  exact ⟨by first | rfl | (simp; done) | (simp [*]; done), by repeat (first | exact Drawn0.refl _ | apply Drawn0.step)⟩
 ·rw [if_neg c2] at H
  have c2b0 : decide (a0 < 0) = false := decide_eq_false c2
  clear c2
  replace H := Option.bind_eq_some_iff.mp H
  obtain ⟨t105, A40, H⟩ := H
  replace H : (some t105) = some r := H
  have A4 := Aside0.mk A40
  clear A40
  obtain rfl := Option.some.inj H
  go_enter Try.func14, Try.ntmps14
  go_wp2_with (first | ((with_reducible refine gate_callee (f := 34) rfl ?_); refine goesL_ (some 13) rfl rfl Try.func34 (by kernel_rfl) rfl #[.bool false, .int .u64 (IntKind.u64.wrap (a0)), .int .i64 0, .bool false] rfl agx ?_; (with_reducible refine (levyref17_rounded.calls false (IntKind.u64.wrap (a0)) 0 false t105 _ A4.out).mono ?_); rintro e w' ⟨rfl, ⟨nd, rfl⟩⟩; refine ⟨_, rfl, ?_⟩))
  go_ret
  exact ⟨by first | rfl | (simp; done) | (simp [*]; done), by repeat (first | exact Drawn0.refl _ | apply Drawn0.step)⟩
end Go.Proofs.Ytfhgomcfpmbhnaa.PS
end

section
namespace Go.Proofs.Ytfhgomcfpmbhnaa.PS
open Go.RowKit Go.Proofs.YtfhgomcfpmbhnaaW.PrintWords Go.Proofs.YtfhgomcfpmbhnaaW.PrintLast Go.Proofs.YtfhgomcfpmbhnaaW.PrintMore
attribute [local go_sem] frun_add frun_sub frun_mul frun_quo frun_neg frun_of frun_same frun_store frun_bits frun_from
attribute [local go_sem] max2_int min2_int max_two min_two max_three min_three max_four min_four
set_option linter.unusedVariables false
set_option linter.unusedSimpArgs false
def levyref17_Neg.f (a0 : Int) : Option (Int) := if a0 ≥ 2147483648 then (some ((a0 - 2147483648) % 4294967296)) else (some ((a0 + 2147483648) % 4294967296))
set_option maxHeartbeats 8000000 in
set_option maxRecDepth 100000 in
theorem levyref17_Neg.calls (a0 : Int) (r : Int) (w : World) (h : levyref17_Neg.f a0 = some r) :
  Calls Try.prog 72 #[.int .u32 a0] w fun e w' => e = .returned (.int .u32 r) ∧ Drawn0 w w' := by
 have H : (if a0 ≥ 2147483648 then (some ((a0 - 2147483648) % 4294967296)) else (some ((a0 + 2147483648) % 4294967296))) = some r := h
 clear h
 by_cases c2 : a0 ≥ 2147483648
 ·rw [if_pos c2] at H
  have c2b0 : decide (2147483648 ≤ a0) = true := decide_eq_true c2
  clear c2
  obtain rfl := Option.some.inj H
  go_enter Try.func72, Try.ntmps72
  go_wp2
  go_ret
  exact ⟨by first | rfl | (simp; done) | (simp [*]; done), by repeat (first | exact Drawn0.refl _ | apply Drawn0.step)⟩
 ·rw [if_neg c2] at H
  have c2b0 : decide (2147483648 ≤ a0) = false := decide_eq_false c2
  clear c2
  obtain rfl := Option.some.inj H
  go_enter Try.func72, Try.ntmps72
  go_wp2
  go_ret
  exact ⟨by first | rfl | (simp; done) | (simp [*]; done), by repeat (first | exact Drawn0.refl _ | apply Drawn0.step)⟩
end Go.Proofs.Ytfhgomcfpmbhnaa.PS
end

section
namespace Go.Proofs.Ytfhgomcfpmbhnaa.PS
open Go.RowKit Go.Proofs.YtfhgomcfpmbhnaaW.PrintWords Go.Proofs.YtfhgomcfpmbhnaaW.PrintLast Go.Proofs.YtfhgomcfpmbhnaaW.PrintMore
attribute [local go_sem] frun_add frun_sub frun_mul frun_quo frun_neg frun_of frun_same frun_store frun_bits frun_from
attribute [local go_sem] max2_int min2_int max_two min_two max_three min_three max_four min_four
set_option linter.unusedVariables false
set_option linter.unusedSimpArgs false
def levyref17_Sub.f (k : Nat) (a0 : Int) (a1 : Int) : Option (Int) := (levyref17_Neg.f a1).bind fun t126 => ((levyref17_Add.f k a0 t126).bind fun t127 => (some t127))
theorem levyref17_Sub.mono : ∀ a0 a1 k, LeO (levyref17_Sub.f k a0 a1) (levyref17_Sub.f (k + 1) a0 a1) := by
 intro a0 a1 k
 unfold levyref17_Sub.f
 repeat' first
   | (with_reducible exact levyref17_Add.mono _ _ _)
   | (with_reducible exact LeO.refl _)
   | (with_reducible exact LeO.none _)
   | (with_reducible refine LeO.ite ?_ ?_)
   | (with_reducible refine LeO.bind ?_ (fun _ => ?_))
   | exact levyref17_Add.mono _ _ _
   | exact LeO.none _
   | refine LeO.ite ?_ ?_
   | refine LeO.bind ?_ (fun _ => ?_)
set_option maxHeartbeats 8000000 in
set_option maxRecDepth 100000 in
theorem levyref17_Sub.calls (k : Nat) (a0 : Int) (a1 : Int) (r : Int) (w : World) (h : levyref17_Sub.f k a0 a1 = some r) :
  Calls Try.prog 56 #[.int .u32 a0, .int .u32 a1] w fun e w' => e = .returned (.int .u32 r) ∧ Drawn0 w w' := by
 have H : ((levyref17_Neg.f a1).bind fun t126 => ((levyref17_Add.f k a0 t126).bind fun t127 => (some t127))) = some r := h
 clear h
 replace H := Option.bind_eq_some_iff.mp H
 obtain ⟨t126, A30, H⟩ := H
 replace H : ((levyref17_Add.f k a0 t126).bind fun t127 => (some t127)) = some r := H
 have A3 := Aside0.mk A30
 clear A30
 replace H := Option.bind_eq_some_iff.mp H
 obtain ⟨t127, A40, H⟩ := H
 replace H : (some t127) = some r := H
 have A4 := Aside0.mk A40
 clear A40
 obtain rfl := Option.some.inj H
 go_enter Try.func56, Try.ntmps56
 go_wp2_with (first | ((with_reducible refine gate_callee (f := 72) rfl ?_); refine goesL_ (some 8) rfl rfl Try.func72 (by kernel_rfl) rfl #[.int .u32 a1] rfl agx ?_; (with_reducible refine (levyref17_Neg.calls a1 t126 _ A3.out).mono ?_); rintro e w' ⟨rfl, ⟨nd, rfl⟩⟩; refine ⟨_, rfl, ?_⟩) | ((with_reducible refine gate_callee (f := 60) rfl ?_); refine goesL_ (some 11) rfl rfl Try.func60 (by kernel_rfl) rfl #[.int .u32 a0, .int .u32 t126] rfl agx ?_; (with_reducible refine (levyref17_Add.calls k a0 t126 t127 _ A4.out).mono ?_); rintro e w' ⟨rfl, ⟨nd, rfl⟩⟩; refine ⟨_, rfl, ?_⟩))
 go_ret
 exact ⟨by first | rfl | (simp; done) | (simp [*]; done), by repeat (first | exact Drawn0.refl _ | apply Drawn0.step)⟩
end Go.Proofs.Ytfhgomcfpmbhnaa.PS
end

section
namespace Go.Proofs.Ytfhgomcfpmbhnaa.PS
open Go.RowKit Go.Proofs.YtfhgomcfpmbhnaaW.PrintWords Go.Proofs.YtfhgomcfpmbhnaaW.PrintLast Go.Proofs.YtfhgomcfpmbhnaaW.PrintMore
attribute [local go_sem] frun_add frun_sub frun_mul frun_quo frun_neg frun_of frun_same frun_store frun_bits frun_from
attribute [local go_sem] max2_int min2_int max_two min_two max_three min_three max_four min_four
set_option linter.unusedVariables false
set_option linter.unusedSimpArgs false
mutual
def levyref17_Div.l0 : Nat → Bool → Int → Int → Bool → Int → Int → Option (Int)
 | 0, _, _, _, _, _, _ => none
 | k + 1, x7, x8, x9, x10, x11, x12 => if x8 < 8388608 then (levyref17_Div.l0 k x7 (IntKind.u64.wrap (x8 * 2)) (wrap64 (x9 - 1)) x10 x11 x12) else (levyref17_Div.l1 k x7 x8 x9 x10 x11 x12)
def levyref17_Div.l1 : Nat → Bool → Int → Int → Bool → Int → Int → Option (Int)
 | 0, _, _, _, _, _, _ => none
 | k + 1, x7, x8, x9, x10, x11, x12 => if x11 < 8388608 then (levyref17_Div.l1 k x7 x8 x9 x10 (IntKind.u64.wrap (x11 * 2)) (wrap64 (x12 - 1))) else (if x11 = 0 then (none) else ((levyref17_rounded.f (x7 != x10) (IntKind.u64.wrap (Int.tdiv (IntKind.u64.wrap (x8 * 274877906944)) x11)) (wrap64 ((wrap64 (x9 - x12)) - 38)) (decide ((Int.tmod (IntKind.u64.wrap (x8 * 274877906944)) x11) > 0))).bind fun t138 => (some t138)))
end
def levyref17_Div.f (k : Nat) (a0 : Int) (a1 : Int) : Option (Int) := (levyref17_Finite.f a0).bind fun t128 => (if t128 = true then ((levyref17_parts.f a0).bind fun bt131 => ((levyref17_parts.f a1).bind fun bt134 => (if bt131.2.1 = 0 then ((levyref17_signed.f (bt131.1 != bt134.1) 0).bind fun t137 => (some t137)) else (levyref17_Div.l0 k bt131.1 bt131.2.1 bt131.2.2 bt134.1 bt134.2.1 bt134.2.2)))) else ((levyref17_NaN.f a0).bind fun t129 => (if t129 = true then (some 2143289344) else ((levyref17_signed.f ((decide (a0 ≥ 2147483648)) != (decide (a1 ≥ 2147483648))) 2139095040).bind fun t130 => (some t130)))))
theorem levyref17_Div.mono_l : ∀ k, (∀ y0 y1 y2 y3 y4 y5, LeO (levyref17_Div.l0 k y0 y1 y2 y3 y4 y5) (levyref17_Div.l0 (k + 1) y0 y1 y2 y3 y4 y5)) ∧ (∀ y0 y1 y2 y3 y4 y5, LeO (levyref17_Div.l1 k y0 y1 y2 y3 y4 y5) (levyref17_Div.l1 (k + 1) y0 y1 y2 y3 y4 y5))
 | 0 => ⟨fun _ _ _ _ _ _ r h => by simp [levyref17_Div.l0] at h, fun _ _ _ _ _ _ r h => by simp [levyref17_Div.l1] at h⟩
 | k + 1 => by
  obtain ⟨ih0, ih1⟩ := levyref17_Div.mono_l k
  refine ⟨?_, ?_⟩
  ·intro y0 y1 y2 y3 y4 y5
   unfold levyref17_Div.l0
   repeat' first
   | (with_reducible exact ih0 _ _ _ _ _ _)
   | (with_reducible exact ih1 _ _ _ _ _ _)
   | (with_reducible exact LeO.refl _)
   | (with_reducible exact LeO.none _)
   | (with_reducible refine LeO.ite ?_ ?_)
   | (with_reducible refine LeO.bind ?_ (fun _ => ?_))
   | exact ih0 _ _ _ _ _ _
   | exact ih1 _ _ _ _ _ _
   | exact LeO.none _
   | refine LeO.ite ?_ ?_
   | refine LeO.bind ?_ (fun _ => ?_)
  ·intro y0 y1 y2 y3 y4 y5
   unfold levyref17_Div.l1
   repeat' first
   | (with_reducible exact ih0 _ _ _ _ _ _)
   | (with_reducible exact ih1 _ _ _ _ _ _)
   | (with_reducible exact LeO.refl _)
   | (with_reducible exact LeO.none _)
   | (with_reducible refine LeO.ite ?_ ?_)
   | (with_reducible refine LeO.bind ?_ (fun _ => ?_))
   | exact ih0 _ _ _ _ _ _
   | exact ih1 _ _ _ _ _ _
   | exact LeO.none _
   | refine LeO.ite ?_ ?_
   | refine LeO.bind ?_ (fun _ => ?_)
theorem levyref17_Div.mono : ∀ a0 a1 k, LeO (levyref17_Div.f k a0 a1) (levyref17_Div.f (k + 1) a0 a1) := by
 intro a0 a1 k
 obtain ⟨ih0, ih1⟩ := levyref17_Div.mono_l k
 unfold levyref17_Div.f
 repeat' first
   | (with_reducible exact ih0 _ _ _ _ _ _)
   | (with_reducible exact ih1 _ _ _ _ _ _)
   | (with_reducible exact LeO.refl _)
   | (with_reducible exact LeO.none _)
   | (with_reducible refine LeO.ite ?_ ?_)
   | (with_reducible refine LeO.bind ?_ (fun _ => ?_))
   | exact ih0 _ _ _ _ _ _
   | exact ih1 _ _ _ _ _ _
   | exact LeO.none _
   | refine LeO.ite ?_ ?_
   | refine LeO.bind ?_ (fun _ => ?_)
set_option maxHeartbeats 8000000 in
set_option maxRecDepth 100000 in
theorem levyref17_Div.calls (k : Nat) (a0 : Int) (a1 : Int) (r : Int) (w : World) (h : levyref17_Div.f k a0 a1 = some r) :
  Calls Try.prog 57 #[.int .u32 a0, .int .u32 a1] w fun e w' => e = .returned (.int .u32 r) ∧ Drawn0 w w' := by
 have H : ((levyref17_Finite.f a0).bind fun t128 => (if t128 = true then ((levyref17_parts.f a0).bind fun bt131 => ((levyref17_parts.f a1).bind fun bt134 => (if bt131.2.1 = 0 then ((levyref17_signed.f (bt131.1 != bt134.1) 0).bind fun t137 => (some t137)) else (levyref17_Div.l0 k bt131.1 bt131.2.1 bt131.2.2 bt134.1 bt134.2.1 bt134.2.2)))) else ((levyref17_NaN.f a0).bind fun t129 => (if t129 = true then (some 2143289344) else ((levyref17_signed.f ((decide (a0 ≥ 2147483648)) != (decide (a1 ≥ 2147483648))) 2139095040).bind fun t130 => (some t130)))))) = some r := h
 clear h
 replace H := Option.bind_eq_some_iff.mp H
 obtain ⟨t128, A30, H⟩ := H
 replace H : (if t128 = true then ((levyref17_parts.f a0).bind fun bt131 => ((levyref17_parts.f a1).bind fun bt134 => (if bt131.2.1 = 0 then ((levyref17_signed.f (bt131.1 != bt134.1) 0).bind fun t137 => (some t137)) else (levyref17_Div.l0 k bt131.1 bt131.2.1 bt131.2.2 bt134.1 bt134.2.1 bt134.2.2)))) else ((levyref17_NaN.f a0).bind fun t129 => (if t129 = true then (some 2143289344) else ((levyref17_signed.f ((decide (a0 ≥ 2147483648)) != (decide (a1 ≥ 2147483648))) 2139095040).bind fun t130 => (some t130))))) = some r := H
 have A3 := Aside0.mk A30
 clear A30
 by_cases c4 : t128 = true
 ·subst c4
  have H1 : ((levyref17_parts.f a0).bind fun bt131 => ((levyref17_parts.f a1).bind fun bt134 => (if bt131.2.1 = 0 then ((levyref17_signed.f (bt131.1 != bt134.1) 0).bind fun t137 => (some t137)) else (levyref17_Div.l0 k bt131.1 bt131.2.1 bt131.2.2 bt134.1 bt134.2.1 bt134.2.2)))) = some r := by rw [if_pos rfl] at H; exact H
  clear H
  have H := H1
  clear H1
  replace H := Option.bind_eq_some_iff.mp H
  obtain ⟨⟨t131, t132, t133⟩, A50, H⟩ := H
  replace H : ((levyref17_parts.f a1).bind fun bt134 => (if t132 = 0 then ((levyref17_signed.f (t131 != bt134.1) 0).bind fun t137 => (some t137)) else (levyref17_Div.l0 k t131 t132 t133 bt134.1 bt134.2.1 bt134.2.2))) = some r := H
  have A5 := Aside0.mk A50
  clear A50
  replace H := Option.bind_eq_some_iff.mp H
  obtain ⟨⟨t134, t135, t136⟩, A60, H⟩ := H
  replace H : (if t132 = 0 then ((levyref17_signed.f (t131 != t134) 0).bind fun t137 => (some t137)) else (levyref17_Div.l0 k t131 t132 t133 t134 t135 t136)) = some r := H
  have A6 := Aside0.mk A60
  clear A60
  by_cases c7 : t132 = 0
  ·rw [if_pos c7] at H
   have c7b0 : (t132 == 0) = true := beq_iff_eq.mpr c7
   have c7b1 : (t132 != 0) = false := bne_eq_false_iff_eq.mpr c7
   clear c7
   replace H := Option.bind_eq_some_iff.mp H
   obtain ⟨t137, A80, H⟩ := H
   replace H : (some t137) = some r := H
   have A8 := Aside0.mk A80
   clear A80
   obtain rfl := Option.some.inj H
   go_enter Try.func57, Try.ntmps57
   go_wp2_with (first | (go_at_call 58; (with_reducible refine (levyref17_Finite.calls a0 true _ A3.out).mono ?_); rintro e w' ⟨rfl, ⟨nd, rfl⟩⟩; (try first | exact ⟨rfl, _, World.drewN_drewN _ _ _⟩ | exact ⟨rfl, _, Eq.trans (World.drewN_drewN _ _ _) (congrArg (World.drewN _) (Nat.add_assoc _ _ _))⟩)) | (go_at_call 73; (with_reducible refine (levyref17_parts.calls a0 t131 t132 t133 _ A5.out).mono ?_); rintro e w' ⟨rfl, ⟨nd, rfl⟩⟩; (try first | exact ⟨rfl, _, World.drewN_drewN _ _ _⟩ | exact ⟨rfl, _, Eq.trans (World.drewN_drewN _ _ _) (congrArg (World.drewN _) (Nat.add_assoc _ _ _))⟩)) | (go_at_call 73; (with_reducible refine (levyref17_parts.calls a1 t134 t135 t136 _ A6.out).mono ?_); rintro e w' ⟨rfl, ⟨nd, rfl⟩⟩; (try first | exact ⟨rfl, _, World.drewN_drewN _ _ _⟩ | exact ⟨rfl, _, Eq.trans (World.drewN_drewN _ _ _) (congrArg (World.drewN _) (Nat.add_assoc _ _ _))⟩)) | (go_at_call 53; (try rw [show (!(t131 == t134)) = (t131 != t134) from rfl]); (with_reducible refine (levyref17_signed.calls (t131 != t134) 0 t137 _ A8.out).mono ?_); rintro e w' ⟨rfl, ⟨nd, rfl⟩⟩; (try first | exact ⟨rfl, _, World.drewN_drewN _ _ _⟩ | exact ⟨rfl, _, Eq.trans (World.drewN_drewN _ _ _) (congrArg (World.drewN _) (Nat.add_assoc _ _ _))⟩)))
   repeat (go_quiet (first | (go_at_call 58; (with_reducible refine (levyref17_Finite.calls a0 true _ A3.out).mono ?_); rintro e w' ⟨rfl, ⟨nd, rfl⟩⟩; (try first | exact ⟨rfl, _, World.drewN_drewN _ _ _⟩ | exact ⟨rfl, _, Eq.trans (World.drewN_drewN _ _ _) (congrArg (World.drewN _) (Nat.add_assoc _ _ _))⟩)) | (go_at_call 73; (with_reducible refine (levyref17_parts.calls a0 t131 t132 t133 _ A5.out).mono ?_); rintro e w' ⟨rfl, ⟨nd, rfl⟩⟩; (try first | exact ⟨rfl, _, World.drewN_drewN _ _ _⟩ | exact ⟨rfl, _, Eq.trans (World.drewN_drewN _ _ _) (congrArg (World.drewN _) (Nat.add_assoc _ _ _))⟩)) | (go_at_call 73; (with_reducible refine (levyref17_parts.calls a1 t134 t135 t136 _ A6.out).mono ?_); rintro e w' ⟨rfl, ⟨nd, rfl⟩⟩; (try first | exact ⟨rfl, _, World.drewN_drewN _ _ _⟩ | exact ⟨rfl, _, Eq.trans (World.drewN_drewN _ _ _) (congrArg (World.drewN _) (Nat.add_assoc _ _ _))⟩)) | (go_at_call 53; (try rw [show (!(t131 == t134)) = (t131 != t134) from rfl]); (with_reducible refine (levyref17_signed.calls (t131 != t134) 0 t137 _ A8.out).mono ?_); rintro e w' ⟨rfl, ⟨nd, rfl⟩⟩; (try first | exact ⟨rfl, _, World.drewN_drewN _ _ _⟩ | exact ⟨rfl, _, Eq.trans (World.drewN_drewN _ _ _) (congrArg (World.drewN _) (Nat.add_assoc _ _ _))⟩))); try go_wp2_with (first | (go_at_call 58; (with_reducible refine (levyref17_Finite.calls a0 true _ A3.out).mono ?_); rintro e w' ⟨rfl, ⟨nd, rfl⟩⟩; (try first | exact ⟨rfl, _, World.drewN_drewN _ _ _⟩ | exact ⟨rfl, _, Eq.trans (World.drewN_drewN _ _ _) (congrArg (World.drewN _) (Nat.add_assoc _ _ _))⟩)) | (go_at_call 73; (with_reducible refine (levyref17_parts.calls a0 t131 t132 t133 _ A5.out).mono ?_); rintro e w' ⟨rfl, ⟨nd, rfl⟩⟩; (try first | exact ⟨rfl, _, World.drewN_drewN _ _ _⟩ | exact ⟨rfl, _, Eq.trans (World.drewN_drewN _ _ _) (congrArg (World.drewN _) (Nat.add_assoc _ _ _))⟩)) | (go_at_call 73; (with_reducible refine (levyref17_parts.calls a1 t134 t135 t136 _ A6.out).mono ?_); rintro e w' ⟨rfl, ⟨nd, rfl⟩⟩; (try first | exact ⟨rfl, _, World.drewN_drewN _ _ _⟩ | exact ⟨rfl, _, Eq.trans (World.drewN_drewN _ _ _) (congrArg (World.drewN _) (Nat.add_assoc _ _ _))⟩)) | (go_at_call 53; (try rw [show (!(t131 == t134)) = (t131 != t134) from rfl]); (with_reducible refine (levyref17_signed.calls (t131 != t134) 0 t137 _ A8.out).mono ?_); rintro e w' ⟨rfl, ⟨nd, rfl⟩⟩; (try first | exact ⟨rfl, _, World.drewN_drewN _ _ _⟩ | exact ⟨rfl, _, Eq.trans (World.drewN_drewN _ _ _) (congrArg (World.drewN _) (Nat.add_assoc _ _ _))⟩))))
   go_ret
   exact ⟨by first | rfl | (simp; done) | (simp [*]; done), by repeat (first | exact Drawn0.refl _ | apply Drawn0.step)⟩
  ·rw [if_neg c7] at H
   have c7b0 : (t132 == 0) = false := beq_eq_false_iff_ne.mpr c7
   have c7b1 : (t132 != 0) = true := bne_iff_ne.mpr c7
   have H' := Aside0.mk H
   clear H
   go_enter Try.func57, Try.ntmps57
   go_wp2_with (first | (go_at_call 58; (with_reducible refine (levyref17_Finite.calls a0 true _ A3.out).mono ?_); rintro e w' ⟨rfl, ⟨nd, rfl⟩⟩; (try first | exact ⟨rfl, _, World.drewN_drewN _ _ _⟩ | exact ⟨rfl, _, Eq.trans (World.drewN_drewN _ _ _) (congrArg (World.drewN _) (Nat.add_assoc _ _ _))⟩)) | (go_at_call 73; (with_reducible refine (levyref17_parts.calls a0 t131 t132 t133 _ A5.out).mono ?_); rintro e w' ⟨rfl, ⟨nd, rfl⟩⟩; (try first | exact ⟨rfl, _, World.drewN_drewN _ _ _⟩ | exact ⟨rfl, _, Eq.trans (World.drewN_drewN _ _ _) (congrArg (World.drewN _) (Nat.add_assoc _ _ _))⟩)) | (go_at_call 73; (with_reducible refine (levyref17_parts.calls a1 t134 t135 t136 _ A6.out).mono ?_); rintro e w' ⟨rfl, ⟨nd, rfl⟩⟩; (try first | exact ⟨rfl, _, World.drewN_drewN _ _ _⟩ | exact ⟨rfl, _, Eq.trans (World.drewN_drewN _ _ _) (congrArg (World.drewN _) (Nat.add_assoc _ _ _))⟩)))
   repeat (go_quiet (first | (go_at_call 58; (with_reducible refine (levyref17_Finite.calls a0 true _ A3.out).mono ?_); rintro e w' ⟨rfl, ⟨nd, rfl⟩⟩; (try first | exact ⟨rfl, _, World.drewN_drewN _ _ _⟩ | exact ⟨rfl, _, Eq.trans (World.drewN_drewN _ _ _) (congrArg (World.drewN _) (Nat.add_assoc _ _ _))⟩)) | (go_at_call 73; (with_reducible refine (levyref17_parts.calls a0 t131 t132 t133 _ A5.out).mono ?_); rintro e w' ⟨rfl, ⟨nd, rfl⟩⟩; (try first | exact ⟨rfl, _, World.drewN_drewN _ _ _⟩ | exact ⟨rfl, _, Eq.trans (World.drewN_drewN _ _ _) (congrArg (World.drewN _) (Nat.add_assoc _ _ _))⟩)) | (go_at_call 73; (with_reducible refine (levyref17_parts.calls a1 t134 t135 t136 _ A6.out).mono ?_); rintro e w' ⟨rfl, ⟨nd, rfl⟩⟩; (try first | exact ⟨rfl, _, World.drewN_drewN _ _ _⟩ | exact ⟨rfl, _, Eq.trans (World.drewN_drewN _ _ _) (congrArg (World.drewN _) (Nat.add_assoc _ _ _))⟩))); try go_wp2_with (first | (go_at_call 58; (with_reducible refine (levyref17_Finite.calls a0 true _ A3.out).mono ?_); rintro e w' ⟨rfl, ⟨nd, rfl⟩⟩; (try first | exact ⟨rfl, _, World.drewN_drewN _ _ _⟩ | exact ⟨rfl, _, Eq.trans (World.drewN_drewN _ _ _) (congrArg (World.drewN _) (Nat.add_assoc _ _ _))⟩)) | (go_at_call 73; (with_reducible refine (levyref17_parts.calls a0 t131 t132 t133 _ A5.out).mono ?_); rintro e w' ⟨rfl, ⟨nd, rfl⟩⟩; (try first | exact ⟨rfl, _, World.drewN_drewN _ _ _⟩ | exact ⟨rfl, _, Eq.trans (World.drewN_drewN _ _ _) (congrArg (World.drewN _) (Nat.add_assoc _ _ _))⟩)) | (go_at_call 73; (with_reducible refine (levyref17_parts.calls a1 t134 t135 t136 _ A6.out).mono ?_); rintro e w' ⟨rfl, ⟨nd, rfl⟩⟩; (try first | exact ⟨rfl, _, World.drewN_drewN _ _ _⟩ | exact ⟨rfl, _, Eq.trans (World.drewN_drewN _ _ _) (congrArg (World.drewN _) (Nat.add_assoc _ _ _))⟩))))
   go_loopg [8, 9] k (fun kq v8 v9 w' => ∃ (x8_1 : Int) (x9_1 : Int), v8 = .int .u64 x8_1 ∧ v9 = .int .i64 x9_1 ∧ Aside0 (levyref17_Div.l0 kq t131 x8_1 x9_1 t134 t135 t136 = some r) ∧ Aside0 (kq ≤ k) ∧ Drawn0 w w')
   case atStart => exact ⟨(t132), (t133), (by first | rfl | (simp; done) | (simp [*]; done)), (by first | rfl | (simp; done) | (simp [*]; done)), H', ⟨Nat.le_refl _⟩, by repeat (first | exact Drawn0.refl _ | apply Drawn0.step)⟩
   case round =>
    clear H'
    try clear p2
    try clear c4
    try clear c5
    try clear c7
    try clear c7b0
    try clear c7b1
    obtain ⟨x8_1, x9_1, rfl, rfl, HA, HK1, ⟨m1, rfl⟩⟩ := hrel
    cases gk with
    | zero => exact absurd HA.out (by simp [levyref17_Div.l0])
    | succ k1 =>
     have H := HA.out
     clear HA
     simp only [levyref17_Div.l0] at H
     by_cases c9 : x8_1 < 8388608
     ·rw [if_pos c9] at H
      have c9b0 : decide (x8_1 < 8388608) = true := decide_eq_true c9
      clear c9
      have H' := Aside0.mk H
      clear H
      go_wp2
      repeat (go_quiet (fail); try go_wp2)
      go_roundg k1
      case measure => have := HK1.out; omega
      case rel => exact ⟨(IntKind.u64.wrap (x8_1 * 2)), (wrap64 (x9_1 - 1)), (by first | rfl | (simp; done) | (simp [*]; done)), (by first | rfl | (simp; done) | (simp [*]; done)), H', ⟨by have := HK1.out; omega⟩, by repeat (first | exact Drawn0.refl _ | apply Drawn0.step)⟩
     ·rw [if_neg c9] at H
      have c9b0 : decide (x8_1 < 8388608) = false := decide_eq_false c9
      clear c9
      have H' := Aside0.mk H
      clear H
      go_wp2
      repeat (go_quiet (fail); try go_wp2)
      go_loopg [11, 12] k1 (fun kq v11 v12 w' => ∃ (x11_2 : Int) (x12_2 : Int), v11 = .int .u64 x11_2 ∧ v12 = .int .i64 x12_2 ∧ Aside0 (levyref17_Div.l1 kq t131 x8_1 x9_1 t134 x11_2 x12_2 = some r) ∧ Aside0 (kq ≤ k1) ∧ Drawn0 w w')
      case atStart => exact ⟨(t135), (t136), (by first | rfl | (simp; done) | (simp [*]; done)), (by first | rfl | (simp; done) | (simp [*]; done)), H', ⟨Nat.le_refl _⟩, by repeat (first | exact Drawn0.refl _ | apply Drawn0.step)⟩
      case round =>
       clear H'
       try clear p2
       try clear c4
       try clear c5
       try clear p6
       try clear c7
       try clear c7b0
       try clear c7b1
       try clear c9
       try clear c9b0
       try clear p2
       obtain ⟨x11_2, x12_2, rfl, rfl, HA, HK2, ⟨m2, rfl⟩⟩ := hrel
       cases gk with
       | zero => exact absurd HA.out (by simp [levyref17_Div.l1])
       | succ k2 =>
        have H := HA.out
        clear HA
        simp only [levyref17_Div.l1] at H
        by_cases c10 : x11_2 < 8388608
        ·rw [if_pos c10] at H
         have c10b0 : decide (x11_2 < 8388608) = true := decide_eq_true c10
         clear c10
         have H' := Aside0.mk H
         clear H
         go_wp2
         repeat (go_quiet (fail); try go_wp2)
         go_roundg k2
         case measure => have := HK1.out; have := HK2.out; omega
         case rel => exact ⟨(IntKind.u64.wrap (x11_2 * 2)), (wrap64 (x12_2 - 1)), (by first | rfl | (simp; done) | (simp [*]; done)), (by first | rfl | (simp; done) | (simp [*]; done)), H', ⟨by have := HK1.out; have := HK2.out; omega⟩, by repeat (first | exact Drawn0.refl _ | apply Drawn0.step)⟩
        ·rw [if_neg c10] at H
         have c10b0 : decide (x11_2 < 8388608) = false := decide_eq_false c10
         clear c10
         by_cases c11 : x11_2 = 0
         ·rw [if_pos c11] at H
          exact absurd H (by simp)
         ·rw [if_neg c11] at H
          have c11b0 : (x11_2 == 0) = false := beq_eq_false_iff_ne.mpr c11
          have c11b1 : (x11_2 != 0) = true := bne_iff_ne.mpr c11
          replace H := Option.bind_eq_some_iff.mp H
          obtain ⟨t138, A120, H⟩ := H
          replace H : (some t138) = some r := H
          have A12 := Aside0.mk A120
          clear A120
          obtain rfl := Option.some.inj H
          go_wp2_with (first | (go_at_call 34; (try rw [show (!(t131 == t134)) = (t131 != t134) from rfl]); (with_reducible refine (levyref17_rounded.calls (t131 != t134) (IntKind.u64.wrap (Int.tdiv (IntKind.u64.wrap (x8_1 * 274877906944)) x11_2)) (wrap64 ((wrap64 (x9_1 - x12_2)) - 38)) (decide ((Int.tmod (IntKind.u64.wrap (x8_1 * 274877906944)) x11_2) > 0)) t138 _ A12.out).mono ?_); rintro e w' ⟨rfl, ⟨nd, rfl⟩⟩; (try first | exact ⟨rfl, _, World.drewN_drewN _ _ _⟩ | exact ⟨rfl, _, Eq.trans (World.drewN_drewN _ _ _) (congrArg (World.drewN _) (Nat.add_assoc _ _ _))⟩)))
          repeat (go_quiet (first | (go_at_call 34; (try rw [show (!(t131 == t134)) = (t131 != t134) from rfl]); (with_reducible refine (levyref17_rounded.calls (t131 != t134) (IntKind.u64.wrap (Int.tdiv (IntKind.u64.wrap (x8_1 * 274877906944)) x11_2)) (wrap64 ((wrap64 (x9_1 - x12_2)) - 38)) (decide ((Int.tmod (IntKind.u64.wrap (x8_1 * 274877906944)) x11_2) > 0)) t138 _ A12.out).mono ?_); rintro e w' ⟨rfl, ⟨nd, rfl⟩⟩; (try first | exact ⟨rfl, _, World.drewN_drewN _ _ _⟩ | exact ⟨rfl, _, Eq.trans (World.drewN_drewN _ _ _) (congrArg (World.drewN _) (Nat.add_assoc _ _ _))⟩))); try go_wp2_with (first | (go_at_call 34; (try rw [show (!(t131 == t134)) = (t131 != t134) from rfl]); (with_reducible refine (levyref17_rounded.calls (t131 != t134) (IntKind.u64.wrap (Int.tdiv (IntKind.u64.wrap (x8_1 * 274877906944)) x11_2)) (wrap64 ((wrap64 (x9_1 - x12_2)) - 38)) (decide ((Int.tmod (IntKind.u64.wrap (x8_1 * 274877906944)) x11_2) > 0)) t138 _ A12.out).mono ?_); rintro e w' ⟨rfl, ⟨nd, rfl⟩⟩; (try first | exact ⟨rfl, _, World.drewN_drewN _ _ _⟩ | exact ⟨rfl, _, Eq.trans (World.drewN_drewN _ _ _) (congrArg (World.drewN _) (Nat.add_assoc _ _ _))⟩))))
          go_ret
          exact ⟨by first | rfl | (simp; done) | (simp [*]; done), by repeat (first | exact Drawn0.refl _ | apply Drawn0.step)⟩
 ·replace c4 := Bool.eq_false_iff.mpr c4
  subst c4
  have H1 : ((levyref17_NaN.f a0).bind fun t129 => (if t129 = true then (some 2143289344) else ((levyref17_signed.f ((decide (a0 ≥ 2147483648)) != (decide (a1 ≥ 2147483648))) 2139095040).bind fun t130 => (some t130)))) = some r := by rw [if_neg (show ¬ (false = true) by decide)] at H; exact H
  clear H
  have H := H1
  clear H1
  replace H := Option.bind_eq_some_iff.mp H
  obtain ⟨t129, A130, H⟩ := H
  replace H : (if t129 = true then (some 2143289344) else ((levyref17_signed.f ((decide (a0 ≥ 2147483648)) != (decide (a1 ≥ 2147483648))) 2139095040).bind fun t130 => (some t130))) = some r := H
  have A13 := Aside0.mk A130
  clear A130
  by_cases c14 : t129 = true
  ·subst c14
   have H1 : (some 2143289344) = some r := by rw [if_pos rfl] at H; exact H
   clear H
   have H := H1
   clear H1
   obtain rfl := Option.some.inj H
   go_enter Try.func57, Try.ntmps57
   go_wp2_with (first | (go_at_call 58; (with_reducible refine (levyref17_Finite.calls a0 false _ A3.out).mono ?_); rintro e w' ⟨rfl, ⟨nd, rfl⟩⟩; (try first | exact ⟨rfl, _, World.drewN_drewN _ _ _⟩ | exact ⟨rfl, _, Eq.trans (World.drewN_drewN _ _ _) (congrArg (World.drewN _) (Nat.add_assoc _ _ _))⟩)) | (go_at_call 41; (with_reducible refine (levyref17_NaN.calls a0 true _ A13.out).mono ?_); rintro e w' ⟨rfl, ⟨nd, rfl⟩⟩; (try first | exact ⟨rfl, _, World.drewN_drewN _ _ _⟩ | exact ⟨rfl, _, Eq.trans (World.drewN_drewN _ _ _) (congrArg (World.drewN _) (Nat.add_assoc _ _ _))⟩)))
   repeat (go_quiet (first | (go_at_call 58; (with_reducible refine (levyref17_Finite.calls a0 false _ A3.out).mono ?_); rintro e w' ⟨rfl, ⟨nd, rfl⟩⟩; (try first | exact ⟨rfl, _, World.drewN_drewN _ _ _⟩ | exact ⟨rfl, _, Eq.trans (World.drewN_drewN _ _ _) (congrArg (World.drewN _) (Nat.add_assoc _ _ _))⟩)) | (go_at_call 41; (with_reducible refine (levyref17_NaN.calls a0 true _ A13.out).mono ?_); rintro e w' ⟨rfl, ⟨nd, rfl⟩⟩; (try first | exact ⟨rfl, _, World.drewN_drewN _ _ _⟩ | exact ⟨rfl, _, Eq.trans (World.drewN_drewN _ _ _) (congrArg (World.drewN _) (Nat.add_assoc _ _ _))⟩))); try go_wp2_with (first | (go_at_call 58; (with_reducible refine (levyref17_Finite.calls a0 false _ A3.out).mono ?_); rintro e w' ⟨rfl, ⟨nd, rfl⟩⟩; (try first | exact ⟨rfl, _, World.drewN_drewN _ _ _⟩ | exact ⟨rfl, _, Eq.trans (World.drewN_drewN _ _ _) (congrArg (World.drewN _) (Nat.add_assoc _ _ _))⟩)) | (go_at_call 41; (with_reducible refine (levyref17_NaN.calls a0 true _ A13.out).mono ?_); rintro e w' ⟨rfl, ⟨nd, rfl⟩⟩; (try first | exact ⟨rfl, _, World.drewN_drewN _ _ _⟩ | exact ⟨rfl, _, Eq.trans (World.drewN_drewN _ _ _) (congrArg (World.drewN _) (Nat.add_assoc _ _ _))⟩))))
   go_ret
   exact ⟨by first | rfl | (simp; done) | (simp [*]; done), by repeat (first | exact Drawn0.refl _ | apply Drawn0.step)⟩
  ·replace c14 := Bool.eq_false_iff.mpr c14
   subst c14
   have H1 : ((levyref17_signed.f ((decide (a0 ≥ 2147483648)) != (decide (a1 ≥ 2147483648))) 2139095040).bind fun t130 => (some t130)) = some r := by rw [if_neg (show ¬ (false = true) by decide)] at H; exact H
   clear H
   have H := H1
   clear H1
   replace H := Option.bind_eq_some_iff.mp H
   obtain ⟨t130, A150, H⟩ := H
   replace H : (some t130) = some r := H
   have A15 := Aside0.mk A150
   clear A150
   obtain rfl := Option.some.inj H
   go_enter Try.func57, Try.ntmps57
   go_wp2_with (first | (go_at_call 58; (with_reducible refine (levyref17_Finite.calls a0 false _ A3.out).mono ?_); rintro e w' ⟨rfl, ⟨nd, rfl⟩⟩; (try first | exact ⟨rfl, _, World.drewN_drewN _ _ _⟩ | exact ⟨rfl, _, Eq.trans (World.drewN_drewN _ _ _) (congrArg (World.drewN _) (Nat.add_assoc _ _ _))⟩)) | (go_at_call 41; (with_reducible refine (levyref17_NaN.calls a0 false _ A13.out).mono ?_); rintro e w' ⟨rfl, ⟨nd, rfl⟩⟩; (try first | exact ⟨rfl, _, World.drewN_drewN _ _ _⟩ | exact ⟨rfl, _, Eq.trans (World.drewN_drewN _ _ _) (congrArg (World.drewN _) (Nat.add_assoc _ _ _))⟩)) | (go_at_call 53; (try rw [show (!(decide (2147483648 ≤ a0) == decide (2147483648 ≤ a1))) = ((decide (a0 ≥ 2147483648)) != (decide (a1 ≥ 2147483648))) from rfl]); (with_reducible refine (levyref17_signed.calls ((decide (a0 ≥ 2147483648)) != (decide (a1 ≥ 2147483648))) 2139095040 t130 _ A15.out).mono ?_); rintro e w' ⟨rfl, ⟨nd, rfl⟩⟩; (try first | exact ⟨rfl, _, World.drewN_drewN _ _ _⟩ | exact ⟨rfl, _, Eq.trans (World.drewN_drewN _ _ _) (congrArg (World.drewN _) (Nat.add_assoc _ _ _))⟩)))
   repeat (go_quiet (first | (go_at_call 58; (with_reducible refine (levyref17_Finite.calls a0 false _ A3.out).mono ?_); rintro e w' ⟨rfl, ⟨nd, rfl⟩⟩; (try first | exact ⟨rfl, _, World.drewN_drewN _ _ _⟩ | exact ⟨rfl, _, Eq.trans (World.drewN_drewN _ _ _) (congrArg (World.drewN _) (Nat.add_assoc _ _ _))⟩)) | (go_at_call 41; (with_reducible refine (levyref17_NaN.calls a0 false _ A13.out).mono ?_); rintro e w' ⟨rfl, ⟨nd, rfl⟩⟩; (try first | exact ⟨rfl, _, World.drewN_drewN _ _ _⟩ | exact ⟨rfl, _, Eq.trans (World.drewN_drewN _ _ _) (congrArg (World.drewN _) (Nat.add_assoc _ _ _))⟩)) | (go_at_call 53; (try rw [show (!(decide (2147483648 ≤ a0) == decide (2147483648 ≤ a1))) = ((decide (a0 ≥ 2147483648)) != (decide (a1 ≥ 2147483648))) from rfl]); (with_reducible refine (levyref17_signed.calls ((decide (a0 ≥ 2147483648)) != (decide (a1 ≥ 2147483648))) 2139095040 t130 _ A15.out).mono ?_); rintro e w' ⟨rfl, ⟨nd, rfl⟩⟩; (try first | exact ⟨rfl, _, World.drewN_drewN _ _ _⟩ | exact ⟨rfl, _, Eq.trans (World.drewN_drewN _ _ _) (congrArg (World.drewN _) (Nat.add_assoc _ _ _))⟩))); try go_wp2_with (first | (go_at_call 58; (with_reducible refine (levyref17_Finite.calls a0 false _ A3.out).mono ?_); rintro e w' ⟨rfl, ⟨nd, rfl⟩⟩; (try first | exact ⟨rfl, _, World.drewN_drewN _ _ _⟩ | exact ⟨rfl, _, Eq.trans (World.drewN_drewN _ _ _) (congrArg (World.drewN _) (Nat.add_assoc _ _ _))⟩)) | (go_at_call 41; (with_reducible refine (levyref17_NaN.calls a0 false _ A13.out).mono ?_); rintro e w' ⟨rfl, ⟨nd, rfl⟩⟩; (try first | exact ⟨rfl, _, World.drewN_drewN _ _ _⟩ | exact ⟨rfl, _, Eq.trans (World.drewN_drewN _ _ _) (congrArg (World.drewN _) (Nat.add_assoc _ _ _))⟩)) | (go_at_call 53; (try rw [show (!(decide (2147483648 ≤ a0) == decide (2147483648 ≤ a1))) = ((decide (a0 ≥ 2147483648)) != (decide (a1 ≥ 2147483648))) from rfl]); (with_reducible refine (levyref17_signed.calls ((decide (a0 ≥ 2147483648)) != (decide (a1 ≥ 2147483648))) 2139095040 t130 _ A15.out).mono ?_); rintro e w' ⟨rfl, ⟨nd, rfl⟩⟩; (try first | exact ⟨rfl, _, World.drewN_drewN _ _ _⟩ | exact ⟨rfl, _, Eq.trans (World.drewN_drewN _ _ _) (congrArg (World.drewN _) (Nat.add_assoc _ _ _))⟩))))
   go_ret
   exact ⟨by first | rfl | (simp; done) | (simp [*]; done), by repeat (first | exact Drawn0.refl _ | apply Drawn0.step)⟩
end Go.Proofs.Ytfhgomcfpmbhnaa.PS
end

section
namespace Go.Proofs.Ytfhgomcfpmbhnaa.PS
open Go.RowKit Go.Proofs.YtfhgomcfpmbhnaaW.PrintWords Go.Proofs.YtfhgomcfpmbhnaaW.PrintLast Go.Proofs.YtfhgomcfpmbhnaaW.PrintMore
attribute [local go_sem] frun_add frun_sub frun_mul frun_quo frun_neg frun_of frun_same frun_store frun_bits frun_from
attribute [local go_sem] max2_int min2_int max_two min_two max_three min_three max_four min_four
set_option linter.unusedVariables false
set_option linter.unusedSimpArgs false
def levyref17_Mul.f (a0 : Int) (a1 : Int) : Option (Int) := (levyref17_parts.f a0).bind fun bt139 => ((levyref17_parts.f a1).bind fun bt142 => ((levyref17_rounded.f (bt139.1 != bt142.1) (IntKind.u64.wrap (bt139.2.1 * bt142.2.1)) (wrap64 (bt139.2.2 + bt142.2.2)) false).bind fun t145 => (some t145)))
set_option maxHeartbeats 8000000 in
set_option maxRecDepth 100000 in
theorem levyref17_Mul.calls (a0 : Int) (a1 : Int) (r : Int) (w : World) (h : levyref17_Mul.f a0 a1 = some r) :
  Calls Try.prog 59 #[.int .u32 a0, .int .u32 a1] w fun e w' => e = .returned (.int .u32 r) ∧ Drawn0 w w' := by
 have H : ((levyref17_parts.f a0).bind fun bt139 => ((levyref17_parts.f a1).bind fun bt142 => ((levyref17_rounded.f (bt139.1 != bt142.1) (IntKind.u64.wrap (bt139.2.1 * bt142.2.1)) (wrap64 (bt139.2.2 + bt142.2.2)) false).bind fun t145 => (some t145)))) = some r := h
 clear h
 replace H := Option.bind_eq_some_iff.mp H
 obtain ⟨⟨t139, t140, t141⟩, A30, H⟩ := H
 replace H : ((levyref17_parts.f a1).bind fun bt142 => ((levyref17_rounded.f (t139 != bt142.1) (IntKind.u64.wrap (t140 * bt142.2.1)) (wrap64 (t141 + bt142.2.2)) false).bind fun t145 => (some t145))) = some r := H
 have A3 := Aside0.mk A30
 clear A30
 replace H := Option.bind_eq_some_iff.mp H
 obtain ⟨⟨t142, t143, t144⟩, A40, H⟩ := H
 replace H : ((levyref17_rounded.f (t139 != t142) (IntKind.u64.wrap (t140 * t143)) (wrap64 (t141 + t144)) false).bind fun t145 => (some t145)) = some r := H
 have A4 := Aside0.mk A40
 clear A40
 replace H := Option.bind_eq_some_iff.mp H
 obtain ⟨t145, A50, H⟩ := H
 replace H : (some t145) = some r := H
 have A5 := Aside0.mk A50
 clear A50
 obtain rfl := Option.some.inj H
 go_enter Try.func59, Try.ntmps59
 go_wp2_with (first | ((with_reducible refine gate_callee (f := 73) rfl ?_); refine goesL_ (some 13) rfl rfl Try.func73 (by kernel_rfl) rfl #[.int .u32 a0] rfl agx ?_; (with_reducible refine (levyref17_parts.calls a0 t139 t140 t141 _ A3.out).mono ?_); rintro e w' ⟨rfl, ⟨nd, rfl⟩⟩; refine ⟨_, rfl, ?_⟩) | ((with_reducible refine gate_callee (f := 73) rfl ?_); refine goesL_ (some 19) rfl rfl Try.func73 (by kernel_rfl) rfl #[.int .u32 a1] rfl agx ?_; (with_reducible refine (levyref17_parts.calls a1 t142 t143 t144 _ A4.out).mono ?_); rintro e w' ⟨rfl, ⟨nd, rfl⟩⟩; refine ⟨_, rfl, ?_⟩) | ((with_reducible refine gate_callee (f := 34) rfl ?_); refine goesL_ (some 32) rfl rfl Try.func34 (by kernel_rfl) rfl #[.bool (t139 != t142), .int .u64 (IntKind.u64.wrap (t140 * t143)), .int .i64 (wrap64 (t141 + t144)), .bool false] rfl agx ?_; (try rw [show (!(t139 == t142)) = (t139 != t142) from rfl]); (with_reducible refine (levyref17_rounded.calls (t139 != t142) (IntKind.u64.wrap (t140 * t143)) (wrap64 (t141 + t144)) false t145 _ A5.out).mono ?_); rintro e w' ⟨rfl, ⟨nd, rfl⟩⟩; refine ⟨_, rfl, ?_⟩))
 go_ret
 exact ⟨by first | rfl | (simp; done) | (simp [*]; done), by repeat (first | exact Drawn0.refl _ | apply Drawn0.step)⟩
end Go.Proofs.Ytfhgomcfpmbhnaa.PS
end

section
namespace Go.Proofs.Ytfhgomcfpmbhnaa.PS
open Go.RowKit Go.Proofs.YtfhgomcfpmbhnaaW.PrintWords Go.Proofs.YtfhgomcfpmbhnaaW.PrintLast Go.Proofs.YtfhgomcfpmbhnaaW.PrintMore
attribute [local go_sem] frun_add frun_sub frun_mul frun_quo frun_neg frun_of frun_same frun_store frun_bits frun_from
attribute [local go_sem] max2_int min2_int max_two min_two max_three min_three max_four min_four
set_option linter.unusedVariables false
set_option linter.unusedSimpArgs false
def levyref17_order.f (a0 : Int) : Option (Int) := if a0 ≥ 2147483648 then (some (-((a0 - 2147483648) % 4294967296))) else (some (wrap64 (a0)))
set_option maxHeartbeats 8000000 in
set_option maxRecDepth 100000 in
theorem levyref17_order.calls (a0 : Int) (r : Int) (w : World) (h : levyref17_order.f a0 = some r) :
  Calls Try.prog 71 #[.int .u32 a0] w fun e w' => e = .returned (.int .i64 r) ∧ Drawn0 w w' := by
 have H : (if a0 ≥ 2147483648 then (some (-((a0 - 2147483648) % 4294967296))) else (some (wrap64 (a0)))) = some r := h
 clear h
 by_cases c2 : a0 ≥ 2147483648
 ·rw [if_pos c2] at H
  have c2b0 : decide (2147483648 ≤ a0) = true := decide_eq_true c2
  clear c2
  obtain rfl := Option.some.inj H
  go_enter Try.func71, Try.ntmps71
  go_wp2
  go_ret
  exact ⟨by first | rfl | (simp; done) | (simp [*]; done), by repeat (first | exact Drawn0.refl _ | apply Drawn0.step)⟩
 ·rw [if_neg c2] at H
  have c2b0 : decide (2147483648 ≤ a0) = false := decide_eq_false c2
  clear c2
  obtain rfl := Option.some.inj H
  go_enter Try.func71, Try.ntmps71
  go_wp2
  go_ret
  exact ⟨by first | rfl | (simp; done) | (simp [*]; done), by repeat (first | exact Drawn0.refl _ | apply Drawn0.step)⟩
end Go.Proofs.Ytfhgomcfpmbhnaa.PS
end

section
namespace Go.Proofs.Ytfhgomcfpmbhnaa.PS
open Go.RowKit Go.Proofs.YtfhgomcfpmbhnaaW.PrintWords Go.Proofs.YtfhgomcfpmbhnaaW.PrintLast Go.Proofs.YtfhgomcfpmbhnaaW.PrintMore
attribute [local go_sem] frun_add frun_sub frun_mul frun_quo frun_neg frun_of frun_same frun_store frun_bits frun_from
attribute [local go_sem] max2_int min2_int max_two min_two max_three min_three max_four min_four
set_option linter.unusedVariables false
set_option linter.unusedSimpArgs false
def levyref17_Less.f (a0 : Int) (a1 : Int) : Option (Bool) := (levyref17_NaN.f a0).bind fun t196 => ((levyref17_NaN.f a1).bind fun t197 => (if t196 = true then (some false) else (if t197 = true then (some false) else ((levyref17_order.f a0).bind fun t198 => ((levyref17_order.f a1).bind fun t199 => (some (decide (t198 < t199))))))))
set_option maxHeartbeats 8000000 in
set_option maxRecDepth 100000 in
theorem levyref17_Less.calls (a0 : Int) (a1 : Int) (r : Bool) (w : World) (h : levyref17_Less.f a0 a1 = some r) :
  Calls Try.prog 61 #[.int .u32 a0, .int .u32 a1] w fun e w' => e = .returned (.bool r) ∧ Drawn0 w w' := by
 have H : ((levyref17_NaN.f a0).bind fun t196 => ((levyref17_NaN.f a1).bind fun t197 => (if t196 = true then (some false) else (if t197 = true then (some false) else ((levyref17_order.f a0).bind fun t198 => ((levyref17_order.f a1).bind fun t199 => (some (decide (t198 < t199))))))))) = some r := h
 clear h
 replace H := Option.bind_eq_some_iff.mp H
 obtain ⟨t196, A30, H⟩ := H
 replace H : ((levyref17_NaN.f a1).bind fun t197 => (if t196 = true then (some false) else (if t197 = true then (some false) else ((levyref17_order.f a0).bind fun t198 => ((levyref17_order.f a1).bind fun t199 => (some (decide (t198 < t199)))))))) = some r := H
 have A3 := Aside0.mk A30
 clear A30
 replace H := Option.bind_eq_some_iff.mp H
 obtain ⟨t197, A40, H⟩ := H
 replace H : (if t196 = true then (some false) else (if t197 = true then (some false) else ((levyref17_order.f a0).bind fun t198 => ((levyref17_order.f a1).bind fun t199 => (some (decide (t198 < t199))))))) = some r := H
 have A4 := Aside0.mk A40
 clear A40
 by_cases c5 : t196 = true
 ·subst c5
  have H1 : (some false) = some r := by rw [if_pos rfl] at H; exact H
  clear H
  have H := H1
  clear H1
  obtain rfl := Option.some.inj H
  go_enter Try.func61, Try.ntmps61
  go_wp2_with (first | ((with_reducible refine gate_callee (f := 41) rfl ?_); refine goesL_ (some 8) rfl rfl Try.func41 (by kernel_rfl) rfl #[.int .u32 a0] rfl agx ?_; (with_reducible refine (levyref17_NaN.calls a0 true _ A3.out).mono ?_); rintro e w' ⟨rfl, ⟨nd, rfl⟩⟩; refine ⟨_, rfl, ?_⟩) | ((with_reducible refine gate_callee (f := 41) rfl ?_); refine goesL_ (some 10) rfl rfl Try.func41 (by kernel_rfl) rfl #[.int .u32 a1] rfl agx ?_; (with_reducible refine (levyref17_NaN.calls a1 t197 _ A4.out).mono ?_); rintro e w' ⟨rfl, ⟨nd, rfl⟩⟩; refine ⟨_, rfl, ?_⟩))
  go_ret
  exact ⟨by first | rfl | (simp; done) | (simp [*]; done), by repeat (first | exact Drawn0.refl _ | apply Drawn0.step)⟩
 ·replace c5 := Bool.eq_false_iff.mpr c5
  subst c5
  have H1 : (if t197 = true then (some false) else ((levyref17_order.f a0).bind fun t198 => ((levyref17_order.f a1).bind fun t199 => (some (decide (t198 < t199)))))) = some r := by rw [if_neg (show ¬ (false = true) by decide)] at H; exact H
  clear H
  have H := H1
  clear H1
  by_cases c6 : t197 = true
  ·subst c6
   have H1 : (some false) = some r := by rw [if_pos rfl] at H; exact H
   clear H
   have H := H1
   clear H1
   obtain rfl := Option.some.inj H
   go_enter Try.func61, Try.ntmps61
   go_wp2_with (first | ((with_reducible refine gate_callee (f := 41) rfl ?_); refine goesL_ (some 8) rfl rfl Try.func41 (by kernel_rfl) rfl #[.int .u32 a0] rfl agx ?_; (with_reducible refine (levyref17_NaN.calls a0 false _ A3.out).mono ?_); rintro e w' ⟨rfl, ⟨nd, rfl⟩⟩; refine ⟨_, rfl, ?_⟩) | ((with_reducible refine gate_callee (f := 41) rfl ?_); refine goesL_ (some 10) rfl rfl Try.func41 (by kernel_rfl) rfl #[.int .u32 a1] rfl agx ?_; (with_reducible refine (levyref17_NaN.calls a1 true _ A4.out).mono ?_); rintro e w' ⟨rfl, ⟨nd, rfl⟩⟩; refine ⟨_, rfl, ?_⟩))
   go_ret
   exact ⟨by first | rfl | (simp; done) | (simp [*]; done), by repeat (first | exact Drawn0.refl _ | apply Drawn0.step)⟩
  ·replace c6 := Bool.eq_false_iff.mpr c6
   subst c6
   have H1 : ((levyref17_order.f a0).bind fun t198 => ((levyref17_order.f a1).bind fun t199 => (some (decide (t198 < t199))))) = some r := by rw [if_neg (show ¬ (false = true) by decide)] at H; exact H
   clear H
   have H := H1
   clear H1
   replace H := Option.bind_eq_some_iff.mp H
   obtain ⟨t198, A70, H⟩ := H
   replace H : ((levyref17_order.f a1).bind fun t199 => (some (decide (t198 < t199)))) = some r := H
   have A7 := Aside0.mk A70
   clear A70
   replace H := Option.bind_eq_some_iff.mp H
   obtain ⟨t199, A80, H⟩ := H
   replace H : (some (decide (t198 < t199))) = some r := H
   have A8 := Aside0.mk A80
   clear A80
   obtain rfl := Option.some.inj H
   go_enter Try.func61, Try.ntmps61
   go_wp2_with (first | ((with_reducible refine gate_callee (f := 41) rfl ?_); refine goesL_ (some 8) rfl rfl Try.func41 (by kernel_rfl) rfl #[.int .u32 a0] rfl agx ?_; (with_reducible refine (levyref17_NaN.calls a0 false _ A3.out).mono ?_); rintro e w' ⟨rfl, ⟨nd, rfl⟩⟩; refine ⟨_, rfl, ?_⟩) | ((with_reducible refine gate_callee (f := 41) rfl ?_); refine goesL_ (some 10) rfl rfl Try.func41 (by kernel_rfl) rfl #[.int .u32 a1] rfl agx ?_; (with_reducible refine (levyref17_NaN.calls a1 false _ A4.out).mono ?_); rintro e w' ⟨rfl, ⟨nd, rfl⟩⟩; refine ⟨_, rfl, ?_⟩) | (go_at_call 71; (with_reducible refine (levyref17_order.calls a0 t198 _ A7.out).mono ?_); rintro e w' ⟨rfl, ⟨nd, rfl⟩⟩) | (go_at_call 71; (with_reducible refine (levyref17_order.calls a1 t199 _ A8.out).mono ?_); rintro e w' ⟨rfl, ⟨nd, rfl⟩⟩))
   go_ret
   exact ⟨by first | rfl | (simp; done) | (simp [*]; done), by repeat (first | exact Drawn0.refl _ | apply Drawn0.step)⟩
end Go.Proofs.Ytfhgomcfpmbhnaa.PS
end

section
namespace Go.Proofs.Ytfhgomcfpmbhnaa.PS
open Go.RowKit Go.Proofs.YtfhgomcfpmbhnaaW.PrintWords Go.Proofs.YtfhgomcfpmbhnaaW.PrintLast Go.Proofs.YtfhgomcfpmbhnaaW.PrintMore
attribute [local go_sem] frun_add frun_sub frun_mul frun_quo frun_neg frun_of frun_same frun_store frun_bits frun_from
attribute [local go_sem] max2_int min2_int max_two min_two max_three min_three max_four min_four
set_option linter.unusedVariables false
set_option linter.unusedSimpArgs false
def levyref17_Same.f (a0 : Int) (a1 : Int) : Option (Bool) := (levyref17_NaN.f a0).bind fun t213 => ((levyref17_NaN.f a1).bind fun t214 => (if t213 = true then (some false) else (if t214 = true then (some false) else ((levyref17_order.f a0).bind fun t215 => ((levyref17_order.f a1).bind fun t216 => (some (t215 == t216)))))))
set_option maxHeartbeats 8000000 in
set_option maxRecDepth 100000 in
theorem levyref17_Same.calls (a0 : Int) (a1 : Int) (r : Bool) (w : World) (h : levyref17_Same.f a0 a1 = some r) :
  Calls Try.prog 54 #[.int .u32 a0, .int .u32 a1] w fun e w' => e = .returned (.bool r) ∧ Drawn0 w w' := by
 have H : ((levyref17_NaN.f a0).bind fun t213 => ((levyref17_NaN.f a1).bind fun t214 => (if t213 = true then (some false) else (if t214 = true then (some false) else ((levyref17_order.f a0).bind fun t215 => ((levyref17_order.f a1).bind fun t216 => (some (t215 == t216)))))))) = some r := h
 clear h
 replace H := Option.bind_eq_some_iff.mp H
 obtain ⟨t213, A30, H⟩ := H
 replace H : ((levyref17_NaN.f a1).bind fun t214 => (if t213 = true then (some false) else (if t214 = true then (some false) else ((levyref17_order.f a0).bind fun t215 => ((levyref17_order.f a1).bind fun t216 => (some (t215 == t216))))))) = some r := H
 have A3 := Aside0.mk A30
 clear A30
 replace H := Option.bind_eq_some_iff.mp H
 obtain ⟨t214, A40, H⟩ := H
 replace H : (if t213 = true then (some false) else (if t214 = true then (some false) else ((levyref17_order.f a0).bind fun t215 => ((levyref17_order.f a1).bind fun t216 => (some (t215 == t216)))))) = some r := H
 have A4 := Aside0.mk A40
 clear A40
 by_cases c5 : t213 = true
 ·subst c5
  have H1 : (some false) = some r := by rw [if_pos rfl] at H; exact H
  clear H
  have H := H1
  clear H1
  obtain rfl := Option.some.inj H
  go_enter Try.func54, Try.ntmps54
  go_wp2_with (first | ((with_reducible refine gate_callee (f := 41) rfl ?_); refine goesL_ (some 8) rfl rfl Try.func41 (by kernel_rfl) rfl #[.int .u32 a0] rfl agx ?_; (with_reducible refine (levyref17_NaN.calls a0 true _ A3.out).mono ?_); rintro e w' ⟨rfl, ⟨nd, rfl⟩⟩; refine ⟨_, rfl, ?_⟩) | ((with_reducible refine gate_callee (f := 41) rfl ?_); refine goesL_ (some 10) rfl rfl Try.func41 (by kernel_rfl) rfl #[.int .u32 a1] rfl agx ?_; (with_reducible refine (levyref17_NaN.calls a1 t214 _ A4.out).mono ?_); rintro e w' ⟨rfl, ⟨nd, rfl⟩⟩; refine ⟨_, rfl, ?_⟩))
  go_ret
  exact ⟨by first | rfl | (simp; done) | (simp [*]; done), by repeat (first | exact Drawn0.refl _ | apply Drawn0.step)⟩
 ·replace c5 := Bool.eq_false_iff.mpr c5
  subst c5
  have H1 : (if t214 = true then (some false) else ((levyref17_order.f a0).bind fun t215 => ((levyref17_order.f a1).bind fun t216 => (some (t215 == t216))))) = some r := by rw [if_neg (show ¬ (false = true) by decide)] at H; exact H
  clear H
  have H := H1
  clear H1
  by_cases c6 : t214 = true
  ·subst c6
   have H1 : (some false) = some r := by rw [if_pos rfl] at H; exact H
   clear H
   have H := H1
   clear H1
   obtain rfl := Option.some.inj H
   go_enter Try.func54, Try.ntmps54
   go_wp2_with (first | ((with_reducible refine gate_callee (f := 41) rfl ?_); refine goesL_ (some 8) rfl rfl Try.func41 (by kernel_rfl) rfl #[.int .u32 a0] rfl agx ?_; (with_reducible refine (levyref17_NaN.calls a0 false _ A3.out).mono ?_); rintro e w' ⟨rfl, ⟨nd, rfl⟩⟩; refine ⟨_, rfl, ?_⟩) | ((with_reducible refine gate_callee (f := 41) rfl ?_); refine goesL_ (some 10) rfl rfl Try.func41 (by kernel_rfl) rfl #[.int .u32 a1] rfl agx ?_; (with_reducible refine (levyref17_NaN.calls a1 true _ A4.out).mono ?_); rintro e w' ⟨rfl, ⟨nd, rfl⟩⟩; refine ⟨_, rfl, ?_⟩))
   go_ret
   exact ⟨by first | rfl | (simp; done) | (simp [*]; done), by repeat (first | exact Drawn0.refl _ | apply Drawn0.step)⟩
  ·replace c6 := Bool.eq_false_iff.mpr c6
   subst c6
   have H1 : ((levyref17_order.f a0).bind fun t215 => ((levyref17_order.f a1).bind fun t216 => (some (t215 == t216)))) = some r := by rw [if_neg (show ¬ (false = true) by decide)] at H; exact H
   clear H
   have H := H1
   clear H1
   replace H := Option.bind_eq_some_iff.mp H
   obtain ⟨t215, A70, H⟩ := H
   replace H : ((levyref17_order.f a1).bind fun t216 => (some (t215 == t216))) = some r := H
   have A7 := Aside0.mk A70
   clear A70
   replace H := Option.bind_eq_some_iff.mp H
   obtain ⟨t216, A80, H⟩ := H
   replace H : (some (t215 == t216)) = some r := H
   have A8 := Aside0.mk A80
   clear A80
   obtain rfl := Option.some.inj H
   go_enter Try.func54, Try.ntmps54
   go_wp2_with (first | ((with_reducible refine gate_callee (f := 41) rfl ?_); refine goesL_ (some 8) rfl rfl Try.func41 (by kernel_rfl) rfl #[.int .u32 a0] rfl agx ?_; (with_reducible refine (levyref17_NaN.calls a0 false _ A3.out).mono ?_); rintro e w' ⟨rfl, ⟨nd, rfl⟩⟩; refine ⟨_, rfl, ?_⟩) | ((with_reducible refine gate_callee (f := 41) rfl ?_); refine goesL_ (some 10) rfl rfl Try.func41 (by kernel_rfl) rfl #[.int .u32 a1] rfl agx ?_; (with_reducible refine (levyref17_NaN.calls a1 false _ A4.out).mono ?_); rintro e w' ⟨rfl, ⟨nd, rfl⟩⟩; refine ⟨_, rfl, ?_⟩) | (go_at_call 71; (with_reducible refine (levyref17_order.calls a0 t215 _ A7.out).mono ?_); rintro e w' ⟨rfl, ⟨nd, rfl⟩⟩) | (go_at_call 71; (with_reducible refine (levyref17_order.calls a1 t216 _ A8.out).mono ?_); rintro e w' ⟨rfl, ⟨nd, rfl⟩⟩))
   go_ret
   exact ⟨by first | rfl | (simp; done) | (simp [*]; done), by repeat (first | exact Drawn0.refl _ | apply Drawn0.step)⟩
end Go.Proofs.Ytfhgomcfpmbhnaa.PS
end

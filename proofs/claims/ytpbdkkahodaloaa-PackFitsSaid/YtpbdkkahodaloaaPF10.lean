-- Part 10 of the texts of the claim PF (wrote by programs: words of the kit's print.sh, printed functions; and my own texts; joined by wip/tools/pack.py).
import Derived.Test.YtpbdkkahodaloaaPF9
import Derived.Deep.RegionLaw

section
namespace Go.Proofs.Ytpbdkkahodaloaa.U
open Go.RowKit Go.Lib Go.Proofs.Ytpbdkkahodaloaa.PS Go.Proofs.YtpbdkkahodaloaaW.PrintWords Go.Proofs.YtpbdkkahodaloaaW.PrintMore
set_option linter.unusedVariables false
set_option maxRecDepth 100000
def encOpt (n : Int) : List Int := if n = 0 then [] else encInt n
def bit (n : Int) (k : Int) : Int := if n = 0 then 0 else k
def saysOf (e : S80) : Int := bit e.f1 1 + bit e.f2 2 + bit e.f3 4 + bit e.f4.length 8
def encE : Nat → S80 → List Int
  | 0, _ => []
  | f + 1, e => encInt e.f0 ++ ([saysOf e] ++ (encOpt e.f1 ++ (encOpt e.f2 ++ (encOpt e.f3 ++ (if e.f4.length = 0 then [] else encList (encE f) e.f4)))))
def deepE : Nat → S80 → Bool
  | 0, _ => true
  | f + 1, e => e.f4.any (deepE f)
def okE : Nat → S80 → Prop
  | 0, _ => True
  | f + 1, e => (i64 e.f0 ∧ i64 e.f1 ∧ i64 e.f2 ∧ i64 e.f3) ∧ ∀ a ∈ e.f4, okE f a
theorem bit_no {n : Int} (k : Int) (h : n = 0) : bit n k = 0 := by unfold bit; rw [if_pos h]
theorem bit_yes {n : Int} (k : Int) (h : ¬ n = 0) : bit n k = k := by unfold bit; rw [if_neg h]
theorem bit_is (n k : Int) : bit n k = 0 ∨ bit n k = k := by unfold bit; split <;> simp
theorem or_2 {s : Int} (h : s = 0 ∨ s = 1) : bits BinOp.or IntKind.u8 s 2 = s + 2 := by rcases h with rfl | rfl <;> decide +kernel
theorem or_4 {s : Int} (h : s = 0 ∨ s = 1 ∨ s = 2 ∨ s = 3) : bits BinOp.or IntKind.u8 s 4 = s + 4 := by rcases h with rfl | rfl | rfl | rfl <;> decide +kernel
theorem or_8 {s : Int} (h : s = 0 ∨ s = 1 ∨ s = 2 ∨ s = 3 ∨ s = 4 ∨ s = 5 ∨ s = 6 ∨ s = 7) : bits BinOp.or IntKind.u8 s 8 = s + 8 := by rcases h with rfl | rfl | rfl | rfl | rfl | rfl | rfl | rfl <;> decide +kernel
theorem St.deepen {base : World} {g r r1 : Nat} {w w1 : World} {xs : List Int} {d : Bool} (h : St base g r w xs d r1 w1) : St base g r w xs true r1 (w1.setCell ⟨g, 1, none⟩ (.bool true)) := by
  obtain ⟨c, hb, ho⟩ := h.wr.is
  refine ⟨⟨h.wr.dat.setCell h.wr.ge _, h.wr.ge, h.wr.lim, h.wr.ne, c, by simpa using blk_set hb 1 (.bool true), ho.move ?_⟩, h.kp.set 1 _, h.row⟩
  exact Below.heap_setCell w1 ⟨g, 1, none⟩ _ _ (fun e => h.wr.ne e.symm)
def opts (x : S80) (j : Int) : List Int := if j = 0 then [] else if j = 1 then encOpt x.f1 else if j = 2 then encOpt x.f1 ++ encOpt x.f2 else encOpt x.f1 ++ (encOpt x.f2 ++ encOpt x.f3)
structure ExprL (base : World) (g r : Nat) (w : World) (xs : List Int) (d : Bool) (x : S80) (k : Nat) (A4 : Option Addr) (c4 : Nat) (j : Int) (r3 : Nat) (wr : World) : Prop where
  which : j = 0 ∨ j = 1 ∨ j = 2 ∨ j = 3
  st : St base g r w (((xs ++ encInt x.f0) ++ [saysOf x]) ++ opts x j) d r3 wr
  c0 : Cap wr g r3 w.heap.size #[.pointer (some ⟨g, 0, none⟩)] 121
  c1 : Cap wr g r3 (w.heap.size + 1) #[.int .i64 x.f0, .int .i64 x.f1, .int .i64 x.f2, .int .i64 x.f3, .slice A4 x.f4.length c4] 80
  c2 : Cap wr g r3 (w.heap.size + 1 + 1) #[.int .i64 k] 3
def ExprC (f : Nat) : Prop := ∀ (base : World) (g r k : Nat) (xs : List Int) (d : Bool) (x : S80) (A4 : Option Addr) (c4 : Nat) (w : World), k + f = 65 → Wr w base g r xs d → okE f x → x.f4.length ≤ c4 → Kd.C k80 base A4 x.f4.length x.f4 → (xs ++ encE f x).length ≤ LIM →
    Calls Try.prog 117 #[.pointer (some ⟨g, 0, none⟩), .agg #[.int .i64 x.f0, .int .i64 x.f1, .int .i64 x.f2, .int .i64 x.f3, .slice A4 x.f4.length c4], .int .i64 k] w (WPost base g r (xs ++ encE f x) (d || deepE f x) w)
set_option maxHeartbeats 4000000 in
theorem expr_zero : ExprC 0 := by
  intro base g r k xs d x A4 c4 w hk h hok hc4 hC hl
  have hb : decide ((64 : Int) < (k : Int)) = true := decide_eq_true (by omega)
  have H0 := Aside0.mk (((St.refl h).alloc (.cells #[.pointer (some ⟨g, 0, none⟩)] 121)).alloc (.cells #[.int .i64 x.f0, .int .i64 x.f1, .int .i64 x.f2, .int .i64 x.f3, .slice A4 x.f4.length c4] 80) |>.alloc (.cells #[.int .i64 k] 3))
  obtain ⟨c0, hc0, hc1, hf0, hf1, ho⟩ := H0.out.wr.open
  have hlt := h.lt.1
  clear h hok hc4 hC hl ho hk
  go_enter Try.func117, Try.ntmps117
  go_wp2_with fail
  refine bodyPost_ret (results_none rfl _ _ _) rfl ?_
  have hs := H0.out.deepen
  exact (hs.post (by simp [encE]) (by simp [deepE]))
theorem says_f1 (x : S80) : (x.f1 = 0 → (bits BinOp.and IntKind.u8 (saysOf x) 1 != 0) = false) ∧ (¬ x.f1 = 0 → (bits BinOp.and IntKind.u8 (saysOf x) 1 != 0) = true) := by
  unfold saysOf
  have b2 := bit_is x.f2 2
  have b3 := bit_is x.f3 4
  have b4 := bit_is (x.f4.length : Int) 8
  refine ⟨fun h => ?_, fun h => ?_⟩
  · rw [bit_no 1 h]; rcases b2 with e | e <;> rcases b3 with e3 | e3 <;> rcases b4 with e4 | e4 <;> rw [e, e3, e4] <;> decide +kernel
  · rw [bit_yes 1 h]; rcases b2 with e | e <;> rcases b3 with e3 | e3 <;> rcases b4 with e4 | e4 <;> rw [e, e3, e4] <;> decide +kernel
theorem says_f2 (x : S80) : (x.f2 = 0 → (bits BinOp.and IntKind.u8 (saysOf x) 2 != 0) = false) ∧ (¬ x.f2 = 0 → (bits BinOp.and IntKind.u8 (saysOf x) 2 != 0) = true) := by
  unfold saysOf
  have b2 := bit_is x.f1 1
  have b3 := bit_is x.f3 4
  have b4 := bit_is (x.f4.length : Int) 8
  refine ⟨fun h => ?_, fun h => ?_⟩
  · rw [bit_no 2 h]; rcases b2 with e | e <;> rcases b3 with e3 | e3 <;> rcases b4 with e4 | e4 <;> rw [e, e3, e4] <;> decide +kernel
  · rw [bit_yes 2 h]; rcases b2 with e | e <;> rcases b3 with e3 | e3 <;> rcases b4 with e4 | e4 <;> rw [e, e3, e4] <;> decide +kernel
theorem says_f3 (x : S80) : (x.f3 = 0 → (bits BinOp.and IntKind.u8 (saysOf x) 4 != 0) = false) ∧ (¬ x.f3 = 0 → (bits BinOp.and IntKind.u8 (saysOf x) 4 != 0) = true) := by
  unfold saysOf
  have b2 := bit_is x.f1 1
  have b3 := bit_is x.f2 2
  have b4 := bit_is (x.f4.length : Int) 8
  refine ⟨fun h => ?_, fun h => ?_⟩
  · rw [bit_no 4 h]; rcases b2 with e | e <;> rcases b3 with e3 | e3 <;> rcases b4 with e4 | e4 <;> rw [e, e3, e4] <;> decide +kernel
  · rw [bit_yes 4 h]; rcases b2 with e | e <;> rcases b3 with e3 | e3 <;> rcases b4 with e4 | e4 <;> rw [e, e3, e4] <;> decide +kernel
theorem encOpt_no {n : Int} (h : n = 0) : encOpt n = [] := by unfold encOpt; rw [if_pos h]
theorem encOpt_yes {n : Int} (h : ¬ n = 0) : encOpt n = encInt n := by unfold encOpt; rw [if_neg h]
section
variable {base : World} {g r : Nat} {w : World} {xs : List Int} {d : Bool} {x : S80} {k : Nat} {A4 : Option Addr} {c4 r3 r4 : Nat} {wr w2 : World}
theorem ExprL.step {j j2 : Int} (h : ExprL base g r w xs d x k A4 c4 j r3 wr) (hj : j2 = 0 ∨ j2 = 1 ∨ j2 = 2 ∨ j2 = 3) {zs : List Int} (he : opts x j2 = opts x j ++ zs) (s : St base g r3 wr (((xs ++ encInt x.f0) ++ [saysOf x]) ++ opts x j ++ zs) d r4 w2) : ExprL base g r w xs d x k A4 c4 j2 r4 w2 :=
  ⟨hj, by rw [he, ← List.append_assoc]; exact h.st.trans s, h.c0.st s, h.c1.st s, h.c2.st s⟩
theorem opts0 (x : S80) : opts x 0 = [] := rfl
theorem opts1 (x : S80) : opts x 1 = encOpt x.f1 := rfl
theorem opts2 (x : S80) : opts x 2 = encOpt x.f1 ++ encOpt x.f2 := rfl
theorem opts3 (x : S80) : opts x 3 = encOpt x.f1 ++ encOpt x.f2 ++ encOpt x.f3 := by rw [List.append_assoc]; rfl
theorem ExprL.skip0 (h : ExprL base g r w xs d x k A4 c4 0 r3 wr) (hz : x.f1 = 0) : ExprL base g r w xs d x k A4 c4 1 r3 wr :=
  h.step (.inr (.inl rfl)) (zs := []) (by rw [opts1, opts0, encOpt_no hz]; rfl) (by rw [List.append_nil]; exact St.refl h.st.wr)
theorem ExprL.skip1 (h : ExprL base g r w xs d x k A4 c4 1 r3 wr) (hz : x.f2 = 0) : ExprL base g r w xs d x k A4 c4 2 r3 wr :=
  h.step (.inr (.inr (.inl rfl))) (zs := []) (by rw [opts2, opts1, encOpt_no hz]) (by rw [List.append_nil]; exact St.refl h.st.wr)
theorem ExprL.skip2 (h : ExprL base g r w xs d x k A4 c4 2 r3 wr) (hz : x.f3 = 0) : ExprL base g r w xs d x k A4 c4 3 r3 wr :=
  h.step (.inr (.inr (.inr rfl))) (zs := []) (by rw [opts3, opts2, encOpt_no hz]) (by rw [List.append_nil]; exact St.refl h.st.wr)
theorem ExprL.take0 (h : ExprL base g r w xs d x k A4 c4 0 r3 wr) (hz : ¬ x.f1 = 0) (s : St base g r3 wr (((xs ++ encInt x.f0) ++ [saysOf x]) ++ opts x 0 ++ encInt x.f1) d r4 w2) : ExprL base g r w xs d x k A4 c4 1 r4 w2 :=
  h.step (.inr (.inl rfl)) (by rw [opts1, opts0, encOpt_yes hz]; rfl) s
theorem ExprL.take1 (h : ExprL base g r w xs d x k A4 c4 1 r3 wr) (hz : ¬ x.f2 = 0) (s : St base g r3 wr (((xs ++ encInt x.f0) ++ [saysOf x]) ++ opts x 1 ++ encInt x.f2) d r4 w2) : ExprL base g r w xs d x k A4 c4 2 r4 w2 :=
  h.step (.inr (.inr (.inl rfl))) (by rw [opts2, opts1, encOpt_yes hz]) s
theorem ExprL.take2 (h : ExprL base g r w xs d x k A4 c4 2 r3 wr) (hz : ¬ x.f3 = 0) (s : St base g r3 wr (((xs ++ encInt x.f0) ++ [saysOf x]) ++ opts x 2 ++ encInt x.f3) d r4 w2) : ExprL base g r w xs d x k A4 c4 3 r4 w2 :=
  h.step (.inr (.inr (.inr rfl))) (by rw [opts3, opts2, encOpt_yes hz]) s
variable {rest : List Int}
theorem ExprL.room0 (_ : ExprL base g r w xs d x k A4 c4 0 r3 wr) (hz : ¬ x.f1 = 0) (hl : (xs ++ (encInt x.f0 ++ ([saysOf x] ++ (encOpt x.f1 ++ (encOpt x.f2 ++ (encOpt x.f3 ++ rest)))))).length ≤ LIM) : ((((xs ++ encInt x.f0) ++ [saysOf x]) ++ opts x 0) ++ encInt x.f1).length ≤ LIM := by
  rw [opts0]; rw [encOpt_yes hz] at hl; simp only [List.length_append, List.length_nil] at hl ⊢; omega
theorem ExprL.room1 (_ : ExprL base g r w xs d x k A4 c4 1 r3 wr) (hz : ¬ x.f2 = 0) (hl : (xs ++ (encInt x.f0 ++ ([saysOf x] ++ (encOpt x.f1 ++ (encOpt x.f2 ++ (encOpt x.f3 ++ rest)))))).length ≤ LIM) : ((((xs ++ encInt x.f0) ++ [saysOf x]) ++ opts x 1) ++ encInt x.f2).length ≤ LIM := by
  rw [opts1]; rw [encOpt_yes hz] at hl; simp only [List.length_append] at hl ⊢; omega
theorem ExprL.room2 (_ : ExprL base g r w xs d x k A4 c4 2 r3 wr) (hz : ¬ x.f3 = 0) (hl : (xs ++ (encInt x.f0 ++ ([saysOf x] ++ (encOpt x.f1 ++ (encOpt x.f2 ++ (encOpt x.f3 ++ rest)))))).length ≤ LIM) : ((((xs ++ encInt x.f0) ++ [saysOf x]) ++ opts x 2) ++ encInt x.f3).length ≤ LIM := by
  rw [opts2]; rw [encOpt_yes hz] at hl; simp only [List.length_append] at hl ⊢; omega
variable {f : Nat}
theorem ExprL.roomA (_ : ExprL base g r w xs d x k A4 c4 3 r3 wr) (hz : ¬ x.f4.length = 0) (hl : (xs ++ (encInt x.f0 ++ ([saysOf x] ++ (encOpt x.f1 ++ (encOpt x.f2 ++ (encOpt x.f3 ++ (if x.f4.length = 0 then [] else encList (encE f) x.f4))))))).length ≤ LIM) : ((((xs ++ encInt x.f0) ++ [saysOf x]) ++ opts x 3) ++ encList (encE f) x.f4).length ≤ LIM := by
  rw [opts3]; rw [if_neg hz] at hl; simp only [List.length_append] at hl ⊢; omega
theorem ExprL.none (h : ExprL base g r w xs d x k A4 c4 3 r3 wr) (hz : x.f4.length = 0) : WPost base g r (xs ++ encE (f + 1) x) (d || deepE (f + 1) x) w (.returned (.tuple #[])) wr := by
  refine h.st.post ?_ ?_
  · rw [opts3]; simp [encE, hz]
  · have : x.f4 = [] := List.eq_nil_of_length_eq_zero hz
    simp [deepE, this]
theorem ExprL.some (hz : ¬ x.f4.length = 0) (s : St base g r w ((((xs ++ encInt x.f0) ++ [saysOf x]) ++ opts x 3) ++ encList (encE f) x.f4) (d || x.f4.any (deepE f)) r4 w2) : WPost base g r (xs ++ encE (f + 1) x) (d || deepE (f + 1) x) w (.returned (.tuple #[])) w2 := by
  refine s.post ?_ rfl
  rw [opts3]; simp only [encE]; rw [if_neg hz]; simp [List.append_assoc]
end
set_option maxHeartbeats 4000000 in
theorem clos_calls (f : Nat) (ih : ExprC f) (base : World) (g r k cw cd : Nat) (ys : List Int) (d : Bool) (x : S80) (A4 : Option Addr) (c4 : Nat) (w : World) (hk : k + (f + 1) = 65) (h : Wr w base g r ys d) (hok : okE f x) (hc4 : x.f4.length ≤ c4) (hC : Kd.C k80 base A4 x.f4.length x.f4) (hl : (ys ++ encE f x).length ≤ LIM)
    (hcw : Cap w g r cw #[.pointer (some ⟨g, 0, none⟩)] 121) (hcd : Cap w g r cd #[.int .i64 k] 3) :
    Calls Try.prog 142 #[.agg #[.int .i64 x.f0, .int .i64 x.f1, .int .i64 x.f2, .int .i64 x.f3, .slice A4 x.f4.length c4], .pointer (some ⟨cw, 0, none⟩), .pointer (some ⟨cd, 0, none⟩)] w (WPost base g r (ys ++ encE f x) (d || deepE f x) w) := by
  have H0 := Aside0.mk ((St.refl h).alloc (.cells #[.int .i64 x.f0, .int .i64 x.f1, .int .i64 x.f2, .int .i64 x.f3, .slice A4 x.f4.length c4] 80))
  have a0 := hcw.cell 0 rfl
  have k0 := hcd.cell 0 rfl
  have l0 := hcw.lt
  have l1 := hcd.lt
  have HOK := Aside0.mk hok
  have HC4 := Aside0.mk hc4
  have HC := Aside0.mk hC
  have HL := Aside0.mk hl
  have HK := Aside0.mk (show (k + 1) + f = 65 by omega)
  have hk64 : k ≤ 64 := by omega
  clear h hok hc4 hC hl hcw hcd hk
  go_enter Try.func142, Try.ntmps142
  go_wp2_with fail
  go_at_call 117
  have hkk : ((k : Int) + 1) = ((k + 1 : Nat) : Int) := by omega
  rw [hkk]
  have IH := ih
  unfold ExprC at IH
  with_reducible refine (IH base g r (k + 1) ys d x A4 c4 _ HK.out H0.out.wr HOK.out HC4.out HC.out HL.out).mono ?_
  intro e w2 hp
  obtain ⟨rfl, r4, hs, ht⟩ := H0.out.next hp
  have HE := Aside0.mk ht
  clear hp hs ht
  go_wp2_with fail
  go_end0
  exact HE.out.post rfl rfl
set_option maxHeartbeats 4000000 in
theorem expr_succ (f : Nat) (ih : ExprC f) : ExprC (f + 1) := by
  intro base g r k xs d x A4 c4 w hk h hok hc4 hC hl
  have H0 := Aside0.mk (((St.refl h).alloc (.cells #[.pointer (some ⟨g, 0, none⟩)] 121)).alloc (.cells #[.int .i64 x.f0, .int .i64 x.f1, .int .i64 x.f2, .int .i64 x.f3, .slice A4 x.f4.length c4] 80) |>.alloc (.cells #[.int .i64 k] 3))
  have C0 := Aside0.mk (((Cap.new h #[.pointer (some ⟨g, 0, none⟩)] 121).alloc (.cells #[.int .i64 x.f0, .int .i64 x.f1, .int .i64 x.f2, .int .i64 x.f3, .slice A4 x.f4.length c4] 80)).alloc (.cells #[.int .i64 k] 3))
  have C1 : Aside0 (Cap _ g r (w.heap.size + 1) _ _) := ⟨by simpa using (Cap.new (h.alloc (.cells #[.pointer (some ⟨g, 0, none⟩)] 121)) #[.int .i64 x.f0, .int .i64 x.f1, .int .i64 x.f2, .int .i64 x.f3, .slice A4 x.f4.length c4] 80).alloc (.cells #[.int .i64 k] 3)⟩
  have C2 : Aside0 (Cap _ g r (w.heap.size + 1 + 1) _ _) := ⟨by simpa using (Cap.new ((h.alloc (.cells #[.pointer (some ⟨g, 0, none⟩)] 121)).alloc (.cells #[.int .i64 x.f0, .int .i64 x.f1, .int .i64 x.f2, .int .i64 x.f3, .slice A4 x.f4.length c4] 80)) #[.int .i64 k] 3)⟩
  have HL := Aside0.mk (show (xs ++ (encInt x.f0 ++ ([saysOf x] ++ (encOpt x.f1 ++ (encOpt x.f2 ++ (encOpt x.f3 ++ (if x.f4.length = 0 then [] else encList (encE f) x.f4))))))).length ≤ LIM from hl)
  have OK := Aside0.mk (show (i64 x.f0 ∧ i64 x.f1 ∧ i64 x.f2 ∧ i64 x.f3) ∧ ∀ a ∈ x.f4, okE f a from hok)
  have HC := Aside0.mk hC
  have HC4 := Aside0.mk hc4
  have hb : decide ((64 : Int) < (k : Int)) = false := decide_eq_false (by omega)
  have HK := Aside0.mk hk
  clear h hok hc4 hC hl hk
  go_enter Try.func117, Try.ntmps117
  go_wp2_with fail
  go_at_call 43
  with_reducible refine (int_c H0.out OK.out.1.1 (lim_left HL.out)).mono ?_
  intro e w1 hp
  obtain ⟨rfl, r1, hs, ht⟩ := H0.out.next hp
  have H1 := Aside0.mk ht
  have D0 := Aside0.mk (C0.out.st hs)
  have D1 := Aside0.mk (C1.out.st hs)
  have D2 := Aside0.mk (C2.out.st hs)
  clear hp hs ht
  have a0 := D0.out.cell 0 rfl
  have e0 := D1.out.cell 0 rfl
  have e1 := D1.out.cell 1 rfl
  have e2 := D1.out.cell 2 rfl
  have e3 := D1.out.cell 3 rfl
  have e4 := D1.out.cell 4 rfl
  have k0 := D2.out.cell 0 rfl
  have l0 := D0.out.lt
  have l1 := D1.out.lt
  have l2 := D2.out.lt
  go_upto_if 20 with (fail)
  go_cut [6] (fun s6 wc => s6 = .int .u8 (bit x.f1 1) ∧ wc = w1)
  case first =>
    by_cases hz : x.f1 = 0
    · have hz1 : (x.f1 != 0) = false := by simp [hz]
      have hv := bit_no 1 hz
      clear hz
      go_wp2_with fail
      go_meet
      exact ⟨by rw [hv], rfl⟩
    · have hz1 : (x.f1 != 0) = true := by simp [hz]
      have HV := Aside0.mk (bit_yes 1 hz)
      clear hz
      go_wp2_with fail
      go_meet
      exact ⟨by rw [HV.out]; rfl, rfl⟩
  case rest =>
  obtain ⟨rfl, rfl⟩ := hcut
  obtain ⟨s1, hs1⟩ : ∃ s, bit x.f1 1 = s := ⟨_, rfl⟩
  rw [hs1]
  have B1 := bit_is x.f1 1
  rw [hs1] at B1
  have S1 := Aside0.mk hs1
  have B1 := Aside0.mk B1
  clear hs1
  go_upto_if 25 with (fail)
  go_cut [6] (fun s6 wd => s6 = .int .u8 (s1 + bit x.f2 2) ∧ wd = wc)
  case first =>
    by_cases hz : x.f2 = 0
    · have hz1 : (x.f2 != 0) = false := by simp [hz]
      have HV := Aside0.mk (bit_no 2 hz)
      clear hz
      go_wp2_with fail
      go_meet
      exact ⟨by rw [HV.out, Int.add_zero], rfl⟩
    · have hz1 : (x.f2 != 0) = true := by simp [hz]
      have HV := Aside0.mk (bit_yes 2 hz)
      clear hz
      go_wp2_with fail
      go_meet
      exact ⟨by rw [HV.out, or_2 (by have := B1.out; omega)], rfl⟩
  case rest =>
  obtain ⟨rfl, hwd⟩ := hcut
  subst hwd
  obtain ⟨s2, hs⟩ : ∃ s, s1 + bit x.f2 2 = s := ⟨_, rfl⟩
  rw [hs]
  have B2 := Aside0.mk (show 0 ≤ s2 ∧ s2 < 4 from by have := bit_is x.f2 2; have := B1.out; omega)
  have S2 := Aside0.mk hs
  clear hs
  go_upto_if 30 with (fail)
  go_cut [6] (fun s6 wd => s6 = .int .u8 (s2 + bit x.f3 4) ∧ wd = wc)
  case first =>
    by_cases hz : x.f3 = 0
    · have hz1 : (x.f3 != 0) = false := by simp [hz]
      have HV := Aside0.mk (bit_no 4 hz)
      clear hz
      go_wp2_with fail
      go_meet
      exact ⟨by rw [HV.out, Int.add_zero], rfl⟩
    · have hz1 : (x.f3 != 0) = true := by simp [hz]
      have HV := Aside0.mk (bit_yes 4 hz)
      clear hz
      go_wp2_with fail
      go_meet
      exact ⟨by rw [HV.out, or_4 (by have := B2.out; omega)], rfl⟩
  case rest =>
  obtain ⟨rfl, hwd⟩ := hcut
  subst hwd
  obtain ⟨s3, hs⟩ : ∃ s, s2 + bit x.f3 4 = s := ⟨_, rfl⟩
  rw [hs]
  have B3 := Aside0.mk (show 0 ≤ s3 ∧ s3 < 8 from by have := bit_is x.f3 4; have := B2.out; omega)
  have S3 := Aside0.mk hs
  clear hs
  go_upto_if 36 with (fail)
  go_cut [6] (fun s6 wd => s6 = .int .u8 (s3 + bit (x.f4.length : Int) 8) ∧ wd = wc)
  case first =>
    by_cases hz : x.f4.length = 0
    · have hz1 : decide (0 < x.f4.length) = false := decide_eq_false (by omega)
      have HV := Aside0.mk (bit_no 8 (show (x.f4.length : Int) = 0 by omega))
      have hz2 : ¬ 0 < x.f4.length := by omega
      clear hz
      go_wp2_with fail
      go_meet
      exact ⟨by rw [HV.out, Int.add_zero], rfl⟩
    · have hz1 : decide (0 < x.f4.length) = true := decide_eq_true (by omega)
      have HV := Aside0.mk (bit_yes 8 (show ¬ (x.f4.length : Int) = 0 by omega))
      have hz2 : 0 < x.f4.length := by omega
      clear hz
      go_wp2_with fail
      go_meet
      exact ⟨by rw [HV.out, or_8 (by have := B3.out; omega)], rfl⟩
  case rest =>
  obtain ⟨rfl, hwd⟩ := hcut
  subst hwd
  rw [show s3 + bit (x.f4.length : Int) 8 = saysOf x by unfold saysOf; rw [← S3.out, ← S2.out, ← S1.out]]
  go_upto_region 13 with (fail)
  obtain ⟨c0, hc0, hc1, hf0, hf1, ho⟩ := H1.out.wr.open
  obtain ⟨q, hq⟩ : ∃ q, (xs ++ encInt x.f0).length = q := ⟨_, rfl⟩
  rw [hq] at hc0 ho
  have HO := Aside0.mk ho
  have HQ := Aside0.mk hq
  have HQL := Aside0.mk (show q + 1 ≤ LIM by rw [← hq]; have := lim_left (lim_right HL.out); simp only [List.length_append, List.length_singleton] at this ⊢; omega)
  have NR := Aside0.mk D0.out.row
  have NG := Aside0.mk H1.out.wr.ne
  have lg := H1.out.wr.lt.1
  clear ho hq
  go_cut [6] (fun s6 wd => s6 = .int .u8 (saysOf x) ∧ Aside0 (∃ r2, St base g r1 wc ((xs ++ encInt x.f0) ++ [saysOf x]) d r2 wd))
  case first =>
    go_region_law (refine step_put rfl _ _ rfl H1.out.wr (by repeat (first | exact Below.refl _ _ | apply below_alloc | apply pw_below_drewN | apply below_drew1)) HQ.out HO.out rfl ⟨wc.heap.size, 0, none⟩ 1 1 [saysOf x] rfl rfl (one_new _ _ _ rfl _) HQL.out (by decide) ?_; intro r' c' w3 HG; have ha3 := (World.cell?_of_block (a := ⟨w.heap.size, 0, none⟩) (HG.far _ l0 NR.out)).trans a0; obtain ⟨u0, hu0⟩ := HG.c0; have hz0 := HG.f0)
    all_goals (go_wp2_with fail; go_meet; exact ⟨rfl, ⟨_, HG.st⟩⟩)
  case rest =>
  obtain ⟨rfl, HW⟩ := hcut
  obtain ⟨r2, hs⟩ := HW.out
  have H2 := Aside0.mk (H1.out.trans hs)
  have E0 := Aside0.mk (D0.out.st hs)
  have E1 := Aside0.mk (D1.out.st hs)
  have E2 := Aside0.mk (D2.out.st hs)
  clear hs HW
  clear a0 e0 e1 e2 e3 e4 k0 l0 l1 l2 hc0 hc1 hf0 hf1 lg HO HQ HQL NR NG
  have a0 := E0.out.cell 0 rfl
  have e0 := E1.out.cell 0 rfl
  have e1 := E1.out.cell 1 rfl
  have e2 := E1.out.cell 2 rfl
  have e3 := E1.out.cell 3 rfl
  have e4 := E1.out.cell 4 rfl
  have k0 := E2.out.cell 0 rfl
  have l0 := E0.out.lt
  have l1 := E1.out.lt
  have l2 := E2.out.lt
  obtain ⟨sv, hsv⟩ : ∃ s, saysOf x = s := ⟨_, rfl⟩
  rw [hsv]
  have SV := Aside0.mk hsv
  clear hsv a0 e0 e1 e2 e3 e4 k0 l0 l1 l2
  have a0 := E0.out.cell 0 rfl
  have e1 := E1.out.cell 1 rfl
  have e2 := E1.out.cell 2 rfl
  have e3 := E1.out.cell 3 rfl
  have e4 := E1.out.cell 4 rfl
  have l0 := E0.out.lt
  have l1 := E1.out.lt
  have l2 := E2.out.lt
  go_wp2_with fail
  go_loopw [56] (fun v wr => ∃ (j : Int) (r3 : Nat), v = .int .i64 j ∧ Aside0 (ExprL base g r w xs d x k A4 c4 j r3 wr)) (fun v _ => (3 - intOf v).toNat)
  case atStart => exact ⟨0, r2, rfl, ⟨.inl rfl, by simpa [opts] using H2.out, E0.out, E1.out, E2.out⟩⟩
  case round =>
    obtain ⟨j, r3, rfl, HR⟩ := hrel
    clear a0 e1 e2 e3 e4 l0 l1 l2
    have a0 := HR.out.c0.cell 0 rfl
    have l0 := HR.out.c0.lt
    rcases HR.out.which with hj | hj | hj | hj
    · subst hj
      have i0 : ∀ w, (Instr.index 223 (.agg #[.int .i64 x.f1, .int .i64 x.f2, .int .i64 x.f3]) (.int .i64 0)).run Try.prog w = .ok (.int .i64 x.f1) w := fun _ => by kernel_rfl
      by_cases hz : x.f1 = 0
      · have hb : (bits BinOp.and IntKind.u8 sv 1 != 0) = false := by rw [← SV.out]; exact (says_f1 x).1 hz
        have HZ := Aside0.mk hz
        clear hz
        go_wp2_with fail
        go_roundw
        case rel => exact ⟨1, r3, rfl, ⟨HR.out.skip0 HZ.out⟩⟩
        case measure => decide
      · have hb : (bits BinOp.and IntKind.u8 sv 1 != 0) = true := by rw [← SV.out]; exact (says_f1 x).2 hz
        have HZ := Aside0.mk hz
        clear hz
        go_wp2_with fail
        go_at_call 43
        with_reducible refine (int_c HR.out.st OK.out.1.2.1 (HR.out.room0 HZ.out HL.out)).mono ?_
        intro e w2 hp
        obtain ⟨rfl, r4, hs, ht⟩ := HR.out.st.next hp
        have HR2 := Aside0.mk (HR.out.take0 HZ.out hs)
        clear hp hs ht
        go_wp2_with fail
        go_roundw
        case rel => exact ⟨1, r4, rfl, HR2⟩
        case measure => decide
    · subst hj
      have i0 : ∀ w, (Instr.index 223 (.agg #[.int .i64 x.f1, .int .i64 x.f2, .int .i64 x.f3]) (.int .i64 1)).run Try.prog w = .ok (.int .i64 x.f2) w := fun _ => by kernel_rfl
      by_cases hz : x.f2 = 0
      · have hb : (bits BinOp.and IntKind.u8 sv 2 != 0) = false := by rw [← SV.out]; exact (says_f2 x).1 hz
        have HZ := Aside0.mk hz
        clear hz
        go_wp2_with fail
        go_roundw
        case rel => exact ⟨2, r3, rfl, ⟨HR.out.skip1 HZ.out⟩⟩
        case measure => decide
      · have hb : (bits BinOp.and IntKind.u8 sv 2 != 0) = true := by rw [← SV.out]; exact (says_f2 x).2 hz
        have HZ := Aside0.mk hz
        clear hz
        go_wp2_with fail
        go_at_call 43
        with_reducible refine (int_c HR.out.st OK.out.1.2.2.1 (HR.out.room1 HZ.out HL.out)).mono ?_
        intro e w2 hp
        obtain ⟨rfl, r4, hs, ht⟩ := HR.out.st.next hp
        have HR2 := Aside0.mk (HR.out.take1 HZ.out hs)
        clear hp hs ht
        go_wp2_with fail
        go_roundw
        case rel => exact ⟨2, r4, rfl, HR2⟩
        case measure => decide
    · subst hj
      have i0 : ∀ w, (Instr.index 223 (.agg #[.int .i64 x.f1, .int .i64 x.f2, .int .i64 x.f3]) (.int .i64 2)).run Try.prog w = .ok (.int .i64 x.f3) w := fun _ => by kernel_rfl
      by_cases hz : x.f3 = 0
      · have hb : (bits BinOp.and IntKind.u8 sv 4 != 0) = false := by rw [← SV.out]; exact (says_f3 x).1 hz
        have HZ := Aside0.mk hz
        clear hz
        go_wp2_with fail
        go_roundw
        case rel => exact ⟨3, r3, rfl, ⟨HR.out.skip2 HZ.out⟩⟩
        case measure => decide
      · have hb : (bits BinOp.and IntKind.u8 sv 4 != 0) = true := by rw [← SV.out]; exact (says_f3 x).2 hz
        have HZ := Aside0.mk hz
        clear hz
        go_wp2_with fail
        go_at_call 43
        with_reducible refine (int_c HR.out.st OK.out.1.2.2.2 (HR.out.room2 HZ.out HL.out)).mono ?_
        intro e w2 hp
        obtain ⟨rfl, r4, hs, ht⟩ := HR.out.st.next hp
        have HR2 := Aside0.mk (HR.out.take2 HZ.out hs)
        clear hp hs ht
        go_wp2_with fail
        go_roundw
        case rel => exact ⟨3, r4, rfl, HR2⟩
        case measure => decide
    · subst hj
      have e4 := HR.out.c1.cell 4 rfl
      have l1 := HR.out.c1.lt
      by_cases hz : x.f4.length = 0
      · have hz1 : decide (0 < x.f4.length) = false := decide_eq_false (by omega)
        have hz2 : ¬ 0 < x.f4.length := by omega
        have HZ := Aside0.mk hz
        clear hz
        go_wp2_with fail
        go_end0
        exact HR.out.none HZ.out
      · have hz1 : decide (0 < x.f4.length) = true := decide_eq_true (by omega)
        have hz2 : 0 < x.f4.length := by omega
        have HZ := Aside0.mk hz
        clear hz
        go_wp2_with fail
        go_at_call 141
        with_reducible refine (put141 base g r3 x.f4.length c4 w.heap.size (w.heap.size + 1 + 1) A4 x.f4 _ d wr (fun r1 w1 => Cap w1 g r1 w.heap.size #[.pointer (some ⟨g, 0, none⟩)] 121 ∧ Cap w1 g r1 (w.heap.size + 1 + 1) #[.int .i64 k] 3) (deepE f) (encE f) rfl HC.out HR.out.st.wr ⟨HR.out.c0, HR.out.c2⟩
          (fun r1 w1 r2 w2 ys d2 h s => ⟨h.1.st s, h.2.st s⟩) (HR.out.roomA HZ.out HL.out)
          (fun y ys d1 r1 w1 A5 c5 hy hl5 hC5 hw hI hlim => clos_calls f ih base g r1 k w.heap.size (w.heap.size + 1 + 1) ys d1 y A5 c5 w1 HK.out hw (OK.out.2 y hy) hl5 hC5 hlim hI.1 hI.2)).mono ?_
        intro e w2 hp
        obtain ⟨rfl, r4, hs, ht⟩ := HR.out.st.next hp
        have HE := Aside0.mk ht
        clear hp hs ht
        go_wp2_with fail
        go_end0
        exact ExprL.some HZ.out HE.out
theorem expr_c : ∀ f, ExprC f
  | 0 => expr_zero
  | f + 1 => expr_succ f (expr_c f)
end Go.Proofs.Ytpbdkkahodaloaa.U
end

section
namespace Go.Proofs.Ytpbdkkahodaloaa.U
open Go.RowKit Go.Lib Go.Proofs.Ytpbdkkahodaloaa.PS Go.Proofs.YtpbdkkahodaloaaW.PrintWords Go.Proofs.YtpbdkkahodaloaaW.PrintMore
set_option linter.unusedVariables false
set_option linter.unusedSimpArgs false
set_option maxRecDepth 100000
theorem expr_1 (base : World) (g r : Nat) (xs : List Int) (d : Bool) (x : S80) (A4 : Option Addr) (c4 : Nat) (w : World) (h : Wr w base g r xs d) (hok : okE 64 x) (hl : x.f4.length ≤ c4) (hC : Kd.C k80 base A4 x.f4.length x.f4) (hlim : (xs ++ encE 64 x).length ≤ LIM) :
    Calls Try.prog 117 #[.pointer (some ⟨g, 0, none⟩), .agg #[.int .i64 x.f0, .int .i64 x.f1, .int .i64 x.f2, .int .i64 x.f3, .slice A4 x.f4.length c4], .int .i64 1] w (WPost base g r (xs ++ encE 64 x) (d || deepE 64 x) w) := expr_c 64 base g r 1 xs d x A4 c4 w rfl h hok hl hC hlim
theorem band_c (base : World) (g r : Nat) (xs : List Int) (d : Bool) (x : S74) (w : World) (h : Wr w base g r xs d) (ok : i64 x.f0 ∧ i64 x.f1) (hl : (xs ++ encBand x).length ≤ LIM) :
    Calls Try.prog 50 #[.pointer (some ⟨g, 0, none⟩), .agg #[.int .i64 x.f0, .int .i64 x.f1]] w (WPost base g r (xs ++ encBand x) (d || false) w) := band_calls base g r xs d x w h ok hl
def deepGroup (x : S69) : Bool := false
def okGroup (x : S69) : Prop := i64 x.f1
set_option maxHeartbeats 4000000 in
theorem group_calls (base : World) (g r cw : Nat) (xs : List Int) (d : Bool) (x : S69) (w : World) (ok : okGroup x) (h : Wr w base g r xs d) (hcw : Cap w g r cw #[.pointer (some ⟨g, 0, none⟩)] 121) (hl : (xs ++ encGroup x).length ≤ LIM) :
    Calls Try.prog 52 #[.agg #[.string x.f0, .int .i64 x.f1], .pointer (some ⟨cw, 0, none⟩)] w (WPost base g r (xs ++ encGroup x) (d || deepGroup x) w) := by
  have S0 := Aside0.mk ((St.refl h).alloc (.cells #[.string x.f0, .int .i64 x.f1] 69))
  have B0 := Aside0.mk (Cap.new h #[.string x.f0, .int .i64 x.f1] 69)
  have W0 := Aside0.mk (hcw.alloc (.cells #[.string x.f0, .int .i64 x.f1] 69))
  have HL := Aside0.mk (show (xs ++ (encText x.f0 ++ encInt x.f1)).length ≤ LIM from hl)
  have OK := Aside0.mk (show i64 x.f1 from ok)
  have wc := hcw.cell 0 rfl
  have wl := hcw.lt
  clear h hl ok  hcw
  go_enter Try.func52, Try.ntmps52
  go_wp2_with fail
  go_at_call 42
  with_reducible refine (text_c S0.out (lim_left HL.out)).mono ?_
  intro e w1 hp
  obtain ⟨rfl, r1, hs, ht⟩ := S0.out.next hp
  have S1 := Aside0.mk ht
  have B1 := Aside0.mk (B0.out.st hs)
  have W1 := Aside0.mk (W0.out.st hs)
  clear hp hs ht
  clear wc wl
  have b1 := B1.out.cell 1 rfl
  have bl := B1.out.lt
  have wc := W1.out.cell 0 rfl
  have wl := W1.out.lt
  go_wp2_with fail
  go_at_call 43
  with_reducible refine (int_c S1.out OK.out (lim_right HL.out)).mono ?_
  intro e w2 hp
  obtain ⟨rfl, r2, hs, ht⟩ := S1.out.next hp
  have S2 := Aside0.mk ht
  clear hp hs ht
  clear b1 bl
  go_wp2_with fail
  go_end0
  exact S2.out.post (by simp only [encGroup, List.append_assoc]) (by simp [deepGroup, Bool.or_assoc])
def deepOptions (x : S97) : Bool := false
def okOptions (x : S97) : Prop := True
set_option maxHeartbeats 4000000 in
theorem options_calls (base : World) (g r cw : Nat) (xs : List Int) (d : Bool) (x : S97) (A1 : Option Addr) (c1 : Nat) (w : World) (ok : okOptions x) (l1 : x.f1.length ≤ c1) (g1 : Kd.C Kd.string base A1 x.f1.length x.f1) (h : Wr w base g r xs d) (hcw : Cap w g r cw #[.pointer (some ⟨g, 0, none⟩)] 121) (hl : (xs ++ encOptions x).length ≤ LIM) :
    Calls Try.prog 45 #[.agg #[.string x.f0, .slice A1 x.f1.length c1], .pointer (some ⟨cw, 0, none⟩)] w (WPost base g r (xs ++ encOptions x) (d || deepOptions x) w) := by
  have S0 := Aside0.mk ((St.refl h).alloc (.cells #[.string x.f0, .slice A1 x.f1.length c1] 97))
  have B0 := Aside0.mk (Cap.new h #[.string x.f0, .slice A1 x.f1.length c1] 97)
  have W0 := Aside0.mk (hcw.alloc (.cells #[.string x.f0, .slice A1 x.f1.length c1] 97))
  have HL := Aside0.mk (show (xs ++ (encText x.f0 ++ encList encText x.f1)).length ≤ LIM from hl)
  have OK := Aside0.mk (show True from ok)
  have L1 := Aside0.mk l1
  have G1 := Aside0.mk g1
  have wc := hcw.cell 0 rfl
  have wl := hcw.lt
  clear h hl ok l1 g1 hcw
  go_enter Try.func45, Try.ntmps45
  go_wp2_with fail
  go_at_call 42
  with_reducible refine (text_c S0.out (lim_left HL.out)).mono ?_
  intro e w1 hp
  obtain ⟨rfl, r1, hs, ht⟩ := S0.out.next hp
  have S1 := Aside0.mk ht
  have B1 := Aside0.mk (B0.out.st hs)
  have W1 := Aside0.mk (W0.out.st hs)
  clear hp hs ht
  clear wc wl
  have b1 := B1.out.cell 1 rfl
  have bl := B1.out.lt
  have wc := W1.out.cell 0 rfl
  have wl := W1.out.lt
  go_wp2_with fail
  go_at_call 46
  with_reducible refine (put46 base g r1 x.f1.length c1 A1 x.f1 _ d _ (fun _ _ => True) (fun _ => false) encText rfl G1.out S1.out.wr trivial (fun _ _ _ _ _ _ _ _ => trivial) (lim_right HL.out) (fun y ys d1 r1 w1 _ hw _ hlim => by rw [Bool.or_false]; exact text_c (St.refl hw) hlim)).mono ?_
  intro e w2 hp
  obtain ⟨rfl, r2, hs, ht⟩ := S1.out.next hp
  have S2 := Aside0.mk ht
  clear hp hs ht
  clear b1 bl
  go_wp2_with fail
  go_end0
  exact S2.out.post (by simp only [encOptions, List.append_assoc]) (by simp [deepOptions, Bool.or_assoc])
def deepTable (x : S72) : Bool := false
def okTable (x : S72) : Prop := (∀ y ∈ x.f1, i64 y.f0 ∧ i64 y.f1)
set_option maxHeartbeats 4000000 in
theorem table_calls (base : World) (g r cw : Nat) (xs : List Int) (d : Bool) (x : S72) (A1 : Option Addr) (c1 : Nat) (w : World) (ok : okTable x) (l1 : x.f1.length ≤ c1) (g1 : Kd.C k74 base A1 x.f1.length x.f1) (h : Wr w base g r xs d) (hcw : Cap w g r cw #[.pointer (some ⟨g, 0, none⟩)] 121) (hl : (xs ++ encTable x).length ≤ LIM) :
    Calls Try.prog 48 #[.agg #[.string x.f0, .slice A1 x.f1.length c1], .pointer (some ⟨cw, 0, none⟩)] w (WPost base g r (xs ++ encTable x) (d || deepTable x) w) := by
  have S0 := Aside0.mk ((St.refl h).alloc (.cells #[.string x.f0, .slice A1 x.f1.length c1] 72))
  have B0 := Aside0.mk (Cap.new h #[.string x.f0, .slice A1 x.f1.length c1] 72)
  have W0 := Aside0.mk (hcw.alloc (.cells #[.string x.f0, .slice A1 x.f1.length c1] 72))
  have HL := Aside0.mk (show (xs ++ (encText x.f0 ++ encList encBand x.f1)).length ≤ LIM from hl)
  have OK := Aside0.mk (show (∀ y ∈ x.f1, i64 y.f0 ∧ i64 y.f1) from ok)
  have L1 := Aside0.mk l1
  have G1 := Aside0.mk g1
  have wc := hcw.cell 0 rfl
  have wl := hcw.lt
  clear h hl ok l1 g1 hcw
  go_enter Try.func48, Try.ntmps48
  go_wp2_with fail
  go_at_call 42
  with_reducible refine (text_c S0.out (lim_left HL.out)).mono ?_
  intro e w1 hp
  obtain ⟨rfl, r1, hs, ht⟩ := S0.out.next hp
  have S1 := Aside0.mk ht
  have B1 := Aside0.mk (B0.out.st hs)
  have W1 := Aside0.mk (W0.out.st hs)
  clear hp hs ht
  clear wc wl
  have b1 := B1.out.cell 1 rfl
  have bl := B1.out.lt
  have wc := W1.out.cell 0 rfl
  have wl := W1.out.lt
  go_wp2_with fail
  go_at_call 49
  with_reducible refine (put49 base g r1 x.f1.length c1 A1 x.f1 _ d _ (fun _ _ => True) (fun _ => false) encBand rfl G1.out S1.out.wr trivial (fun _ _ _ _ _ _ _ _ => trivial) (lim_right HL.out) (fun y ys d1 r1 w1 hy hw _ hlim => band_c base g r1 ys d1 y w1 hw (OK.out y hy) hlim)).mono ?_
  intro e w2 hp
  obtain ⟨rfl, r2, hs, ht⟩ := S1.out.next hp
  have S2 := Aside0.mk ht
  clear hp hs ht
  clear b1 bl
  go_wp2_with fail
  go_end0
  exact S2.out.post (by simp only [encTable, List.append_assoc]) (by simp [deepTable, Bool.or_assoc])
def encClause (x : S100) : List Int := encInt x.f0 ++ (encFlag x.f1 ++ (encE 64 x.f2 ++ encE 64 x.f3))
def deepClause (x : S100) : Bool := deepE 64 x.f2 || deepE 64 x.f3
def okClause (x : S100) : Prop := i64 x.f0 ∧ okE 64 x.f2 ∧ okE 64 x.f3
set_option maxHeartbeats 4000000 in
theorem clause_calls (base : World) (g r : Nat) (xs : List Int) (d : Bool) (x : S100) (A6 : Option Addr) (c6 : Nat) (A11 : Option Addr) (c11 : Nat) (w : World) (ok : okClause x) (l6 : x.f2.f4.length ≤ c6) (g6 : Kd.C k80 base A6 x.f2.f4.length x.f2.f4) (l11 : x.f3.f4.length ≤ c11) (g11 : Kd.C k80 base A11 x.f3.f4.length x.f3.f4) (h : Wr w base g r xs d) (hl : (xs ++ encClause x).length ≤ LIM) :
    Calls Try.prog 116 #[.pointer (some ⟨g, 0, none⟩), .agg #[.int .i64 x.f0, .bool x.f1, .int .i64 x.f2.f0, .int .i64 x.f2.f1, .int .i64 x.f2.f2, .int .i64 x.f2.f3, .slice A6 x.f2.f4.length c6, .int .i64 x.f3.f0, .int .i64 x.f3.f1, .int .i64 x.f3.f2, .int .i64 x.f3.f3, .slice A11 x.f3.f4.length c11]] w (WPost base g r (xs ++ encClause x) (d || deepClause x) w) := by
  have S0 := Aside0.mk ((St.refl h).alloc (.cells #[.int .i64 x.f0, .bool x.f1, .int .i64 x.f2.f0, .int .i64 x.f2.f1, .int .i64 x.f2.f2, .int .i64 x.f2.f3, .slice A6 x.f2.f4.length c6, .int .i64 x.f3.f0, .int .i64 x.f3.f1, .int .i64 x.f3.f2, .int .i64 x.f3.f3, .slice A11 x.f3.f4.length c11] 100))
  have B0 := Aside0.mk (Cap.new h #[.int .i64 x.f0, .bool x.f1, .int .i64 x.f2.f0, .int .i64 x.f2.f1, .int .i64 x.f2.f2, .int .i64 x.f2.f3, .slice A6 x.f2.f4.length c6, .int .i64 x.f3.f0, .int .i64 x.f3.f1, .int .i64 x.f3.f2, .int .i64 x.f3.f3, .slice A11 x.f3.f4.length c11] 100)
  have HL := Aside0.mk (show (xs ++ (encInt x.f0 ++ (encFlag x.f1 ++ (encE 64 x.f2 ++ encE 64 x.f3)))).length ≤ LIM from hl)
  have OK := Aside0.mk (show i64 x.f0 ∧ okE 64 x.f2 ∧ okE 64 x.f3 from ok)
  have L6 := Aside0.mk l6
  have G6 := Aside0.mk g6
  have L11 := Aside0.mk l11
  have G11 := Aside0.mk g11
  clear h hl ok l6 g6 l11 g11
  go_enter Try.func116, Try.ntmps116
  go_wp2_with fail
  go_at_call 43
  with_reducible refine (int_c S0.out OK.out.1 (lim_left HL.out)).mono ?_
  intro e w1 hp
  obtain ⟨rfl, r1, hs, ht⟩ := S0.out.next hp
  have S1 := Aside0.mk ht
  have B1 := Aside0.mk (B0.out.st hs)
  clear hp hs ht
  have b1 := B1.out.cell 1 rfl
  have bl := B1.out.lt
  go_wp2_with fail
  go_at_call 114
  with_reducible refine (flag_c S1.out (lim_left (lim_right HL.out))).mono ?_
  intro e w2 hp
  obtain ⟨rfl, r2, hs, ht⟩ := S1.out.next hp
  have S2 := Aside0.mk ht
  have B2 := Aside0.mk (B1.out.st hs)
  clear hp hs ht
  clear b1 bl
  have b2 := B2.out.cell 2 rfl
  have b3 := B2.out.cell 3 rfl
  have b4 := B2.out.cell 4 rfl
  have b5 := B2.out.cell 5 rfl
  have b6 := B2.out.cell 6 rfl
  have bl := B2.out.lt
  go_wp2_with fail
  go_at_call 117
  with_reducible refine (expr_1 base g r2 _ _ x.f2 A6 c6 _ S2.out.wr OK.out.2.1 L6.out G6.out (lim_left (lim_right (lim_right HL.out)))).mono ?_
  intro e w3 hp
  obtain ⟨rfl, r3, hs, ht⟩ := S2.out.next hp
  have S3 := Aside0.mk ht
  have B3 := Aside0.mk (B2.out.st hs)
  clear hp hs ht
  clear b2 b3 b4 b5 b6 bl
  have b7 := B3.out.cell 7 rfl
  have b8 := B3.out.cell 8 rfl
  have b9 := B3.out.cell 9 rfl
  have b10 := B3.out.cell 10 rfl
  have b11 := B3.out.cell 11 rfl
  have bl := B3.out.lt
  go_wp2_with fail
  go_at_call 117
  with_reducible refine (expr_1 base g r3 _ _ x.f3 A11 c11 _ S3.out.wr OK.out.2.2 L11.out G11.out (lim_right (lim_right (lim_right HL.out)))).mono ?_
  intro e w4 hp
  obtain ⟨rfl, r4, hs, ht⟩ := S3.out.next hp
  have S4 := Aside0.mk ht
  clear hp hs ht
  clear b7 b8 b9 b10 b11 bl
  go_wp2_with fail
  go_end0
  exact S4.out.post (by simp only [encClause, List.append_assoc]) (by simp [deepClause, Bool.or_assoc])
def encLine (x : S77) : List Int := encText x.f0 ++ (encFlag x.f1 ++ (encFlag x.f2 ++ (encInt x.f3 ++ (encInt x.f4 ++ (encInt x.f5 ++ encList encClause x.f6)))))
def deepLine (x : S77) : Bool := x.f6.any deepClause
def okLine (x : S77) : Prop := i64 x.f3 ∧ i64 x.f4 ∧ i64 x.f5 ∧ (∀ y ∈ x.f6, okClause y)
set_option maxHeartbeats 4000000 in
theorem line_calls (base : World) (g r : Nat) (xs : List Int) (d : Bool) (x : S77) (A6 : Option Addr) (c6 : Nat) (w : World) (ok : okLine x) (l6 : x.f6.length ≤ c6) (g6 : Kd.C k100 base A6 x.f6.length x.f6) (h : Wr w base g r xs d) (hl : (xs ++ encLine x).length ≤ LIM) :
    Calls Try.prog 54 #[.pointer (some ⟨g, 0, none⟩), .agg #[.string x.f0, .bool x.f1, .bool x.f2, .int .i64 x.f3, .int .i64 x.f4, .int .i64 x.f5, .slice A6 x.f6.length c6]] w (WPost base g r (xs ++ encLine x) (d || deepLine x) w) := by
  have S0 := Aside0.mk ((St.refl h).alloc (.cells #[.string x.f0, .bool x.f1, .bool x.f2, .int .i64 x.f3, .int .i64 x.f4, .int .i64 x.f5, .slice A6 x.f6.length c6] 77))
  have B0 := Aside0.mk (Cap.new h #[.string x.f0, .bool x.f1, .bool x.f2, .int .i64 x.f3, .int .i64 x.f4, .int .i64 x.f5, .slice A6 x.f6.length c6] 77)
  have HL := Aside0.mk (show (xs ++ (encText x.f0 ++ (encFlag x.f1 ++ (encFlag x.f2 ++ (encInt x.f3 ++ (encInt x.f4 ++ (encInt x.f5 ++ encList encClause x.f6))))))).length ≤ LIM from hl)
  have OK := Aside0.mk (show i64 x.f3 ∧ i64 x.f4 ∧ i64 x.f5 ∧ (∀ y ∈ x.f6, okClause y) from ok)
  have L6 := Aside0.mk l6
  have G6 := Aside0.mk g6
  clear h hl ok l6 g6
  go_enter Try.func54, Try.ntmps54
  go_wp2_with fail
  go_at_call 42
  with_reducible refine (text_c S0.out (lim_left HL.out)).mono ?_
  intro e w1 hp
  obtain ⟨rfl, r1, hs, ht⟩ := S0.out.next hp
  have S1 := Aside0.mk ht
  have B1 := Aside0.mk (B0.out.st hs)
  clear hp hs ht
  have b1 := B1.out.cell 1 rfl
  have bl := B1.out.lt
  go_wp2_with fail
  go_at_call 114
  with_reducible refine (flag_c S1.out (lim_left (lim_right HL.out))).mono ?_
  intro e w2 hp
  obtain ⟨rfl, r2, hs, ht⟩ := S1.out.next hp
  have S2 := Aside0.mk ht
  have B2 := Aside0.mk (B1.out.st hs)
  clear hp hs ht
  clear b1 bl
  have b2 := B2.out.cell 2 rfl
  have bl := B2.out.lt
  go_wp2_with fail
  go_at_call 114
  with_reducible refine (flag_c S2.out (lim_left (lim_right (lim_right HL.out)))).mono ?_
  intro e w3 hp
  obtain ⟨rfl, r3, hs, ht⟩ := S2.out.next hp
  have S3 := Aside0.mk ht
  have B3 := Aside0.mk (B2.out.st hs)
  clear hp hs ht
  clear b2 bl
  have b3 := B3.out.cell 3 rfl
  have bl := B3.out.lt
  go_wp2_with fail
  go_at_call 43
  with_reducible refine (int_c S3.out OK.out.1 (lim_left (lim_right (lim_right (lim_right HL.out))))).mono ?_
  intro e w4 hp
  obtain ⟨rfl, r4, hs, ht⟩ := S3.out.next hp
  have S4 := Aside0.mk ht
  have B4 := Aside0.mk (B3.out.st hs)
  clear hp hs ht
  clear b3 bl
  have b4 := B4.out.cell 4 rfl
  have bl := B4.out.lt
  go_wp2_with fail
  go_at_call 43
  with_reducible refine (int_c S4.out OK.out.2.1 (lim_left (lim_right (lim_right (lim_right (lim_right HL.out)))))).mono ?_
  intro e w5 hp
  obtain ⟨rfl, r5, hs, ht⟩ := S4.out.next hp
  have S5 := Aside0.mk ht
  have B5 := Aside0.mk (B4.out.st hs)
  clear hp hs ht
  clear b4 bl
  have b5 := B5.out.cell 5 rfl
  have bl := B5.out.lt
  go_wp2_with fail
  go_at_call 43
  with_reducible refine (int_c S5.out OK.out.2.2.1 (lim_left (lim_right (lim_right (lim_right (lim_right (lim_right HL.out))))))).mono ?_
  intro e w6 hp
  obtain ⟨rfl, r6, hs, ht⟩ := S5.out.next hp
  have S6 := Aside0.mk ht
  have B6 := Aside0.mk (B5.out.st hs)
  clear hp hs ht
  clear b5 bl
  have b6 := B6.out.cell 6 rfl
  have bl := B6.out.lt
  go_wp2_with fail
  go_at_call 115
  with_reducible refine (put115 base g r6 x.f6.length c6 A6 x.f6 _ d _ (fun _ _ => True) deepClause encClause rfl G6.out S6.out.wr trivial (fun _ _ _ _ _ _ _ _ => trivial) (lim_right (lim_right (lim_right (lim_right (lim_right (lim_right HL.out)))))) (fun y ys d1 r1 w1 A6 c6 A11 c11 hy h6 hC6 h11 hC11 hw _ hlim => clause_calls base g r1 ys d1 y A6 c6 A11 c11 w1 (OK.out.2.2.2 y hy) h6 hC6 h11 hC11 hw hlim)).mono ?_
  intro e w7 hp
  obtain ⟨rfl, r7, hs, ht⟩ := S6.out.next hp
  have S7 := Aside0.mk ht
  clear hp hs ht
  clear b6 bl
  go_wp2_with fail
  go_end0
  exact S7.out.post (by simp only [encLine, List.append_assoc]) (by simp [deepLine, Bool.or_assoc])
def encCheck (x : S82) : List Int := encText x.f0 ++ (encFlag x.f1 ++ (encInt x.f2 ++ (encE 64 x.f3 ++ encText x.f4)))
def deepCheck (x : S82) : Bool := deepE 64 x.f3
def okCheck (x : S82) : Prop := i64 x.f2 ∧ okE 64 x.f3
set_option maxHeartbeats 4000000 in
theorem check_calls (base : World) (g r : Nat) (xs : List Int) (d : Bool) (x : S82) (A7 : Option Addr) (c7 : Nat) (w : World) (ok : okCheck x) (l7 : x.f3.f4.length ≤ c7) (g7 : Kd.C k80 base A7 x.f3.f4.length x.f3.f4) (h : Wr w base g r xs d) (hl : (xs ++ encCheck x).length ≤ LIM) :
    Calls Try.prog 56 #[.pointer (some ⟨g, 0, none⟩), .agg #[.string x.f0, .bool x.f1, .int .i64 x.f2, .int .i64 x.f3.f0, .int .i64 x.f3.f1, .int .i64 x.f3.f2, .int .i64 x.f3.f3, .slice A7 x.f3.f4.length c7, .string x.f4]] w (WPost base g r (xs ++ encCheck x) (d || deepCheck x) w) := by
  have S0 := Aside0.mk ((St.refl h).alloc (.cells #[.string x.f0, .bool x.f1, .int .i64 x.f2, .int .i64 x.f3.f0, .int .i64 x.f3.f1, .int .i64 x.f3.f2, .int .i64 x.f3.f3, .slice A7 x.f3.f4.length c7, .string x.f4] 82))
  have B0 := Aside0.mk (Cap.new h #[.string x.f0, .bool x.f1, .int .i64 x.f2, .int .i64 x.f3.f0, .int .i64 x.f3.f1, .int .i64 x.f3.f2, .int .i64 x.f3.f3, .slice A7 x.f3.f4.length c7, .string x.f4] 82)
  have HL := Aside0.mk (show (xs ++ (encText x.f0 ++ (encFlag x.f1 ++ (encInt x.f2 ++ (encE 64 x.f3 ++ encText x.f4))))).length ≤ LIM from hl)
  have OK := Aside0.mk (show i64 x.f2 ∧ okE 64 x.f3 from ok)
  have L7 := Aside0.mk l7
  have G7 := Aside0.mk g7
  clear h hl ok l7 g7
  go_enter Try.func56, Try.ntmps56
  go_wp2_with fail
  go_at_call 42
  with_reducible refine (text_c S0.out (lim_left HL.out)).mono ?_
  intro e w1 hp
  obtain ⟨rfl, r1, hs, ht⟩ := S0.out.next hp
  have S1 := Aside0.mk ht
  have B1 := Aside0.mk (B0.out.st hs)
  clear hp hs ht
  have b1 := B1.out.cell 1 rfl
  have bl := B1.out.lt
  go_wp2_with fail
  go_at_call 114
  with_reducible refine (flag_c S1.out (lim_left (lim_right HL.out))).mono ?_
  intro e w2 hp
  obtain ⟨rfl, r2, hs, ht⟩ := S1.out.next hp
  have S2 := Aside0.mk ht
  have B2 := Aside0.mk (B1.out.st hs)
  clear hp hs ht
  clear b1 bl
  have b2 := B2.out.cell 2 rfl
  have bl := B2.out.lt
  go_wp2_with fail
  go_at_call 43
  with_reducible refine (int_c S2.out OK.out.1 (lim_left (lim_right (lim_right HL.out)))).mono ?_
  intro e w3 hp
  obtain ⟨rfl, r3, hs, ht⟩ := S2.out.next hp
  have S3 := Aside0.mk ht
  have B3 := Aside0.mk (B2.out.st hs)
  clear hp hs ht
  clear b2 bl
  have b3 := B3.out.cell 3 rfl
  have b4 := B3.out.cell 4 rfl
  have b5 := B3.out.cell 5 rfl
  have b6 := B3.out.cell 6 rfl
  have b7 := B3.out.cell 7 rfl
  have bl := B3.out.lt
  go_wp2_with fail
  go_at_call 117
  with_reducible refine (expr_1 base g r3 _ _ x.f3 A7 c7 _ S3.out.wr OK.out.2 L7.out G7.out (lim_left (lim_right (lim_right (lim_right HL.out))))).mono ?_
  intro e w4 hp
  obtain ⟨rfl, r4, hs, ht⟩ := S3.out.next hp
  have S4 := Aside0.mk ht
  have B4 := Aside0.mk (B3.out.st hs)
  clear hp hs ht
  clear b3 b4 b5 b6 b7 bl
  have b8 := B4.out.cell 8 rfl
  have bl := B4.out.lt
  go_wp2_with fail
  go_at_call 42
  with_reducible refine (text_c S4.out (lim_right (lim_right (lim_right (lim_right HL.out))))).mono ?_
  intro e w5 hp
  obtain ⟨rfl, r5, hs, ht⟩ := S4.out.next hp
  have S5 := Aside0.mk ht
  clear hp hs ht
  clear b8 bl
  go_wp2_with fail
  go_end0
  exact S5.out.post (by simp only [encCheck, List.append_assoc]) (by simp [deepCheck, Bool.or_assoc])
end Go.Proofs.Ytpbdkkahodaloaa.U
end

-- Part 7 of the texts of the claim CS (wrote by programs: words of the kit's print.sh, printed functions; and my own texts; joined by wip/tools/pack.py).
import Derived.Test.YtfhgomcfpmbhnaaCS6
import Derived.StillTailTactics

section
namespace Go.Proofs.Ytfhgomcfpmbhnaa.Y
open Go Go.RowKit Go.Proofs.Ytfhgomcfpmbhnaa.PS Go.Proofs.Ytfhgomcfpmbhnaa.F Go.Proofs.YtfhgomcfpmbhnaaW.PrintWords Go.Proofs.YtfhgomcfpmbhnaaW.PrintMore Go.Proofs.YtfhgomcfpmbhnaaW.Fits
attribute [local go_sem] frun_add frun_sub frun_mul frun_quo frun_neg frun_of frun_same frun_store frun_bits frun_from
attribute [local go_sem ↓] Go.wp_at_zero Go.wp_at_succ
set_option linter.unusedVariables false
set_option maxRecDepth 100000
def nanAt (w : World) (x y : Nat) : Nat := (Question.nanBits .f32 x y).cut (w.tape w.drawn (.nanBits .f32 x y))
theorem frun_sub_nan {P : Program} {w : World} {t : TypeId} {x y : Nat} (h : fk_sub x y = false) : (binOp .sub t (.float .f32 x) (.float .f32 y)).run P w = .ok (.float .f32 (nanAt w x y)) w.drew := by
  have hn : Ieee.single.sub x y = none := by
    unfold fk_sub at h
    cases hs : Ieee.single.sub x y with
    | none => rfl
    | some r => rw [hs] at h; cases h
  have hn' : FloatKind.f32.format.sub x y = none := hn
  simp [binOp, Op.floatArith, hn', Question.forced, nanAt]
attribute [local go_sem] frun_sub_nan
end Go.Proofs.Ytfhgomcfpmbhnaa.Y
end

section
namespace Go.Proofs.Ytfhgomcfpmbhnaa.F
open Go.RowKit Go.Proofs.Ytfhgomcfpmbhnaa.Y Go.Proofs.Ytfhgomcfpmbhnaa.PS Ieee
open Go.Proofs.YtfhgomcfpmbhnaaW.PrintWords Go.Proofs.YtfhgomcfpmbhnaaW.PrintMore
set_option linter.unusedVariables false
set_option linter.unusedSimpArgs false
theorem wrap_id (x : Int) (h0 : -4611686018427387904 ≤ x) (h1 : x ≤ 4611686018427387904) : wrap64 x = x := by unfold wrap64; omega
section
variable {l : List S73} (hg : Good l) (hl : l.length < 8796093022208) (ho : InOrd l l.length) (h : Nat) (hh : h ≤ 7)
include hg hl ho hh
end
end Go.Proofs.Ytfhgomcfpmbhnaa.F
end

section
namespace Go.Proofs.Ytfhgomcfpmbhnaa.Y
open Go.RowKit Go.Proofs.Ytfhgomcfpmbhnaa.PS Go.Proofs.Ytfhgomcfpmbhnaa.F Go.Proofs.YtfhgomcfpmbhnaaW.PrintWords Go.Proofs.YtfhgomcfpmbhnaaW.PrintMore
attribute [local go_sem] frun_bits frun_from
set_option linter.unusedVariables false
set_option maxRecDepth 100000
theorem C_own58 {w : World} {base n : Nat} {v : Value} {xs : List S58} (hn : xs.length = n) (h : w.ownsRow base 58 2 v n (pntv xs)) : ∃ A c, v = .slice A n c ∧ n ≤ c ∧ Kd.C k58 w A n xs := by
  rcases h.2 with ⟨rfl, rfl⟩ | ⟨g, cap, cur, rfl, _, _, h1, h2, _⟩
  · obtain rfl : xs = [] := List.eq_nil_of_length_eq_zero hn
    exact ⟨none, 0, rfl, Nat.le_refl _, Kd.C_nil k58 w⟩
  · refine ⟨some ⟨g, 0, none⟩, cap, rfl, h1, C_pnt hn.symm (by unfold maxLen at h2; omega) (fun j u hu => ?_)⟩
    have := h.cells (g := g) rfl j u hu
    rwa [add_plain] at this
theorem same_c (A A1 : Option Addr) (c c1 n : Nat) (m : List S73) (w : World) (hn : m.length = n) (ha : AllNum m) (hl : n < 8796093022208) (hr : Kd.C k58 w A n (m.map dP)) (hc : n ≤ c) (hr1 : Kd.C k38 w A1 n (m.map dB)) (hc1 : n ≤ c1) :
    Calls Try.prog 15 #[.slice A n c, .slice A1 n c1] w fun e w' => e = .returned (.bool true) ∧ Drawn0 w w' := by
  obtain ⟨k, hk⟩ := (F.same_is' m ha (by omega)).rounds
  have h1 : (m.map dP).length = n := by rw [List.length_map, hn]
  have h2 : (m.map dB).length = n := by rw [List.length_map, hn]
  have h := levylaw17_sameDots.calls k A c (m.map dP) A1 c1 (m.map dB) true w (by rw [h1]; exact hr) (by rw [h1]; exact hc) (by rw [h2]; exact hr1) (by rw [h2]; exact hc1) hk
  rw [h1, h2] at h
  exact h
end Go.Proofs.Ytfhgomcfpmbhnaa.Y
end

section
namespace Go.Proofs.Ytfhgomcfpmbhnaa.PS
open Go.RowKit Go.Proofs.YtfhgomcfpmbhnaaW.PrintWords
structure S29 where
  f0 : Int
  f1 : Int
def z29 : S29 := ⟨(0 : Int), (0 : Int)⟩
def k29 : Kd S29 := Kd.iso (Kd.pair (Kd.int .i64) (Kd.int .i64)) (fun x : S29 => (x.f0, x.f1))
theorem k29_open {w : World} {x : S29} {cs : List Value} (h : k29.K w x cs) : cs = [.int .i64 x.f0, .int .i64 x.f1] := by
  obtain ⟨_, _, rfl, rfl, rfl⟩ := h
  exact rfl
theorem at_T29 {w : World} {A : Option Addr} {n : Nat} {xs : List S29} (h : Kd.C k29 w A n xs) (i : Nat) (h1 : i < n) : ∃ ad , A = some ad ∧ w.cell? (ad.add (i * 2)) = some (.int .i64 (xs.getD i z29).f0) ∧ w.cell? ⟨(ad.add (i * 2)).block, (ad.add (i * 2)).off + 1, none⟩ = some (.int .i64 (xs.getD i z29).f1) := by
  obtain ⟨ad, c, e, _, hK, hc0⟩ := Kd.C_get h z29 (i : Int) (by omega) (by omega)
  rw [Int.toNat_natCast] at hK hc0
  have hc : ∀ j u, c[j]? = some u → w.cell? (ad.add (i * 2 + j)) = some u := hc0
  obtain rfl := k29_open hK
  exact ⟨ad, e, hc 0 _ rfl, by rw [← add_field _ _ 1 (by omega)]; exact hc 1 _ rfl⟩
end Go.Proofs.Ytfhgomcfpmbhnaa.PS
namespace Go.Proofs.Ytfhgomcfpmbhnaa.Y
open Go.RowKit Go.Proofs.Ytfhgomcfpmbhnaa.PS Go.Proofs.Ytfhgomcfpmbhnaa.F Go.Proofs.YtfhgomcfpmbhnaaW.PrintWords Go.Proofs.YtfhgomcfpmbhnaaW.PrintMore
set_option linter.unusedVariables false
set_option maxRecDepth 100000
structure Kp (g : Nat) (row : Option Nat) (w w' : World) : Prop where
  os : w'.os = w.os
  tape : w'.tape = w.tape
  output : w'.output = w.output
  size : w.heap.size ≤ w'.heap.size
  block : ∀ k, k < w.heap.size → k ≠ g → some k ≠ row → w'.heap[k]? = w.heap[k]?
theorem Kp.of_below {g : Nat} {row : Option Nat} {w w' : World} (h : Below w.heap.size w w') : Kp g row w w' := ⟨h.os, h.tape, h.output, h.size, fun k hk _ _ => h.block k hk⟩
theorem Kp.trans {g : Nat} {r r1 : Option Nat} {w w1 w2 : World} (h : Kp g r w w1) (k : Kp g r1 w1 w2) (hr : r1 = r ∨ ∃ b, r1 = some b ∧ w.heap.size ≤ b) : Kp g r w w2 :=
  ⟨k.os.trans h.os, k.tape.trans h.tape, k.output.trans h.output, Nat.le_trans h.size k.size, fun i hi hg hn => (k.block i (Nat.lt_of_lt_of_le hi h.size) hg (by
    rcases hr with rfl | ⟨b, rfl, hb⟩
    · exact hn
    · intro e; injection e with e; omega)).trans (h.block i hi hg hn)⟩
theorem Kp.grown {g : Nat} {r r1 : Option Nat} {w w1 w2 : World} (h : Kp g r w w1) (k : w1.grownBy w2 r1) (hr : r1 = r ∨ ∃ b, r1 = some b ∧ w.heap.size ≤ b) : Kp g r w w2 :=
  h.trans ⟨k.os, k.tape, k.output, k.size, fun i hi _ hn => k.block i hi hn⟩ hr
theorem Kp.set {g : Nat} {r : Option Nat} {w w1 : World} (h : Kp g r w w1) (j : Nat) (u : Value) : Kp g r w (w1.setCell ⟨g, j, none⟩ u) :=
  ⟨h.os, h.tape, h.output, by simpa [World.setCell] using h.size, fun i hi hg hn => (Below.heap_setCell w1 ⟨g, j, none⟩ u i hg).trans (h.block i hi hg hn)⟩
theorem Kp.setNew {g : Nat} {r : Option Nat} {w w1 : World} (h : Kp g r w w1) (p : Addr) (hp : w.heap.size ≤ p.block) (u : Value) : Kp g r w (w1.setCell p u) :=
  ⟨h.os, h.tape, h.output, by simpa [World.setCell] using h.size, fun i hi hg hn => (Below.heap_setCell w1 p u i (by omega)).trans (h.block i hi hg hn)⟩
theorem Kp.alloc {g : Nat} {r : Option Nat} {w w1 : World} (h : Kp g r w w1) (o : Obj) : Kp g r w (w1.alloc o) :=
  ⟨h.os, h.tape, h.output, Nat.le_trans h.size (by simp), fun i hi hg hn => (Below.heap_alloc w1 o i (Nat.lt_of_lt_of_le hi h.size)).trans (h.block i hi hg hn)⟩
theorem Kp.drewN {g : Nat} {r : Option Nat} {w w1 : World} (h : Kp g r w w1) (n : Nat) : Kp g r w (w1.drewN n) := ⟨h.os, h.tape, h.output, h.size, h.block⟩
theorem Kp.refl (g : Nat) (r : Option Nat) (w : World) : Kp g r w w := ⟨rfl, rfl, rfl, Nat.le_refl _, fun _ _ _ _ => rfl⟩
structure Asked (w : World) (base g : Nat) (v : Value) (xs : List Int) : Prop where
  blk : w.heap[g]? = some (.cells #[v] 24 (0, 0))
  own : w.ownsRow base 2 1 v xs.length (nums .i64 xs)
theorem Asked.keep {w w' : World} {base g : Nat} {v : Value} {xs : List Int} (h : Asked w base g v xs) (hg : w'.heap[g]? = w.heap[g]?) (hr : ∀ k, v.ownBlock = some k → w'.heap[k]? = w.heap[k]?) : Asked w' base g v xs :=
  ⟨hg.trans h.blk, own_move h.own hr⟩
theorem Asked.below {w w' : World} {base g : Nat} {v : Value} {xs : List Int} (h : Asked w base g v xs) (hb : Below w.heap.size w w') : Asked w' base g v xs :=
  h.keep (hb.block g (blk_lt h.blk)) (fun k hk => hb.block k (own_lt h.own k hk))
theorem info2' : (Try.prog.info? 2).map (fun i => (i.zero, i.size, i.bytes)) = some (some (.int .i64 0), 1, 8) := by kernel_rfl
def valAt (vals : List S29) (n : Nat) : S29 := if vals.length = 0 then z29 else vals.getD (n % vals.length) z29
def ClosPost (base g : Nat) (v : Value) (xs : List Int) (x : Int) (r : S29) (w : World) (e : Ending) (w' : World) : Prop :=
  e = .returned (.agg #[.int .i64 r.f0, .int .i64 r.f1]) ∧ ∃ v', Asked w' base g v' (xs ++ [x]) ∧ Kp g v.ownBlock w w' ∧ (v'.ownBlock = v.ownBlock ∨ ∃ b, v'.ownBlock = some b ∧ w.heap.size ≤ b)
structure ClosTwo (base ga gv : Nat) (AA A3 AV : Option Addr) (ca c3 cv n m : Nat) (xs : List Int) (x : Int) (vals : List S29) (w w3 w4 : World) : Prop where
  a3 : w3.cell? ⟨ga, 0, none⟩ = some (.slice AA n ca)
  f3 : w3.frozen? ⟨ga, 0, none⟩ = false
  n0 : w3.cell? ⟨w.heap.size, 0, none⟩ = some (.int .i64 0)
  n1 : w3.cell? ⟨w.heap.size, 1, none⟩ = some (.int .i64 0)
  m0 : w3.frozen? ⟨w.heap.size, 0, none⟩ = false
  m1 : w3.frozen? ⟨w.heap.size, 1, none⟩ = false
  v4 : w4.cell? ⟨gv, 0, none⟩ = some (.slice AV m cv)
  as4 : Asked w4 base ga (.slice A3 (n + 1) c3) (xs ++ [x])
  b4 : w4.heap[w.heap.size]? = some (.cells #[.int .i64 0, .int .i64 0] 29 (0, 0))
  r4 : Kd.C k29 w4 AV m vals
  kp : Kp ga (Value.slice AA n ca).ownBlock w w4
  ro : (Value.slice A3 (n + 1) c3).ownBlock = (Value.slice AA n ca).ownBlock ∨ ∃ b, (Value.slice A3 (n + 1) c3).ownBlock = some b ∧ w.heap.size ≤ b
theorem reads_move {α : Type} {R R' : α → List Value → Prop} {size : Nat} {w w1 : World} {A : Option Addr} {n : Nat} {ps : List α} (h : ReadsRow R size w A n ps) (hb : ∀ ad, A = some ad → 0 < n → w1.heap[ad.block]? = w.heap[ad.block]?) (hR : ∀ p c, R p c → R' p c) : ReadsRow R' size w1 A n ps :=
  ⟨h.1, h.2.1, fun hn => by
    obtain ⟨ad, e, hc⟩ := h.2.2 hn
    refine ⟨ad, e, fun j p hj => ?_⟩
    obtain ⟨c, hs, hr, hcell⟩ := hc j p hj
    refine ⟨c, hs, hR _ _ hr, fun i u hu => ?_⟩
    have h1 := hcell i u hu
    have h2 : (ad.add (j * size + i)).block = ad.block := add_block _ _
    rw [← h1]
    simp only [World.cell?, h2, hb ad e hn]⟩
theorem clos_two {base ga gv : Nat} {AA A3 AV : Option Addr} {ca c3 cv n m : Nat} {xs : List Int} {x : Int} {vals : List S29} {w w3 : World} (hx : xs.length = n)
    (hA : Asked w base ga (.slice AA n ca) xs) (hV : w.heap[gv]? = some (.cells #[.slice AV m cv] 23 (0, 0))) (hr : Kd.C k29 w AV m vals) (hne : ga ≠ gv)
    (hap : ∀ ad, AV = some ad → 0 < m → ad.block ≠ ga ∧ some ad.block ≠ (Value.slice AA n ca).ownBlock ∧ ad.block < w.heap.size) (hbase : base ≤ w.heap.size)
    (ho : w3.ownsRow base 2 1 (.slice A3 (n + 1) c3) (n + 1) (nums .i64 xs ++ [.int .i64 x]))
    (hg : ((w.alloc (.cells #[.int .i64 0, .int .i64 0] 29)).alloc (.cells #[.int .i64 x] 2)).grownBy w3 (Value.slice AA n ca).ownBlock)
    (hro : (Value.slice A3 (n + 1) c3).ownBlock = (Value.slice AA n ca).ownBlock ∨ (Value.slice A3 (n + 1) c3).ownBlock = some (w.heap.size + 1 + 1)) :
    ClosTwo base ga gv AA A3 AV ca c3 cv n m xs x vals w w3 (w3.setCell ⟨ga, 0, none⟩ (.slice A3 (n + 1) c3)) := by
  subst hx
  have o1 : some ga ≠ (Value.slice AA xs.length ca).ownBlock := own_ne hA.own hA.blk (by decide)
  have o2 : some gv ≠ (Value.slice AA xs.length ca).ownBlock := own_ne hA.own hV (by decide)
  have l1 := blk_lt hA.blk
  have l2 := blk_lt hV
  have o3 : some w.heap.size ≠ (Value.slice AA xs.length ca).ownBlock := by
    intro e
    have := own_lt hA.own _ e.symm
    omega
  have hk : ∀ k, k < w.heap.size → some k ≠ (Value.slice AA xs.length ca).ownBlock → w3.heap[k]? = w.heap[k]? := by
    intro k hk1 hk2
    rw [hg.block k (by simp; omega) hk2, Below.heap_alloc _ _ _ (by simp; omega), Below.heap_alloc _ _ _ hk1]
  have b1 : w3.heap[ga]? = some (.cells #[.slice AA xs.length ca] 24 (0, 0)) := (hk ga l1 o1).trans hA.blk
  have b2 : w3.heap[gv]? = some (.cells #[.slice AV m cv] 23 (0, 0)) := (hk gv l2 o2).trans hV
  have b3 : w3.heap[w.heap.size]? = some (.cells #[.int .i64 0, .int .i64 0] 29 (0, 0)) := by
    rw [hg.block _ (by simp; omega) o3, Below.heap_alloc _ _ _ (by simp)]
    exact heap_alloc_new w _
  have p1 : some ga ≠ (Value.slice A3 (xs.length + 1) c3).ownBlock := own_ne ho b1 (by decide)
  refine ⟨(blk_cell b1 0).trans rfl, blk_frozen b1 0, (blk_cell b3 0).trans rfl, (blk_cell b3 1).trans rfl, blk_frozen b3 0, blk_frozen b3 1, ?_, ⟨?_, ?_⟩, ?_, ?_, ?_, ?_⟩
  · exact (blk_cell (blk_far b2 (fun e => hne e.symm) _) 0).trans rfl
  · exact (blk_set b1 0 _).trans rfl
  · have := own_setCell ho (p := ⟨ga, 0, none⟩) p1 (.slice A3 (xs.length + 1) c3)
    simpa [nums] using this
  · exact blk_far b3 (by simp only []; omega) _
  · exact reads_move hr (fun ad e h0 => by
      obtain ⟨q1, q2, q3⟩ := hap ad e h0
      exact (Below.heap_setCell w3 ⟨ga, 0, none⟩ _ _ q1).trans (hk _ q3 q2)) (fun p c hp => by
      obtain ⟨_, _, rfl, rfl, rfl⟩ := hp
      exact ⟨_, _, rfl, rfl, rfl⟩)
  · exact Kp.set (((Kp.refl ga _ w).alloc _ |>.alloc _).grown hg (.inl rfl)) 0 _
  · rcases hro with e | e
    · exact .inl e
    · exact .inr ⟨_, e, by omega⟩
theorem event_skip {P : Program} {ops : Array Oper} {rest : List Oper} {o : Oper} {a : Act} {Q : Exit → Act → World → Prop} {W w1 : World} (hgd : o.guard = none) (hrun : (execOp a.eval o).run P W = .ok .skip w1) (h : wpList P ops Q rest (a.put o.dst undef) w1) : wpList P ops Q (o :: rest) a W := by
  refine wpList_plain hgd fun K hK => ?_
  unfold Oper.wp
  rw [hrun]
  exact hK _ _ h
theorem clos_ret {g : Nat} {u v : Value} {wf : World} (hb : wf.heap[g]? = some (.cells #[u, v] 29 (0, 0))) (t0 t1 t2 t3 t5 t6 t7 t8 t9 t10 t11 t12 t13 t14 t15 t16 t17 t18 t19 t20 t21 t22 t23 t24 : Value) :
    (results Try.f12 #[t0, t1, t2, t3, .pointer (some ⟨g, 0, none⟩), t5, t6, t7, t8, t9, t10, t11, t12, t13, t14, t15, t16, t17, t18, t19, t20, t21, t22, t23, t24]).run Try.prog wf = .ok (.agg #[u, v]) wf := by
  have h0 : wf.cell? ⟨g, 0, none⟩ = some u := (blk_cell hb 0).trans rfl
  have h1 : wf.cell? ⟨g, 1, none⟩ = some v := (blk_cell hb 1).trans rfl
  simp [results, Try.results12, go_sem, h0, h1]
theorem clos_end {base ga gv : Nat} {AA A3 AV : Option Addr} {ca c3 cv n m : Nat} {xs : List Int} {x : Int} {vals : List S29} {w w3 w4 : World} (r : S29)
    (h : ClosTwo base ga gv AA A3 AV ca c3 cv n m xs x vals w w3 w4) (hlt : ga < w.heap.size) (w5 : World) (h5 : ∃ j, w5 = w4.drewN j) :
    ((w5.setCell ⟨w.heap.size, 0, none⟩ (.int .i64 r.f0)).setCell ⟨w.heap.size, 1, none⟩ (.int .i64 r.f1)).heap[w.heap.size]? = some (.cells #[.int .i64 r.f0, .int .i64 r.f1] 29 (0, 0)) ∧
    ClosPost base ga (.slice AA n ca) xs x r w (.returned (.agg #[.int .i64 r.f0, .int .i64 r.f1])) ((w5.setCell ⟨w.heap.size, 0, none⟩ (.int .i64 r.f0)).setCell ⟨w.heap.size, 1, none⟩ (.int .i64 r.f1)) := by
  obtain ⟨j, rfl⟩ := h5
  have hb : (w4.drewN j).heap[w.heap.size]? = some (.cells #[.int .i64 0, .int .i64 0] 29 (0, 0)) := h.b4
  refine ⟨(blk_set (blk_set hb 0 _) 1 _).trans rfl, rfl, .slice A3 (n + 1) c3, ?_, ?_, h.ro⟩
  · have hne : some w.heap.size ≠ (Value.slice A3 (n + 1) c3).ownBlock := by
      have := own_ne h.as4.own (g := w.heap.size) (t := 29) (cs := _) h.b4 (by decide)
      exact this
    refine h.as4.keep ?_ ?_
    · rw [Below.heap_setCell _ _ _ _ (by simp only []; omega), Below.heap_setCell _ _ _ _ (by simp only []; omega)]
      rfl
    · intro k hk
      have : k ≠ w.heap.size := fun e => hne (by rw [hk, e])
      rw [Below.heap_setCell _ _ _ _ (by simpa using this), Below.heap_setCell _ _ _ _ (by simpa using this)]
      rfl
  · exact ((h.kp.drewN j).setNew ⟨w.heap.size, 0, none⟩ (Nat.le_refl _) _).setNew ⟨w.heap.size, 1, none⟩ (Nat.le_refl _) _
set_option maxHeartbeats 4000000 in
theorem clos_calls (base ga gv : Nat) (v : Value) (xs : List Int) (x : Int) (AV : Option Addr) (cv n m : Nat) (vals : List S29) (w : World) (hx : xs.length = n) (hm : vals.length = m) (hA : Asked w base ga v xs) (hbase : base ≤ w.heap.size) (hV : w.heap[gv]? = some (.cells #[.slice AV m cv] 23 (0, 0))) (hr : Kd.C k29 w AV m vals) (hapart : ∀ ad, AV = some ad → 0 < m → ad.block ≠ ga ∧ some ad.block ≠ v.ownBlock ∧ ad.block < w.heap.size) (hn : n < 200) (hmax : m ≤ 8796093022208) :
    Calls Try.prog 12 #[.int .i64 x, .pointer (some ⟨ga, 0, none⟩), .pointer (some ⟨gv, 0, none⟩)] w (ClosPost base ga v xs x (valAt vals n) w) := by
  have hne : ga ≠ gv := blk_ne hA.blk hV (by decide)
  have HNE := Aside0.mk hne
  have HV := Aside0.mk hV
  have HR := Aside0.mk hr
  have HBASE := Aside0.mk hbase
  have HMAX := Aside0.mk hmax
  have HX := Aside0.mk hx
  have HM := Aside0.mk hm
  obtain ⟨i0, hi0, hz0, hz1, hz2⟩ := info_parts info2'
  have HI0 := Aside0.mk hi0
  have HZ0 := Aside0.mk hz0
  have HZ1 := Aside0.mk hz1
  have HZ2 := Aside0.mk hz2
  obtain ⟨AA, ca, hva⟩ := own_slice hA.own
  rw [hx] at hva
  subst hva
  have HAP := Aside0.mk hapart
  have HA := Aside0.mk hA
  have ha0 : w.cell? ⟨ga, 0, none⟩ = some (.slice AA n ca) := (blk_cell hA.blk 0).trans rfl
  have hf0 : w.frozen? ⟨ga, 0, none⟩ = false := blk_frozen hA.blk 0
  have hlt0 : ga < w.heap.size := blk_lt hA.blk
  have hv0 : w.cell? ⟨gv, 0, none⟩ = some (.slice AV m cv) := (blk_cell hV 0).trans rfl
  have b200 : decide ((n : Int) < 200) = true := decide_eq_true (by omega)
  clear hA hV hr hapart hbase hne hi0 hz0 hz1 hz2 hmax hx hm
  go_enter Try.func12, Try.ntmps12
  have hbs : (w.alloc (.cells #[.int .i64 0, .int .i64 0] 29)).heap.size = w.heap.size + 1 := by simp
  by_cases hm0 : m = 0
  · have bz : ((m : Int) == 0) = true := by simp; omega
    have HM0 := Aside0.mk hm0
    clear hm0
    go_wp2_with (first | (at_builtin; refine wpList_append_own_at _ rfl _ _ 24 rfl base 2 i0 (.int .i64 0) 1 8 Try.underlying24 HI0.out HZ0.out HZ1.out HZ2.out rfl (by decide) (.slice AA n ca) n (nums .i64 xs) rfl (((HX.out ▸ HA.out.own : w.ownsRow base 2 1 (.slice AA n ca) n (nums .i64 xs)).alloc _).alloc _) ⟨w.heap.size + 1, 0, none⟩ 1 1 [.int .i64 x] (by first | rfl | simp) rfl (by simpa using World.news_of_block (cs := #[Value.int .i64 x]) (t := 2) (fr := (0, 0)) (by rw [← hbs]; exact heap_alloc_new _ _)) (by simp [Value.oneCell']) (by unfold maxLen; omega) (by omega) (by simp; have := HBASE.out; omega) ?_; intro v1 w3 hown3 hgrow3 _ hat3; obtain ⟨A3, c3, rfl⟩ := own_slice hown3; have HT := Aside0.mk (clos_two HX.out HA.out HV.out HR.out HNE.out HAP.out HBASE.out hown3 hgrow3 (by simpa using hat3)); clear hown3 hgrow3 hat3; have ha3 := HT.out.a3; have hf3 := HT.out.f3; have hv4 := HT.out.v4; have hn0 := HT.out.n0; have hn1 := HT.out.n1; have hm0 := HT.out.m0; have hm1 := HT.out.m1))
    have hv : valAt vals n = z29 := by unfold valAt; rw [if_pos (by rw [HM.out, HM0.out])]
    rw [hv]
    obtain ⟨e1, e2⟩ := clos_end z29 HT.out hlt0 _ ⟨0, rfl⟩
    exact bodyPost_ret (clos_ret e1 _ _ _ _ _ _ _ _ _ _ _ _ _ _ _ _ _ _ _ _ _ _ _ _) rfl e2
  · have bz : ((m : Int) == 0) = false := by simp; omega
    have HM0 := Aside0.mk hm0
    clear hm0
    go_wp2_with (first | (at_builtin; refine wpList_append_own_at _ rfl _ _ 24 rfl base 2 i0 (.int .i64 0) 1 8 Try.underlying24 HI0.out HZ0.out HZ1.out HZ2.out rfl (by decide) (.slice AA n ca) n (nums .i64 xs) rfl (((HX.out ▸ HA.out.own : w.ownsRow base 2 1 (.slice AA n ca) n (nums .i64 xs)).alloc _).alloc _) ⟨w.heap.size + 1, 0, none⟩ 1 1 [.int .i64 x] (by first | rfl | simp) rfl (by simpa using World.news_of_block (cs := #[Value.int .i64 x]) (t := 2) (fr := (0, 0)) (by rw [← hbs]; exact heap_alloc_new _ _)) (by simp [Value.oneCell']) (by unfold maxLen; omega) (by omega) (by simp; have := HBASE.out; omega) ?_; intro v1 w3 hown3 hgrow3 _ hat3; obtain ⟨A3, c3, rfl⟩ := own_slice hown3; have HT := Aside0.mk (clos_two HX.out HA.out HV.out HR.out HNE.out HAP.out HBASE.out hown3 hgrow3 (by simpa using hat3)); clear hown3 hgrow3 hat3; have ha3 := HT.out.a3; have hf3 := HT.out.f3; have hv4 := HT.out.v4; have hn0 := HT.out.n0; have hn1 := HT.out.n1; have hm0 := HT.out.m0; have hm1 := HT.out.m1))
    have hnm : n % m < m := Nat.mod_lt _ (Nat.pos_of_ne_zero HM0.out)
    obtain ⟨ad, had, hc0, hc1⟩ := at_T29 HT.out.r4 (n % m) hnm
    subst had
    have ha4 : (w3.setCell ⟨ga, 0, none⟩ (.slice A3 (n + 1) c3)).cell? ⟨ga, 0, none⟩ = some (.slice A3 (n + 1) c3) := (blk_cell HT.out.as4.blk 0).trans rfl
    have hv : valAt vals n = vals.getD (n % m) z29 := by unfold valAt; rw [if_neg (by rw [HM.out]; exact HM0.out), HM.out]
    have HT2 := HT
    have hv5 := hv4
    clear HT hv4
    revert ha4 hv5 hc0 hc1 HT2
    generalize w3.setCell ⟨ga, 0, none⟩ (.slice A3 (n + 1) c3) = w4
    intro hc0 hc1 ha4 HT2 hv5
    generalize vals.getD (n % m) z29 = r at hv hc0 hc1
    have hw : IntKind.i64.wrap (n : Int) = n := by rw [IntKind.wrap_i64]; omega
    have hrem : (n : Int).tmod (m : Int) = ((n % m : Nat) : Int) := rfl
    have hlt2 : ((n % m : Nat) : Int) < m := by omega
    have hnz : ¬ (m = 0) := HM0.out
    have hge2 : ¬ (((n % m : Nat) : Int) < 0) := by omega
    generalize hq : n % m = q at hrem hlt2 hc0 hc1 hge2
    go_still_tail 9, (by kernel_rfl)
    have hw5 : ({ w4 with drawn := w4.drawn + 1 } : World) = w4.drew := rfl
    rw [hw5]
    rw [hv]
    obtain ⟨k0, k1, k2, k3⟩ := c2_ ⟨HT2.out.b4⟩
    obtain ⟨e1, e2⟩ := clos_end r HT2.out hlt0 w4.drew ⟨1, rfl⟩
    refine event_skip (w1 := (w4.drew.setCell ⟨w.heap.size, 0, none⟩ (.int .i64 r.f0)).setCell ⟨w.heap.size, 1, none⟩ (.int .i64 r.f1)) rfl (by clear e1 e2; go_simp) ?_
    apply wpList_nil
    go_simp
    rename_i hK
    refine hK _ _ ?_
    clear hK
    go_wp2_with fail
    exact bodyPost_ret (clos_ret e1 _ _ _ _ _ _ _ _ _ _ _ _ _ _ _ _ _ _ _ _ _ _ _ _) rfl e2
end Go.Proofs.Ytfhgomcfpmbhnaa.Y
end

section
namespace Go.Proofs.Ytfhgomcfpmbhnaa.Y
open Go Go.RowKit Go.Proofs.Ytfhgomcfpmbhnaa.PS Go.Proofs.Ytfhgomcfpmbhnaa.F Go.Proofs.YtfhgomcfpmbhnaaW.PrintWords Go.Proofs.YtfhgomcfpmbhnaaW.PrintMore Go.Proofs.YtfhgomcfpmbhnaaW.Fits
attribute [local go_sem] frun_add frun_sub frun_mul frun_quo frun_neg frun_of frun_same frun_store frun_bits frun_from
set_option linter.unusedVariables false
set_option maxRecDepth 100000
def placeAt (fr st : Int) (i : Nat) : Int := wrap64 (fr + wrap64 ((i : Int) * st))
def placesL (fr st : Int) (k : Nat) : List Int := (List.range k).map (placeAt fr st)
theorem placesL_succ (fr st : Int) (k : Nat) : placesL fr st (k + 1) = placesL fr st k ++ [placeAt fr st k] := by
  unfold placesL
  rw [List.range_succ, List.map_append]
  rfl
theorem placesL_len (fr st : Int) (k : Nat) : (placesL fr st k).length = k := by simp [placesL]
def keeps (v : S29) : Bool := v.f0 == 1 || v.f0 == 2
def sampleL (fr st : Int) (vals : List S29) : Nat → List S58
  | 0 => []
  | k + 1 => sampleL fr st vals k ++ (if keeps (valAt vals k) then [⟨placeAt fr st k, fl_of (valAt vals k).f1⟩] else [])
theorem sampleL_len (fr st : Int) (vals : List S29) (k : Nat) : (sampleL fr st vals k).length ≤ k := by
  induction k with
  | zero => exact Nat.le_refl _
  | succ k ih =>
    rw [sampleL, List.length_append]
    split <;> simp <;> omega
theorem Asked.drewN {w : World} {base g : Nat} {v : Value} {xs : List Int} (h : Asked w base g v xs) (k : Nat) : Asked (w.drewN k) base g v xs := ⟨h.blk, h.own⟩
structure Samp (fr st : Int) (vals : List S29) (w : World) (ga gv m cv : Nat) (AV : Option Addr) (i : Nat) (v10 va : Value) (w' : World) : Prop where
  out : w'.ownsRow w.heap.size 58 2 v10 (sampleL fr st vals i).length (pntv (sampleL fr st vals i))
  asked : Asked w' w.heap.size ga va (placesL fr st i)
  kp : Kp ga none w w'
theorem Samp.apart {fr st : Int} {vals : List S29} {w w' : World} {ga gv m cv i : Nat} {AV : Option Addr} {v10 va : Value} (h : Samp fr st vals w ga gv m cv AV i v10 va w')
    (hV : w.heap[gv]? = some (.cells #[.slice AV m cv] 23 (0, 0))) (hr : Kd.C k29 w AV m vals) (hne : ga ≠ gv) (hap : ∀ ad, AV = some ad → 0 < m → ad.block ≠ ga ∧ ad.block < w.heap.size) :
    w'.heap[gv]? = some (.cells #[.slice AV m cv] 23 (0, 0)) ∧ Kd.C k29 w' AV m vals ∧ (∀ ad, AV = some ad → 0 < m → ad.block ≠ ga ∧ some ad.block ≠ va.ownBlock ∧ ad.block < w'.heap.size) := by
  have hk : ∀ k, k < w.heap.size → k ≠ ga → w'.heap[k]? = w.heap[k]? := fun k h1 h2 => h.kp.block k h1 h2 (by simp)
  refine ⟨(hk gv (blk_lt hV) (Ne.symm hne)).trans hV, reads_move hr (fun ad e h0 => hk _ (hap ad e h0).2 (hap ad e h0).1) (fun p c hp => by
      obtain ⟨_, _, rfl, rfl, rfl⟩ := hp
      exact ⟨_, _, rfl, rfl, rfl⟩), fun ad e h0 => ⟨(hap ad e h0).1, fun hb => ?_, Nat.lt_of_lt_of_le (hap ad e h0).2 h.kp.size⟩⟩
  have := own_base h.asked.own _ hb.symm
  have := (hap ad e h0).2
  omega
theorem Samp.call {fr st : Int} {vals : List S29} {w w' w1 : World} {ga gv m cv i : Nat} {AV : Option Addr} {v10 va va' : Value} (h : Samp fr st vals w ga gv m cv AV i v10 va w')
    (hA : Asked w1 w.heap.size ga va' (placesL fr st i ++ [placeAt fr st i])) (hk : Kp ga va.ownBlock w' w1) (hb : va'.ownBlock = va.ownBlock ∨ ∃ b, va'.ownBlock = some b ∧ w'.heap.size ≤ b) :
    w1.ownsRow w.heap.size 58 2 v10 (sampleL fr st vals i).length (pntv (sampleL fr st vals i)) ∧ Asked w1 w.heap.size ga va' (placesL fr st (i + 1)) ∧ Kp ga none w w1 := by
  refine ⟨own_move h.out (fun k hk1 => hk.block k (own_lt h.out k hk1) ?_ ?_), by rw [placesL_succ]; exact hA, ?_⟩
  · rintro rfl
    exact own_ne h.out h.asked.blk (by decide) hk1.symm
  · intro e
    obtain ⟨c1, e1⟩ := own_typed h.out k hk1
    obtain ⟨c2, e2⟩ := own_typed h.asked.own k e.symm
    rw [e1] at e2
    injection e2 with e2
    injection e2 with _ e3
    exact absurd e3 (by decide)
  · rcases hvb : va.ownBlock with _ | b
    · exact h.kp.trans (hvb ▸ hk) (.inl rfl)
    · exact h.kp.trans hk (.inr ⟨b, hvb, own_base h.asked.own b hvb⟩)
theorem boxed {w w1 : World} {base ga : Nat} {v10 va : Value} {ps : List S58} {xs : List Int} (h : w1.ownsRow base 58 2 v10 ps.length (pntv ps) ∧ Asked w1 base ga va xs ∧ Kp ga none w w1) (o : Obj) (k : Nat) :
    ((w1.alloc o).drewN k).ownsRow base 58 2 v10 ps.length (pntv ps) ∧ Asked ((w1.alloc o).drewN k) base ga va xs ∧ Kp ga none w ((w1.alloc o).drewN k) :=
  ⟨own_drewN (h.1.alloc o) k, ⟨blk_alloc h.2.1.blk o, (h.2.1.own.alloc o)⟩, (h.2.2.alloc o).drewN k⟩
theorem appended {w w2 w3 : World} {base ga : Nat} {v10 va : Value} {ps : List S58} {xs : List Int} {o : Obj} (h : w2.ownsRow base 58 2 v10 ps.length (pntv ps) ∧ Asked w2 base ga va xs ∧ Kp ga none w w2) (hb : w.heap.size ≤ base)
    (hg : (w2.alloc o).grownBy w3 v10.ownBlock) : Asked w3 base ga va xs ∧ Kp ga none w w3 := by
  obtain ⟨h1, h2, h3⟩ := h
  have l1 := blk_lt h2.blk
  refine ⟨h2.keep ?_ (fun k hk => ?_), (h3.alloc o).grown hg ?_⟩
  · rw [hg.block ga (by simp; omega) (own_ne h1 h2.blk (by decide)), Below.heap_alloc _ _ _ l1]
  · have l2 := own_lt h2.own k hk
    rw [hg.block k (by simp; omega) ?_, Below.heap_alloc _ _ _ l2]
    intro e
    obtain ⟨c1, e1⟩ := own_typed h1 k e.symm
    obtain ⟨c2, e2⟩ := own_typed h2.own k hk
    rw [e1] at e2
    injection e2 with e2
    injection e2 with _ e3
    exact absurd e3 (by decide)
  · rcases hv : v10.ownBlock with _ | b
    · exact .inl rfl
    · exact .inr ⟨b, rfl, Nat.le_trans hb (own_base h1 b hv)⟩
set_option maxHeartbeats 4000000 in
theorem sample_good (ga gv m cv n : Nat) (AV : Option Addr) (vals : List S29) (fr st : Int) (w : World) (hA : Asked w w.heap.size ga (.slice none 0 0) []) (hV : w.heap[gv]? = some (.cells #[.slice AV m cv] 23 (0, 0))) (hr : Kd.C k29 w AV m vals) (hm : vals.length = m)
    (hap : ∀ ad, AV = some ad → 0 < m → ad.block ≠ ga ∧ ad.block < w.heap.size) (hmax : m ≤ 8796093022208) (h1 : 1 ≤ n) (h64 : n ≤ 64) (hst : 1 ≤ st) (hst2 : st ≤ 9223372036854775807) (hf0 : -9999999999999 ≤ fr) (hf1 : fr ≤ 9999999999999) (hq : 1 < n → st ≤ (9999999999999 - fr) / ((n : Int) - 1)) :
    Calls Try.prog 13 #[.func (.func 12) #[] #[.pointer (some ⟨ga, 0, none⟩), .pointer (some ⟨gv, 0, none⟩)], .int .i64 fr, .int .i64 st, .int .i64 n] w
      (fun e w' => ∃ v10 va, e = .returned (.tuple #[v10, .int .i64 0]) ∧ Samp fr st vals w ga gv m cv AV n v10 va w') := by
  have hne : ga ≠ gv := blk_ne hA.blk hV (by decide)
  have HNE := Aside0.mk hne
  have HA := Aside0.mk hA
  have HV := Aside0.mk hV
  have HR := Aside0.mk hr
  have HM := Aside0.mk hm
  have HAP := Aside0.mk hap
  have HMAX := Aside0.mk hmax
  have HQ := Aside0.mk hq
  clear hA hV hr hm hap hmax hne hq
  have b1 : decide ((n : Int) < 1) = false := decide_eq_false (by omega)
  have b2 : decide ((64 : Int) < n) = false := decide_eq_false (by omega)
  have b3 : decide (st < 1) = false := decide_eq_false (by omega)
  have b4 : decide (fr < -9999999999999) = false := decide_eq_false (by omega)
  have b5 : decide (9999999999999 < fr) = false := decide_eq_false (by omega)
  have hcase : decide ((1 : Int) < n) = false ∨ (((1 : Int) < n ∧ decide ((1 : Int) < n) = true) ∧ decide ((9999999999999 - fr) / ((n : Int) - 1) < st) = false) := by
    by_cases h : 1 < n
    · exact .inr ⟨⟨by omega, decide_eq_true (by omega)⟩, decide_eq_false (by have := HQ.out h; omega)⟩
    · exact .inl (decide_eq_false (by omega))
  go_enter Try.func13, Try.ntmps13
  rcases hcase with b6 | ⟨⟨b8, b6⟩, b7⟩
  all_goals go_wp2_with fail
  all_goals try (exfalso; omega)
  all_goals try (exfalso; revert b7; simp; omega)
  all_goals (
    go_loopg [10, 44] (n + 1) (fun kq v10 v44 w' => ∃ (i : Nat) (va : Value), v44 = .int .i64 (i : Int) ∧ Aside0 (kq + i = n + 1) ∧ Aside0 (i ≤ n) ∧ Aside0 (Samp fr st vals w ga gv m cv AV i v10 va w'))
    case atStart => exact ⟨0, .slice none 0 0, rfl, ⟨by omega⟩, ⟨by omega⟩, ⟨⟨own_nil _ _ _ _, HA.out, Kp.refl _ _ _⟩⟩⟩
    case round =>
      obtain ⟨i, va, rfl, HK, HI, HS⟩ := hrel
      cases gk with
      | zero => exact absurd HK.out (by have := HI.out; omega)
      | succ k1 =>
        by_cases hlt : i < n
        · have hb0 : decide ((i : Int) < (n : Int)) = true := decide_eq_true (by omega)
          have hi64 : (i : Int) < 64 := by omega
          obtain ⟨q1, q2, q3⟩ := HS.out.apart HV.out HR.out HNE.out HAP.out
          have Q1 := Aside0.mk q1
          have Q2 := Aside0.mk q2
          have Q3 := Aside0.mk q3
          clear q1 q2 q3
          go_wp2_with fail
          with_reducible refine (clos_calls w.heap.size ga gv va (placesL fr st i) (wrap64 (fr + wrap64 ((i : Int) * st))) AV cv i m vals wr (placesL_len _ _ _) HM.out HS.out.asked HS.out.kp.size Q1.out Q2.out Q3.out (by omega) HMAX.out).mono ?_
          rintro e w1 ⟨rfl, va', hA', hk', hb'⟩
          have HS1 := Aside0.mk (HS.out.call hA' hk' hb')
          have HSZ := Aside0.mk hk'.size
          clear hA' hk' hb'
          have hpl : placeAt fr st i = wrap64 (fr + wrap64 ((i : Int) * st)) := rfl
          have hsl : sampleL fr st vals (i + 1) = sampleL fr st vals i ++ (if keeps (valAt vals i) then [⟨wrap64 (fr + wrap64 ((i : Int) * st)), fl_of (valAt vals i).f1⟩] else []) := rfl
          have HSL := Aside0.mk hsl
          clear hpl hsl
          generalize valAt vals i = r at HSL ⊢
          generalize wrap64 (fr + wrap64 ((i : Int) * st)) = P at HSL ⊢
          obtain ⟨i0, hi0, hz0, hz1, hz2⟩ := info_parts PS.info58
          have HI0 := Aside0.mk hi0
          have HZ0 := Aside0.mk hz0
          have HZ1 := Aside0.mk hz1
          have HZ2 := Aside0.mk hz2
          clear hi0 hz0 hz1 hz2
          by_cases hk1 : r.f0 = 1
          · have c1 : (r.f0 == 1) = true := beq_iff_eq.mpr hk1
            have HKP : Aside0 (keeps r = true) := ⟨by unfold keeps; rw [c1]; rfl⟩
            clear hk1
            go_wp2_with fail
            with_reducible refine (curve_whole.calls r.f1 (fl_of r.f1) _ rfl).mono ?_
            rintro e w2 ⟨rfl, ⟨⟨nd, rfl⟩⟩⟩
            have HS2 := Aside0.mk (boxed HS1.out (.cells #[.int .i64 r.f0, .int .i64 r.f1] 29) nd)
            clear HS1 HSZ
            generalize (w1.alloc (.cells #[.int .i64 r.f0, .int .i64 r.f1] 29)).drewN nd = w2 at HS2 ⊢
            go_wp2_with (first | (at_builtin; refine wpList_append_own_at _ rfl _ _ 31 rfl w.heap.size 58 i0 (.agg #[.int .i64 0, .float .f32 0]) 2 16 Try.underlying31 HI0.out HZ0.out HZ1.out HZ2.out rfl (by decide) u10 (sampleL fr st vals i).length (pntv (sampleL fr st vals i)) rfl (HS2.out.1.alloc _) ⟨w2.heap.size, 0, none⟩ 1 1 [.int .i64 P, .float .f32 (fl_of r.f1)] (by first | rfl | simp) rfl (World.news_of_block (cs := #[.int .i64 P, .float .f32 (fl_of r.f1)]) (t := 58) (fr := (0, 0)) (heap_alloc_new w2 _)) (by simp [Value.oneCell']) (by have := sampleL_len fr st vals i; unfold maxLen; omega) (by have := sampleL_len fr st vals i; omega) (by simp; have := HS2.out.2.2.size; omega) ?_; intro v1 w3 hown3 hgrow3 _ hat3))
            go_roundg k1
            case measure => omega
            case rel =>
              have hA3 := appended HS2.out (Nat.le_refl _) hgrow3
              refine ⟨i + 1, va', by simp, ⟨by have := HK.out; omega⟩, ⟨by omega⟩, ⟨⟨?_, hA3.1, hA3.2⟩⟩⟩
              rw [HSL.out, if_pos HKP.out, List.length_append, pntv_snoc]
              exact hown3
          · have c1 : (r.f0 == 1) = false := by simpa using hk1
            clear hk1
            by_cases hk2 : r.f0 = 2
            · have c2 : (r.f0 == 2) = true := beq_iff_eq.mpr hk2
              have HKP : Aside0 (keeps r = true) := ⟨by unfold keeps; rw [c1, c2]; rfl⟩
              clear hk2
              go_wp2_with fail
              with_reducible refine (curve_whole.calls r.f1 (fl_of r.f1) _ rfl).mono ?_
              rintro e w2 ⟨rfl, ⟨⟨nd, rfl⟩⟩⟩
              have HS2 := Aside0.mk (boxed HS1.out (.cells #[.int .i64 r.f0, .int .i64 r.f1] 29) nd)
              clear HS1 HSZ
              generalize (w1.alloc (.cells #[.int .i64 r.f0, .int .i64 r.f1] 29)).drewN nd = w2 at HS2 ⊢
              go_wp2_with (first | (at_builtin; refine wpList_append_own_at _ rfl _ _ 31 rfl w.heap.size 58 i0 (.agg #[.int .i64 0, .float .f32 0]) 2 16 Try.underlying31 HI0.out HZ0.out HZ1.out HZ2.out rfl (by decide) u10 (sampleL fr st vals i).length (pntv (sampleL fr st vals i)) rfl (HS2.out.1.alloc _) ⟨w2.heap.size, 0, none⟩ 1 1 [.int .i64 P, .float .f32 (fl_of r.f1)] (by first | rfl | simp) rfl (World.news_of_block (cs := #[.int .i64 P, .float .f32 (fl_of r.f1)]) (t := 58) (fr := (0, 0)) (heap_alloc_new w2 _)) (by simp [Value.oneCell']) (by have := sampleL_len fr st vals i; unfold maxLen; omega) (by have := sampleL_len fr st vals i; omega) (by simp; have := HS2.out.2.2.size; omega) ?_; intro v1 w3 hown3 hgrow3 _ hat3))
              go_roundg k1
              case measure => omega
              case rel =>
                have hA3 := appended HS2.out (Nat.le_refl _) hgrow3
                refine ⟨i + 1, va', by simp, ⟨by have := HK.out; omega⟩, ⟨by omega⟩, ⟨⟨?_, hA3.1, hA3.2⟩⟩⟩
                rw [HSL.out, if_pos HKP.out, List.length_append, pntv_snoc]
                exact hown3
            · have c2 : (r.f0 == 2) = false := by simpa using hk2
              have HKP : Aside0 (keeps r = false) := ⟨by unfold keeps; rw [c1, c2]; rfl⟩
              clear hk2
              go_wp2_with fail
              go_roundg k1
              case measure => omega
              case rel =>
                have hA3 := boxed HS1.out (.cells #[.int .i64 r.f0, .int .i64 r.f1] 29) 0
                refine ⟨i + 1, va', by simp, ⟨by have := HK.out; omega⟩, ⟨by omega⟩, ⟨⟨?_, hA3.2.1, hA3.2.2⟩⟩⟩
                rw [HSL.out, if_neg (by rw [HKP.out]; decide), List.append_nil]
                exact hA3.1
        · obtain rfl : i = n := by have := HI.out; omega
          have hb0 : decide ((i : Int) < (i : Int)) = false := decide_eq_false (by omega)
          go_wp2
          go_ret2
          exact ⟨_, va, rfl, HS.out⟩)
end Go.Proofs.Ytfhgomcfpmbhnaa.Y
end

section
namespace Go.Proofs.Ytfhgomcfpmbhnaa.Y
open Go Go.RowKit Go.Proofs.Ytfhgomcfpmbhnaa.PS Go.Proofs.Ytfhgomcfpmbhnaa.F Go.Proofs.YtfhgomcfpmbhnaaW.PrintWords Go.Proofs.YtfhgomcfpmbhnaaW.PrintMore Go.Proofs.YtfhgomcfpmbhnaaW.Fits
set_option linter.unusedVariables false
set_option maxRecDepth 100000
def BadStep (fr st n : Int) : Prop := st < 1 ∨ fr < -9999999999999 ∨ 9999999999999 < fr ∨ (1 < n ∧ (9999999999999 - fr) / (n - 1) < st)
instance (fr st n : Int) : Decidable (BadStep fr st n) := inferInstanceAs (Decidable (_ ∨ _))
set_option maxHeartbeats 4000000 in
theorem sample_bad1 (f : Value) (fr st n : Int) (w : World) (h : n < 1 ∨ 64 < n) :
    Calls Try.prog 13 #[f, .int .i64 fr, .int .i64 st, .int .i64 n] w (fun e w' => e = .returned (.tuple #[.slice none 0 0, .int .i64 170]) ∧ w' = w) := by
  by_cases h1 : n < 1
  · have b1 : decide (n < 1) = true := decide_eq_true h1
    clear h
    go_enter Try.func13, Try.ntmps13
    go_wp2
    go_ret2
    exact ⟨rfl, rfl⟩
  · have b1 : decide (n < 1) = false := decide_eq_false h1
    have b2 : decide (64 < n) = true := decide_eq_true (by omega)
    clear h
    go_enter Try.func13, Try.ntmps13
    go_wp2
    go_ret2
    exact ⟨rfl, rfl⟩
set_option maxHeartbeats 4000000 in
theorem sample_bad2 (f : Value) (fr st n : Int) (w : World) (h1 : 1 ≤ n) (h64 : n ≤ 64) (h : BadStep fr st n) (hst : -9223372036854775808 ≤ st) (hst2 : st ≤ 9223372036854775807) :
    Calls Try.prog 13 #[f, .int .i64 fr, .int .i64 st, .int .i64 n] w (fun e w' => e = .returned (.tuple #[.slice none 0 0, .int .i64 171]) ∧ w' = w) := by
  have b1 : decide (n < 1) = false := decide_eq_false (by omega)
  have b2 : decide (64 < n) = false := decide_eq_false (by omega)
  by_cases h3 : st < 1
  · have b3 : decide (st < 1) = true := decide_eq_true h3
    clear h
    go_enter Try.func13, Try.ntmps13
    go_wp2
    go_ret2
    exact ⟨rfl, rfl⟩
  · have b3 : decide (st < 1) = false := decide_eq_false h3
    by_cases h4 : fr < -9999999999999
    · have b4 : decide (fr < -9999999999999) = true := decide_eq_true h4
      clear h
      go_enter Try.func13, Try.ntmps13
      go_wp2
      go_ret2
      exact ⟨rfl, rfl⟩
    · have b4 : decide (fr < -9999999999999) = false := decide_eq_false h4
      by_cases h5 : 9999999999999 < fr
      · have b5 : decide (9999999999999 < fr) = true := decide_eq_true h5
        clear h
        go_enter Try.func13, Try.ntmps13
        go_wp2
        go_ret2
        exact ⟨rfl, rfl⟩
      · have b5 : decide (9999999999999 < fr) = false := decide_eq_false h5
        have h6 : 1 < n ∧ (9999999999999 - fr) / (n - 1) < st := by
          rcases h with h | h | h | h
          · exact absurd h h3
          · exact absurd h h4
          · exact absurd h h5
          · exact h
        have b6 : decide (1 < n) = true := decide_eq_true h6.1
        have b7 : decide ((9999999999999 - fr) / (n - 1) < st) = true := decide_eq_true h6.2
        have h7 := h6.1
        have HS := Aside0.mk h6
        clear h h6
        go_enter Try.func13, Try.ntmps13
        go_wp2_with fail
        all_goals try (exfalso; have := HS.out.2; omega)
        go_ret2
        exact ⟨rfl, rfl⟩
theorem xs_bad1 (fr st n : Int) (h : n < 1 ∨ 64 < n) : levyref17_Xs.f 1 fr st n = some ([], 170) := by
  unfold levyref17_Xs.f
  by_cases h1 : n < 1
  · rw [if_pos h1]
    rfl
  · rw [if_neg h1, show decide (n > 64) = true from decide_eq_true (by omega)]
    rfl
theorem xs_l0 (fr st : Int) (N : Nat) (h64 : N ≤ 64) : ∀ (j i : Nat), i + j = N → levyref17_Xs.l0 (j + 1) fr st N (placesL fr st i) i = some (placesL fr st N, 0) := by
  intro j
  induction j with
  | zero =>
    intro i hi
    obtain rfl : i = N := by omega
    unfold levyref17_Xs.l0
    rw [if_neg (by omega)]
  | succ j ih =>
    intro i hi
    unfold levyref17_Xs.l0
    rw [if_pos (by omega), if_pos (by rw [placesL_len]; omega), show wrap64 ((i : Int) + 1) = ((i + 1 : Nat) : Int) by rw [wrap_id _ (by omega) (by omega)]; omega]
    rw [show placesL fr st i ++ [wrap64 (fr + wrap64 ((i : Int) * st))] = placesL fr st (i + 1) from (placesL_succ fr st i).symm]
    exact ih (i + 1) (by omega)
theorem xs_j0 (k : Nat) (fr st n : Int) (h1 : 1 ≤ n) (h64 : n ≤ 64) : levyref17_Xs.f (k + 1) fr st n = if BadStep fr st n then levyref17_Xs.j1 k fr st n true else levyref17_Xs.j1 k fr st n false := by
  unfold levyref17_Xs.f
  rw [if_neg (by omega), show decide (n > 64) = false from decide_eq_false (by omega)]
  rw [levyref17_Xs.j0, if_neg (show ¬ (false = true) by decide)]
  by_cases a1 : st < 1
  · rw [if_pos a1, if_pos (show BadStep fr st n from .inl a1)]
  · rw [if_neg a1]
    by_cases a2 : fr < -9999999999999
    · rw [if_pos a2, if_pos (show BadStep fr st n from .inr (.inl a2))]
    · rw [if_neg a2]
      by_cases a3 : fr > 9999999999999
      · rw [if_pos a3, if_pos (show BadStep fr st n from .inr (.inr (.inl a3)))]
      · rw [if_neg a3]
        by_cases a4 : n > 1
        · have e1 : wrap64 (n - 1) = n - 1 := wrap_id _ (by omega) (by omega)
          have e2 : wrap64 (9999999999999 - fr) = 9999999999999 - fr := wrap_id _ (by omega) (by omega)
          have e3 : (9999999999999 - fr).tdiv (n - 1) = (9999999999999 - fr) / (n - 1) := Int.tdiv_eq_ediv_of_nonneg (by omega)
          have e4 : 0 ≤ (9999999999999 - fr) / (n - 1) := Int.ediv_nonneg (by omega) (by omega)
          have e5 : (9999999999999 - fr) / (n - 1) ≤ 9999999999999 - fr := Int.ediv_le_self _ (by omega)
          rw [if_pos a4, e1, if_neg (by omega), e2, e3, wrap_id _ (by omega) (by omega)]
          by_cases a5 : (9999999999999 - fr) / (n - 1) < st
          · rw [if_pos (show BadStep fr st n from .inr (.inr (.inr ⟨a4, a5⟩))), show decide (st > (9999999999999 - fr) / (n - 1)) = true from decide_eq_true a5]
          · rw [if_neg (show ¬ BadStep fr st n by rintro (h | h | h | ⟨_, h⟩) <;> omega), show decide (st > (9999999999999 - fr) / (n - 1)) = false from decide_eq_false a5]
        · rw [if_neg a4, if_neg (show ¬ BadStep fr st n by rintro (h | h | h | ⟨h, _⟩) <;> omega)]
theorem xs_bad2 (fr st n : Int) (h1 : 1 ≤ n) (h64 : n ≤ 64) (h : BadStep fr st n) : levyref17_Xs.f 2 fr st n = some ([], 171) := by
  rw [xs_j0 1 fr st n h1 h64, if_pos h]
  rfl
theorem xs_good (fr st : Int) (N : Nat) (h1 : 1 ≤ N) (h64 : N ≤ 64) (h : ¬ BadStep fr st N) : levyref17_Xs.f (N + 3) fr st N = some (placesL fr st N, 0) := by
  rw [xs_j0 (N + 2) fr st N (by omega) (by omega), if_neg h]
  rw [levyref17_Xs.j1, if_neg (show ¬ (false = true) by decide)]
  exact xs_l0 fr st N h64 N 0 (by omega)
theorem sample_all (fr st n : Int) (hst : -9223372036854775808 ≤ st) (hst2 : st ≤ 9223372036854775807) : ∃ (N : Nat) (code : Int) (k : Nat), N ≤ 64 ∧ 0 ≤ code ∧ code ≤ 255 ∧ levyref17_Xs.f k fr st n = some (placesL fr st N, code) ∧
    ∀ (ga gv m cv : Nat) (AV : Option Addr) (vals : List S29) (w : World), Asked w w.heap.size ga (.slice none 0 0) [] → w.heap[gv]? = some (.cells #[.slice AV m cv] 23 (0, 0)) → Kd.C k29 w AV m vals → vals.length = m →
      (∀ ad, AV = some ad → 0 < m → ad.block ≠ ga ∧ ad.block < w.heap.size) → m ≤ 8796093022208 →
      Calls Try.prog 13 #[.func (.func 12) #[] #[.pointer (some ⟨ga, 0, none⟩), .pointer (some ⟨gv, 0, none⟩)], .int .i64 fr, .int .i64 st, .int .i64 n] w
        (fun e w' => ∃ v10 va, e = .returned (.tuple #[v10, .int .i64 code]) ∧ Samp fr st vals w ga gv m cv AV N v10 va w') := by
  by_cases hb1 : n < 1 ∨ 64 < n
  · refine ⟨0, 170, 1, by omega, by omega, by omega, xs_bad1 fr st n hb1, fun ga gv m cv AV vals w hA hV hr hm hap hmax => (sample_bad1 _ fr st n w hb1).mono ?_⟩
    rintro e w' ⟨rfl, rfl⟩
    exact ⟨_, _, rfl, ⟨own_nil _ _ _ _, hA, Kp.refl _ _ _⟩⟩
  · by_cases hb2 : BadStep fr st n
    · refine ⟨0, 171, 2, by omega, by omega, by omega, xs_bad2 fr st n (by omega) (by omega) hb2, fun ga gv m cv AV vals w hA hV hr hm hap hmax => (sample_bad2 _ fr st n w (by omega) (by omega) hb2 hst hst2).mono ?_⟩
      rintro e w' ⟨rfl, rfl⟩
      exact ⟨_, _, rfl, ⟨own_nil _ _ _ _, hA, Kp.refl _ _ _⟩⟩
    · obtain ⟨N, rfl⟩ : ∃ N : Nat, n = (N : Int) := ⟨n.toNat, by omega⟩
      have h1 : 1 ≤ N := by omega
      have h64 : N ≤ 64 := by omega
      have a1 : ¬ (st < 1) := fun h => hb2 (.inl h)
      have a2 : ¬ (fr < -9999999999999) := fun h => hb2 (.inr (.inl h))
      have a3 : ¬ (9999999999999 < fr) := fun h => hb2 (.inr (.inr (.inl h)))
      refine ⟨N, 0, N + 3, h64, by omega, by omega, xs_good fr st N h1 h64 hb2, fun ga gv m cv AV vals w hA hV hr hm hap hmax =>
        sample_good ga gv m cv N AV vals fr st w hA hV hr hm hap hmax h1 h64 (by omega) hst2 (by omega) (by omega) (fun h => ?_)⟩
      have a4 : ¬ ((9999999999999 - fr) / ((N : Int) - 1) < st) := fun h' => hb2 (.inr (.inr (.inr ⟨by omega, h'⟩)))
      omega
end Go.Proofs.Ytfhgomcfpmbhnaa.Y
end

section
namespace Go.Proofs.Ytfhgomcfpmbhnaa.Y
open Go Go.RowKit Go.Proofs.Ytfhgomcfpmbhnaa.PS Go.Proofs.Ytfhgomcfpmbhnaa.F Go.Proofs.YtfhgomcfpmbhnaaW.PrintWords Go.Proofs.YtfhgomcfpmbhnaaW.PrintMore Go.Proofs.YtfhgomcfpmbhnaaW.Fits
set_option linter.unusedVariables false
set_option maxRecDepth 100000
theorem reads_lt {α : Type} {d : Kd α} {w : World} {A : Option Addr} {n : Nat} {xs : List α} (h : d.C w A n xs) (hs : 0 < d.sz) : ∀ ad, A = some ad → 0 < n → ad.block < w.heap.size := by
  intro ad e h0
  obtain ⟨ad', e', hc⟩ := h.2.2 h0
  cases e.symm.trans e'
  obtain ⟨p, hp⟩ : ∃ p, xs[0]? = some p := ⟨xs[0]'(by rw [h.1]; exact h0), List.getElem?_eq_getElem _⟩
  obtain ⟨c, hl, _, hcell⟩ := hc 0 p hp
  obtain ⟨u, hu⟩ : ∃ u, c[0]? = some u := ⟨c[0]'(by omega), List.getElem?_eq_getElem _⟩
  have := World.block_lt_of_cell? _ _ (hcell 0 u hu)
  rwa [add_block] at this
def pv38 (l : List S38) : List Value := two (fun d => .int .i64 d.f0) (fun d => .int .u32 d.f1) l
theorem pv38_snoc (l : List S38) (p : S38) : pv38 (l ++ [p]) = pv38 l ++ [.int .i64 p.f0, .int .u32 p.f1] := by
  unfold pv38 two
  rw [List.flatMap_append]
  rfl
theorem C_own38 {w : World} {base n : Nat} {v : Value} {xs : List S38} (hn : xs.length = n) (h : w.ownsRow base 38 2 v n (pv38 xs)) : ∃ A c, v = .slice A n c ∧ n ≤ c ∧ Kd.C k38 w A n xs := by
  rcases h.2 with ⟨rfl, rfl⟩ | ⟨g, cap, cur, rfl, _, _, h1, h2, _⟩
  · obtain rfl : xs = [] := List.eq_nil_of_length_eq_zero hn
    exact ⟨none, 0, rfl, Nat.le_refl _, Kd.C_nil k38 w⟩
  · subst hn
    refine ⟨some ⟨g, 0, none⟩, cap, rfl, h1, ⟨rfl, by unfold maxLen at h2; omega, fun _ => ⟨_, rfl, fun j p hj => ⟨_, rfl, k38_mk w p, fun i u hu => ?_⟩⟩⟩⟩
    obtain ⟨h0, h1⟩ := two_at (fun d : S38 => .int .i64 d.f0) (fun d => .int .u32 d.f1) xs j
    rw [hj] at h0 h1
    refine h.cells (g := g) rfl _ u ?_
    unfold pv38
    match i, hu with
    | 0, hu => rw [show j * k38.sz + 0 = j * 2 by show j * 2 + 0 = _; omega, h0]; exact hu
    | 1, hu => rw [show j * k38.sz + 1 = j * 2 + 1 from rfl, h1]; exact hu
    | i + 2, hu => simp at hu
theorem C_own2 {w : World} {base n : Nat} {v : Value} {xs : List Int} (hn : xs.length = n) (h : w.ownsRow base 2 1 v n (nums .i64 xs)) : ∃ A c, v = .slice A n c ∧ n ≤ c ∧ Kd.C (Kd.int .i64) w A n xs := by
  rcases h.2 with ⟨rfl, rfl⟩ | ⟨g, cap, cur, rfl, _, _, h1, h2, _⟩
  · obtain rfl : xs = [] := List.eq_nil_of_length_eq_zero hn
    exact ⟨none, 0, rfl, Nat.le_refl _, Kd.C_nil _ w⟩
  · refine ⟨some ⟨g, 0, none⟩, cap, rfl, h1, hn, by unfold maxLen at h2; omega, fun _ => ⟨_, rfl, fun j p hj => ⟨[.int .i64 p], rfl, rfl, fun i u hu => ?_⟩⟩⟩
    have e : (nums .i64 xs)[j]? = some (.int .i64 p) := by unfold nums; rw [List.getElem?_map, hj]; rfl
    have := h.cells (g := g) rfl j _ e
    match i, hu with
    | 0, hu =>
      obtain rfl : Value.int .i64 p = u := by simpa using hu
      rw [show j * (Kd.int .i64).sz + 0 = j by show j * 1 + 0 = j; omega]
      exact this
    | i + 1, hu => simp at hu
theorem at_I {w : World} {A : Option Addr} {n : Nat} {xs : List Int} (h : Kd.C (Kd.int .i64) w A n xs) (j : Nat) (hj : j < n) : ∃ ad, A = some ad ∧ w.cell? (ad.add j) = some (.int .i64 (xs.getD j 0)) := by
  obtain ⟨ad, c, e, _, hK, hc⟩ := Kd.C_get h 0 (j : Int) (by omega) (by omega)
  rw [Int.toNat_natCast] at hK hc
  obtain rfl := hK
  have := hc 0 _ rfl
  rw [show j * (Kd.int .i64).sz + 0 = j by show j * 1 + 0 = j; omega] at this
  exact ⟨ad, e, this⟩
def dotsL (fr st : Int) (vals : List S29) : Nat → List S73
  | 0 => []
  | k + 1 => dotsL fr st vals k ++ (if keeps (valAt vals k) then [⟨placeAt fr st k, (fl_of (valAt vals k).f1 : Int)⟩] else [])
theorem dots_P (fr st : Int) (vals : List S29) (k : Nat) : sampleL fr st vals k = (dotsL fr st vals k).map dP := by
  induction k with
  | zero => rfl
  | succ k ih =>
    rw [sampleL, dotsL, List.map_append, ih]
    congr 1
    split <;> simp [dP]
theorem dots_none (fr st : Int) (k : Nat) : dotsL fr st [] k = [] := by
  induction k with
  | zero => rfl
  | succ k ih => rw [dotsL, ih]; rfl
theorem dotsL_len (fr st : Int) (vals : List S29) (k : Nat) : (dotsL fr st vals k).length ≤ k := by
  induction k with
  | zero => exact Nat.le_refl _
  | succ k ih =>
    rw [dotsL, List.length_append]
    split <;> simp <;> omega
theorem num_of (x : Int) (h0 : -9223372036854775808 ≤ x) (h1 : x < 9223372036854775808) : isNum (fl_of x) := by
  by_cases hx : x = 0
  · subst hx
    exact ⟨by decide, by decide⟩
  · obtain ⟨a, b, _⟩ := whole_fin x h0 h1 hx
    exact ⟨a, by have : fl_of x % 2147483648 < 2139095040 := b; omega⟩
theorem val_range {vals : List S29} (hok : ∀ v ∈ vals, -9223372036854775808 ≤ v.f1 ∧ v.f1 < 9223372036854775808) (k : Nat) : -9223372036854775808 ≤ (valAt vals k).f1 ∧ (valAt vals k).f1 < 9223372036854775808 := by
  unfold valAt
  split
  · exact ⟨by decide, by decide⟩
  · rename_i h
    have hl : k % vals.length < vals.length := Nat.mod_lt _ (Nat.pos_of_ne_zero h)
    rw [List.getD_eq_getElem?_getD, List.getElem?_eq_getElem hl]
    exact hok _ (List.getElem_mem hl)
theorem dots_num (fr st : Int) (vals : List S29) (hok : ∀ v ∈ vals, -9223372036854775808 ≤ v.f1 ∧ v.f1 < 9223372036854775808) (k : Nat) : AllNum (dotsL fr st vals k) := by
  induction k with
  | zero => intro d hd; exact absurd hd (by simp [dotsL])
  | succ k ih =>
    rw [dotsL]
    split
    · exact ih.snoc _ _ (num_of _ (val_range hok k).1 (val_range hok k).2)
    · rw [List.append_nil]; exact ih
theorem at_block {w : World} {ad : Addr} {n : Nat} {xs : List Int} (h : Kd.C (Kd.int .i64) w (some ad) n xs) (j : Nat) (hj : j < n) : w.cell? (ad.add j) = some (.int .i64 (xs.getD j 0)) := by
  obtain ⟨ad', e, h1⟩ := at_I h j hj
  cases e
  exact h1
theorem after_app {w2 w3 : World} {base gb n : Nat} {v : Value} {xs : List Value} {r : S29} {a : Addr} {P : Int} {o : Obj} (ho : w2.ownsRow base 38 2 v n xs) (hb : w2.heap[gb]? = some (.cells #[.int .i64 r.f0, .int .i64 r.f1] 29 (0, 0))) (hx : w2.cell? a = some (.int .i64 P)) (hab : a.block < base)
    (hg : (w2.alloc o).grownBy w3 v.ownBlock) : w3.cell? ⟨gb, 1, none⟩ = some (.int .i64 r.f1) ∧ w3.cell? a = some (.int .i64 P) := by
  have hB : Below w2.heap.size w2 (w2.alloc o) := (Below.refl _ w2).alloc (Nat.le_refl _) o
  have l1 := blk_lt hb
  have l2 := World.block_lt_of_cell? w2 a hx
  refine ⟨?_, ?_⟩
  · exact (hg.cell_far ⟨gb, 1, none⟩ (by simp; omega) (own_ne ho hb (by decide))).trans (pw_cell_below hB ((blk_cell hb 1).trans rfl))
  · exact (hg.cell_far a (by simp; omega) (fun e => by have := own_base ho _ e.symm; omega)).trans (pw_cell_below hB hx)
structure Behind (fr st : Int) (vals : List S29) (w : World) (base ga gv m c N cx : Nat) (A AX : Option Addr) (v10 va : Value) (wS : World) : Prop where
  v : wS.heap[gv]? = some (.cells #[.slice A m c] 23 (0, 0))
  r : Kd.C k29 wS A m vals
  x : Kd.C (Kd.int .i64) wS AX N (placesL fr st N)
  a : Asked wS base ga va (placesL fr st N)
  o : wS.ownsRow base 58 2 v10 (dotsL fr st vals N).length (pntv ((dotsL fr st vals N).map dP))
  b : Below w.heap.size w wS
theorem Behind.below {fr st : Int} {vals : List S29} {w : World} {base ga gv m c N cx : Nat} {A AX : Option Addr} {v10 va : Value} {wS w1 : World} (h : Behind fr st vals w base ga gv m c N cx A AX v10 va wS) (hb : Below wS.heap.size wS w1) : Behind fr st vals w base ga gv m c N cx A AX v10 va w1 :=
  ⟨blk_below h.v hb, Kd.C_below h.r hb, Kd.C_below h.x hb, h.a.below hb, pw_own_below h.o hb, below_then h.b h.b.size hb⟩
theorem behind {fr st : Int} {vals : List S29} {w w1 wS : World} {gv m c N cx : Nat} {A AX : Option Addr} {v10 va : Value} (hV : w1.heap[gv]? = some (.cells #[.slice A m c] 23 (0, 0))) (hR : Kd.C k29 w1 A m vals) (hX : Kd.C (Kd.int .i64) w1 AX N (placesL fr st N)) (hB : Below w.heap.size w w1)
    (hS : Samp fr st vals (w1.alloc (.cells #[.slice none 0 0] 24)) w1.heap.size gv m c A N v10 va wS) : Behind fr st vals w (w1.alloc (.cells #[.slice none 0 0] 24)).heap.size w1.heap.size gv m c N cx A AX v10 va wS := by
  have hk : ∀ k, k < w1.heap.size → wS.heap[k]? = w1.heap[k]? := fun k h => by
    rw [hS.kp.block k (by simp; omega) (by omega) (by simp), Below.heap_alloc _ _ _ h]
  have hb1 : Below w1.heap.size w1 wS := ⟨hS.kp.os, hS.kp.tape, hS.kp.output, Nat.le_trans (by simp) hS.kp.size, hk⟩
  refine ⟨blk_below hV hb1, Kd.C_below hR hb1, Kd.C_below hX hb1, hS.asked, ?_, below_then hB hB.size hb1⟩
  have := hS.out
  rw [dots_P, List.length_map] at this
  exact this
theorem asked_new (w : World) : Asked (w.alloc (.cells #[.slice none 0 0] 24)) (w.alloc (.cells #[.slice none 0 0] 24)).heap.size w.heap.size (.slice none 0 0) [] := ⟨blk_new w _, own_nil _ _ _ _⟩
set_option maxHeartbeats 4000000 in
theorem law_samples (fr st n : Int) (A : Option Addr) (c m : Nat) (vals : List S29) (w : World) (hm : vals.length = m) (hr : Kd.C k29 w A m vals) (hmax : m ≤ 8796093022208) (hst : -9223372036854775808 ≤ st) (hst2 : st ≤ 9223372036854775807) (hok : ∀ v ∈ vals, -9223372036854775808 ≤ v.f1 ∧ v.f1 < 9223372036854775808) :
    Calls Try.prog 4 #[.int .i64 fr, .int .i64 st, .int .i64 n, .slice A m c] w (TrueBelow w) := by
  obtain ⟨N, code, k, hN, hc0, hc1, hxs, hsample⟩ := sample_all fr st n hst hst2
  have HN := Aside0.mk hN
  have HS := Aside0.mk hsample
  have HX := Aside0.mk hxs
  have HM := Aside0.mk hm
  have HR := Aside0.mk hr
  have HMAX := Aside0.mk hmax
  have HOK := Aside0.mk hok
  clear hN hxs hsample hm hr hmax hok hst hst2
  go_enter Try.func4, Try.ntmps4
  go_wp2_with fail
  go_at_call 11
  have HV := Aside0.mk (blk_new w (.cells #[.slice A m c] 23))
  have HB := Aside0.mk ((Below.refl w.heap.size w).alloc (Nat.le_refl _) (.cells #[.slice A m c] 23))
  have HR0 := Aside0.mk (Kd.C_below HR.out HB.out)
  have HAP := Aside0.mk (reads_lt HR.out)
  clear HR
  obtain ⟨gv, hgv⟩ : ∃ g, w.heap.size = g := ⟨_, rfl⟩
  generalize w.alloc (.cells #[.slice A m c] 23) = w0 at HV HB HR0 ⊢
  rw [hgv] at HV ⊢
  have HGV := Aside0.mk hgv
  clear hgv
  with_reducible refine (levyref17_Xs.calls k fr st n (placesL fr st N) code _ HX.out).mono ?_
  rintro e w1 ⟨vx, rfl, hxR, hb1⟩
  have HXR := Aside0.mk hxR
  have HB1 := Aside0.mk hb1
  have HV1 := Aside0.mk (blk_below HV.out hb1)
  have HR1 := Aside0.mk (Kd.C_below HR0.out hb1)
  clear hxR hb1
  go_wp2_with fail
  go_at_call 13
  have HA2 := Aside0.mk (asked_new w1)
  obtain ⟨AX, cx, rfl, hcx, hX⟩ := Kd.R_reads HXR.out
  rw [placesL_len] at hcx hX ⊢
  have HCX := Aside0.mk hcx
  have HX1 := Aside0.mk hX
  clear hcx hX
  have HB0 := Aside0.mk (below_then HB.out HB.out.size HB1.out)
  have hBA : Below w1.heap.size w1 (w1.alloc (.cells #[.slice none 0 0] 24)) := (Below.refl _ _).alloc (Nat.le_refl _) _
  with_reducible refine (HS.out w1.heap.size gv m c A vals (w1.alloc (.cells #[.slice none 0 0] 24)) HA2.out (blk_below HV1.out hBA) (Kd.C_below HR1.out hBA) HM.out ?_ HMAX.out).mono ?_
  · intro ad e h0
    have h1 := reads_lt HR1.out (by decide) ad e h0
    exact ⟨by omega, by simp; omega⟩
  rintro e wS ⟨v10, va, rfl, hS⟩
  have HBH := Aside0.mk (behind (cx := cx) HV1.out HR1.out HX1.out HB0.out hS)
  clear hS hBA HA2 HV1 HR1 HX1 HB0 HXR HB1 HV HB HR0
  generalize (w1.alloc (.cells #[.slice none 0 0] 24)).heap.size = base at HBH
  generalize w1.heap.size = ga at HBH ⊢
  go_wp2_with fail
  go_loopg [12, 16] (N + 1) (fun kq v12 v16 w' => ∃ i : Nat, v16 = .int .i64 (i : Int) ∧ Aside0 (kq + i = N + 1) ∧ Aside0 (i ≤ N) ∧ Aside0 (w'.ownsRow wS.heap.size 38 2 v12 (dotsL fr st vals i).length (pv38 ((dotsL fr st vals i).map dB))) ∧ Aside0 (Below wS.heap.size wS w'))
  case atStart => exact ⟨0, rfl, ⟨by omega⟩, ⟨by omega⟩, ⟨own_nil _ _ _ _⟩, ⟨Below.refl _ _⟩⟩
  case round =>
    obtain ⟨i, rfl, HK, HI, HO, HB⟩ := hrel
    cases gk with
    | zero => exact absurd HK.out (by have := HI.out; omega)
    | succ k1 =>
      have HBW := Aside0.mk (HBH.out.below HB.out)
      have v0 : wr.cell? ⟨gv, 0, none⟩ = some (.slice A m c) := (blk_cell HBW.out.v 0).trans rfl
      by_cases hgo : i < N ∧ 0 < m
      · obtain ⟨hlt, hm0⟩ := hgo
        have hb0 : decide ((i : Int) < (N : Int)) = true := decide_eq_true (by omega)
        have hb1 : decide ((0 : Int) < (m : Int)) = true := decide_eq_true (by omega)
        have hnm : i % m < m := Nat.mod_lt _ hm0
        obtain ⟨ad, e1, x0, x1⟩ := at_T29 HBW.out.r (i % m) hnm
        subst e1
        obtain ⟨adx, e1, xx⟩ := at_I HBW.out.x i hlt
        subst e1
        have HXB := Aside0.mk (World.block_lt_of_cell? _ _ (at_block HBH.out.x i hlt))
        have hrem : (i : Int).tmod (m : Int) = ((i % m : Nat) : Int) := rfl
        have hlt2 : ((i % m : Nat) : Int) < m := by omega
        have hnz : ¬ (m = 0) := by omega
        have hge2 : ¬ (((i % m : Nat) : Int) < 0) := by omega
        have hv : valAt vals i = vals.getD (i % m) z29 := by unfold valAt; rw [if_neg (by rw [HM.out]; exact hnz), HM.out]
        have hsl : dotsL fr st vals (i + 1) = dotsL fr st vals i ++ (if keeps (valAt vals i) then [⟨placeAt fr st i, (fl_of (valAt vals i).f1 : Int)⟩] else []) := rfl
        have hxp : (placesL fr st N).getD i 0 = placeAt fr st i := by
          unfold placesL
          rw [List.getD_eq_getElem?_getD, List.getElem?_map, List.getElem?_range hlt]
          rfl
        have hrg := val_range HOK.out i
        rw [hxp] at xx
        rw [hv] at hsl hrg
        have HSL := Aside0.mk hsl
        have HRG := Aside0.mk hrg
        clear hsl hv hxp hrg
        generalize vals.getD (i % m) z29 = r at HSL HRG x0 x1
        generalize placeAt fr st i = P at HSL xx
        generalize hq : i % m = q at hrem hlt2 x0 x1 hge2
        clear hq
        have p3 : (i : Int) < 64 := by have := HN.out; omega
        go_wp2_with fail
        go_region_held3 (fun w' => w'.cell? ⟨gv, 0, none⟩ = some (.slice (some ad) m c) ∧ w'.cell? (ad.add (q * 2)) = some (.int .i64 r.f0) ∧ w'.cell? ⟨(ad.add (q * 2)).block, (ad.add (q * 2)).off + 1, none⟩ = some (.int .i64 r.f1)) (first | (refine ⟨?_, ?_, ?_⟩ <;> first | assumption | go_keep)) (fail)
        go_simp
        have hBW : Below wr.heap.size wr (wr.alloc (.cells #[.int .i64 r.f0, .int .i64 r.f1] 29)).drew := pw_below_drewN ((Below.refl _ _).alloc (Nat.le_refl _) _) 1
        have HB2 := Aside0.mk (below_then HB.out HB.out.size hBW)
        have HBK := Aside0.mk (show (wr.alloc (.cells #[.int .i64 r.f0, .int .i64 r.f1] 29)).drew.heap[wr.heap.size]? = some (.cells #[.int .i64 r.f0, .int .i64 r.f1] 29 (0, 0)) from blk_new wr _)
        have HO2 := Aside0.mk (pw_own_below HO.out hBW)
        have hgb : wS.heap.size ≤ wr.heap.size := HB.out.size
        obtain ⟨k0, k1', k2, k3⟩ := c2_ HBK
        replace xx := pw_cell_below hBW xx
        clear HO HB hBW x0 x1 v0
        generalize (wr.alloc (.cells #[.int .i64 r.f0, .int .i64 r.f1] 29)).drew = w2 at HB2 HBK HO2 k0 k1' k2 k3 xx ⊢
        generalize wr.heap.size = gb at HBK hgb k0 k1' k2 k3 ⊢
        obtain ⟨i0, hi0, hz0, hz1, hz2⟩ := info_parts PS.info38
        have HI0 := Aside0.mk hi0
        have HZ0 := Aside0.mk hz0
        have HZ1 := Aside0.mk hz1
        have HZ2 := Aside0.mk hz2
        clear hi0 hz0 hz1 hz2 hrem hlt2 hnz hge2
        have HSW := Aside0.mk HB2.out.size
        by_cases hk1 : r.f0 = 1
        · have c1 : (r.f0 == 1) = true := beq_iff_eq.mpr hk1
          have HKP : Aside0 (keeps r = true) := ⟨by unfold keeps; rw [c1]; rfl⟩
          clear hk1
          go_wp2_with fail
          have hwh : levyref17_Whole.f r.f1 = some ((fl_of r.f1 : Nat) : Int) := whole_is r.f1 HRG.out.1 HRG.out.2
          go_region_held3 (fun w' => w'.cell? ⟨gb, 1, none⟩ = some (.int .i64 r.f1) ∧ w'.cell? (adx.add i) = some (.int .i64 P)) (first | (refine ⟨?_, ?_⟩ <;> first | assumption | go_keep))
            (first | (go_at_call 14; refine (levyref17_Whole.calls r.f1 _ _ hwh).mono ?_; rintro e w' ⟨rfl, ⟨⟨nd, rfl⟩⟩⟩) | (refine step_append_lies _ (by rfl) _ _ _ (by rfl) wS.heap.size 38 i0 (.agg #[.int .i64 0, .int .u32 0]) 2 16 Try.underlying27 HI0.out HZ0.out HZ1.out HZ2.out rfl (by omega) u12 (dotsL fr st vals i).length (pv38 ((dotsL fr st vals i).map dB)) (by rfl) ((own_drewN HO2.out _).alloc _) ⟨w2.heap.size, 0, none⟩ 1 1 [.int .i64 P, .int .u32 ((fl_of r.f1 : Nat) : Int)] (by rfl) (by rfl) (World.news_of_block (cs := #[.int .i64 P, .int .u32 ((fl_of r.f1 : Nat) : Int)]) (t := 38) (fr := (0, 0)) (heap_alloc_new (World.drewN w2 _) _)) (by simp [Value.oneCell']) (by omega) (by have := dotsL_len fr st vals i; unfold maxLen; omega) (by have := dotsL_len fr st vals i; omega) (by simp; have := HSW.out; omega) (w2.heap.size + 1) (by simp) ?_; intro g3 cap3 w3 hown3 hgrow3 hat3 hlt3; have hby := after_app (w2 := World.drewN w2 _) (own_drewN HO2.out _) HBK.out xx HXB.out hgrow3; have hby1 := hby.1; have hby2 := hby.2))
          go_wp2_with fail
          go_roundg k1
          case measure => omega
          case rel =>
            refine ⟨i + 1, by simp, ⟨by have := HK.out; omega⟩, ⟨by omega⟩, ⟨?_⟩, ⟨(pw_below_drewN HB2.out _ |>.alloc HB2.out.size _).grown hgrow3 (Nat.le_trans HSW.out (by simp)) (fun k hk => own_base HO2.out k hk)⟩⟩
            rw [HSL.out, if_pos HKP.out, List.length_append, List.map_append]
            exact (pv38_snoc ((dotsL fr st vals i).map dB) ⟨P, ((fl_of r.f1 : Nat) : Int)⟩) ▸ hown3
        · have c1 : (r.f0 == 1) = false := by simpa using hk1
          clear hk1
          by_cases hk2 : r.f0 = 2
          · have c2 : (r.f0 == 2) = true := beq_iff_eq.mpr hk2
            have HKP : Aside0 (keeps r = true) := ⟨by unfold keeps; rw [c1, c2]; rfl⟩
            clear hk2
            go_wp2_with fail
            have hwh : levyref17_Whole.f r.f1 = some ((fl_of r.f1 : Nat) : Int) := whole_is r.f1 HRG.out.1 HRG.out.2
            go_region_held3 (fun w' => w'.cell? ⟨gb, 1, none⟩ = some (.int .i64 r.f1) ∧ w'.cell? (adx.add i) = some (.int .i64 P)) (first | (refine ⟨?_, ?_⟩ <;> first | assumption | go_keep))
              (first | (go_at_call 14; refine (levyref17_Whole.calls r.f1 _ _ hwh).mono ?_; rintro e w' ⟨rfl, ⟨⟨nd, rfl⟩⟩⟩) | (refine step_append_lies _ (by rfl) _ _ _ (by rfl) wS.heap.size 38 i0 (.agg #[.int .i64 0, .int .u32 0]) 2 16 Try.underlying27 HI0.out HZ0.out HZ1.out HZ2.out rfl (by omega) u12 (dotsL fr st vals i).length (pv38 ((dotsL fr st vals i).map dB)) (by rfl) ((own_drewN HO2.out _).alloc _) ⟨w2.heap.size, 0, none⟩ 1 1 [.int .i64 P, .int .u32 ((fl_of r.f1 : Nat) : Int)] (by rfl) (by rfl) (World.news_of_block (cs := #[.int .i64 P, .int .u32 ((fl_of r.f1 : Nat) : Int)]) (t := 38) (fr := (0, 0)) (heap_alloc_new (World.drewN w2 _) _)) (by simp [Value.oneCell']) (by omega) (by have := dotsL_len fr st vals i; unfold maxLen; omega) (by have := dotsL_len fr st vals i; omega) (by simp; have := HSW.out; omega) (w2.heap.size + 1) (by simp) ?_; intro g3 cap3 w3 hown3 hgrow3 hat3 hlt3; have hby := after_app (w2 := World.drewN w2 _) (own_drewN HO2.out _) HBK.out xx HXB.out hgrow3; have hby1 := hby.1; have hby2 := hby.2))
            go_wp2_with fail
            go_roundg k1
            case measure => omega
            case rel =>
              refine ⟨i + 1, by simp, ⟨by have := HK.out; omega⟩, ⟨by omega⟩, ⟨?_⟩, ⟨(pw_below_drewN HB2.out _ |>.alloc HB2.out.size _).grown hgrow3 (Nat.le_trans HSW.out (by simp)) (fun k hk => own_base HO2.out k hk)⟩⟩
              rw [HSL.out, if_pos HKP.out, List.length_append, List.map_append]
              exact (pv38_snoc ((dotsL fr st vals i).map dB) ⟨P, ((fl_of r.f1 : Nat) : Int)⟩) ▸ hown3
          · have c2 : (r.f0 == 2) = false := by simpa using hk2
            have HKP : Aside0 (keeps r = false) := ⟨by unfold keeps; rw [c1, c2]; rfl⟩
            clear hk2
            go_wp2_with fail
            go_roundg k1
            case measure => omega
            case rel =>
              refine ⟨i + 1, by simp, ⟨by have := HK.out; omega⟩, ⟨by omega⟩, ⟨?_⟩, HB2⟩
              rw [HSL.out, if_neg (by rw [HKP.out]; decide), List.append_nil]
              exact HO2.out
      · have hdn : dotsL fr st vals i = dotsL fr st vals N := by
          by_cases h : i < N
          · have hvn : vals = [] := List.eq_nil_of_length_eq_zero (by have := HM.out; omega)
            rw [hvn, dots_none, dots_none]
          · rw [show i = N by have := HI.out; omega]
        have hcase : (¬ i < N ∧ decide ((i : Int) < (N : Int)) = false) ∨ ((i < N ∧ ¬ 0 < m) ∧ decide ((i : Int) < (N : Int)) = true ∧ decide ((0 : Int) < (m : Int)) = false) := by
          by_cases h : i < N
          · exact .inr ⟨⟨h, by omega⟩, decide_eq_true (by omega), decide_eq_false (by omega)⟩
          · exact .inl ⟨h, decide_eq_false (by omega)⟩
        have HO2 := HO.out
        rw [hdn] at HO2
        obtain ⟨Aw, cw, hw, hcw, hCw⟩ := C_own38 (by rw [List.length_map]) HO2
        subst hw
        obtain ⟨Ad, cd, hd, hcd, hCd⟩ := C_own58 (by rw [List.length_map]) HBW.out.o
        subst hd
        obtain ⟨Aa, ca, ha⟩ := own_slice HBW.out.a.own
        subst ha
        have a0 : wr.cell? ⟨ga, 0, none⟩ = some (.slice Aa N ca) := by rw [blk_cell HBW.out.a.blk 0, placesL_len]; rfl
        have HCW := Aside0.mk hcw
        have HCCW := Aside0.mk hCw
        have HCD := Aside0.mk hcd
        have HCCD := Aside0.mk hCd
        have HDL := Aside0.mk (dotsL_len fr st vals N)
        have HAN := Aside0.mk (dots_num fr st vals HOK.out N)
        clear hdn HO2 hcw hCw hcd hCd HO
        generalize dotsL fr st vals N = D at HCW HCCW HCD HCCD HDL HAN HBW HBH ⊢
        rcases hcase with ⟨hn1, hb0⟩ | ⟨⟨hn1, hn2⟩, hb0, hb1⟩
        all_goals (
          go_wp2_with fail
          go_at_call 15
          with_reducible refine (same_c Ad Aw cd cw D.length D wr rfl HAN.out (by have := HDL.out; have := HN.out; omega) HCCD.out HCD.out HCCW.out HCW.out).mono ?_
          rintro e wt ⟨rfl, ⟨⟨nd, hwt⟩⟩⟩
          have HB2 := Aside0.mk (show Below wr.heap.size wr wt by rw [hwt]; exact pw_below_drewN (Below.refl _ _) _)
          have HBT := Aside0.mk (HBW.out.below HB2.out)
          clear hwt v0 a0
          go_wp2_with fail
          go_loopg [8, 18] (N + 1) (fun kq v8 v18 w' => ∃ j : Nat, v18 = .int .i64 (j : Int) ∧ Aside0 (kq + j = N + 1) ∧ Aside0 (j ≤ N) ∧ Aside0 (Below wt.heap.size wt w'))
          case atStart => exact ⟨0, rfl, ⟨by omega⟩, ⟨by omega⟩, ⟨Below.refl _ _⟩⟩
          case round =>
            obtain ⟨j, rfl, HK2, HJ, HB3⟩ := hrel
            cases gk with
            | zero => exact absurd HK2.out (by have := HJ.out; omega)
            | succ k2 =>
              have HBR := Aside0.mk (HBT.out.below HB3.out)
              by_cases hj : j < N
              · have hc2 : decide ((j : Int) < (N : Int)) = true := decide_eq_true (by omega)
                have ho := HBR.out.a.own
                rw [placesL_len] at ho
                obtain ⟨A1, c1, e1, h1, h2⟩ := C_own2 (placesL_len _ _ _) ho
                injection e1 with e1 _ e2
                subst e1 e2
                obtain ⟨ad1, e1, x1⟩ := at_I h2 j hj
                subst e1
                obtain ⟨ad2, e2, x2⟩ := at_I HBR.out.x j hj
                subst e2
                have a1 := (blk_cell HBR.out.a.blk 0).trans (show _ = some (Value.slice (some ad1) N ca) by rw [placesL_len]; rfl)
                generalize (placesL fr st N).getD j 0 = P at x1 x2
                clear h1 h2 ho
                have p1 : (j : Int) < (N : Int) := by omega
                have p2 : (0 : Int) ≤ (j : Int) := by omega
                have p3 : (j : Int) < 64 := by have := HN.out; omega
                go_wp2_with fail
                go_quiet (fail)
                go_wp2_with fail
                go_roundg k2
                case measure => omega
                case rel => exact ⟨j + 1, by simp, ⟨by have := HK2.out; omega⟩, ⟨by omega⟩, ⟨by first | exact HB3.out | exact pw_below_drewN HB3.out _⟩⟩
              · have hc2 : decide ((j : Int) < (N : Int)) = false := decide_eq_false (by omega)
                go_wp2
                go_ret
                exact ⟨rfl, HBR.out.b⟩)
theorem i64_ok {x : Int} (h : (Lit.int .i64 x).wf = true) : -9223372036854775808 ≤ x ∧ x ≤ 9223372036854775807 := by
  have b : IntKind.i64.min ≤ x ∧ x ≤ IntKind.i64.max := by simpa [Lit.wf] using h
  exact b
end Go.Proofs.Ytfhgomcfpmbhnaa.Y
end

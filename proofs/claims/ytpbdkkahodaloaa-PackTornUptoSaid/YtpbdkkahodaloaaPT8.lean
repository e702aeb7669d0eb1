-- Part 8 of the texts of the claim PT (wrote by programs: words of the kit's print.sh, printed functions; and my own texts; joined by wip/tools/pack.py).
import Derived.Test.YtpbdkkahodaloaaPT7

section
set_option linter.unusedVariables false
set_option linter.unusedSimpArgs false
namespace Go.Proofs.Ytpbdkkahodaloaa.V
open Go.RowKit Go.Proofs.Ytpbdkkahodaloaa.PS Go.Proofs.YtpbdkkahodaloaaW.PrintWords Go.Proofs.YtpbdkkahodaloaaW.PrintMore
set_option maxRecDepth 100000
theorem textR_good {b : List Int} {s : R3} (hb : bytes b) (h : Good b s) : Good b (textR b s).2 := by
  have hr := numR_range hb h
  have hg := numR_good h
  unfold textR
  split
  · exact failR_good hg _ _
  · exact ⟨by have := hg.lo; show 0 ≤ (numR b s).2.at_ + (numR b s).1; omega, by show (numR b s).2.at_ + (numR b s).1 ≤ _; omega⟩
theorem band_ip {w0 w : World} {g : Nat} {b : List Int} {s : R3} (h : Rd w0 w g b s) : Calls Try.prog 124 #[.pointer (some ⟨g, 0, none⟩)] w (IP k74 w0 g b (bandR b s).1 (bandR b s).2 w) := (band_r h).mono fun e w' hp => ⟨_, hp.1, k74_mkM _ _ _ _, hp.2⟩
def groupR (b : List Int) (s : R3) : S69 × R3 := (⟨(textR b s).1, (intR b (textR b s).2).1⟩, (intR b (textR b s).2).2)
set_option maxHeartbeats 4000000 in
theorem group_r {w0 w : World} {g : Nat} {b : List Int} {s : R3} (h : Rd w0 w g b s) : Calls Try.prog 99 #[.pointer (some ⟨g, 0, none⟩)] w (IP k69 w0 g b (groupR b s).1 (groupR b s).2 w) := by
  have S0 := Aside0.mk (h.alloc (.cells #[.string ⟨#[]⟩, .int .i64 0] 69))
  have B0 := Aside0.mk (blk_new w (.cells #[.string ⟨#[]⟩, .int .i64 0] 69))
  have K0 := Aside0.mk (keep_alloc (KeepBut.refl w g none) (.cells #[.string ⟨#[]⟩, .int .i64 0] 69))
  have HG := Aside0.mk h.lt.1
  have Z0 := Aside0.mk (show w.heap.size < (w.alloc (.cells #[.string ⟨#[]⟩, .int .i64 0] 69)).heap.size by simp)
  clear h
  go_enter Try.func99, Try.ntmps99
  go_wp2_with fail
  generalize w.alloc (.cells #[.string ⟨#[]⟩, .int .i64 0] 69) = W0 at S0 B0 K0 Z0 ⊢
  go_at_call 92
  with_reducible refine (text_r S0.out).mono ?_
  intro e W1 hp
  obtain ⟨rfl, hR, hK⟩ := hp
  obtain ⟨x0, hx⟩ : ∃ x, (textR b s).1 = x := ⟨_, rfl⟩
  obtain ⟨t1, ht⟩ : ∃ t, (textR b s).2 = t := ⟨_, rfl⟩
  rw [ht] at hR
  rw [hx]
  have X0 := Aside0.mk hx
  have T1 := Aside0.mk ht
  have S1 := Aside0.mk hR
  have B1 := Aside0.mk (hK.blk B0.out (by have := HG.out; omega) (by simp))
  have K1 := Aside0.mk (K0.out.trans hK (.inl rfl))
  have Z1 := Aside0.mk (Nat.lt_of_lt_of_le Z0.out hK.1)
  clear hx ht hR hK
  go_wp2_with fail
  go_at_call 93
  with_reducible refine (int_r S1.out).mono ?_
  intro e W2 hp
  obtain ⟨rfl, hR, hK⟩ := hp
  obtain ⟨x1, hx⟩ : ∃ x, (intR b t1).1 = x := ⟨_, rfl⟩
  obtain ⟨t2, ht⟩ : ∃ t, (intR b t1).2 = t := ⟨_, rfl⟩
  rw [ht] at hR
  rw [hx]
  have X1 := Aside0.mk hx
  have T2 := Aside0.mk ht
  have S2 := Aside0.mk hR
  have B2 := Aside0.mk (hK.blk B1.out (by have := HG.out; omega) (by simp))
  have K2 := Aside0.mk (K1.out.trans hK (.inl rfl))
  have Z2 := Aside0.mk (Nat.lt_of_lt_of_le Z1.out hK.1)
  clear hx ht hR hK
  have k0_ := (blk_cell B2.out 0).trans rfl
  have f0_ := blk_frozen B2.out 0
  have k1_ := (blk_cell B2.out 1).trans rfl
  have f1_ := blk_frozen B2.out 1
  have hq := blk_lt B2.out
  go_wp2_with fail
  have hE := @item_end _ k69 Try.f99 2 69 (w0 := w0) (w := w) (wn := W2) (g := g) (q := w.heap.size) (b := b) (x := (⟨x0, x1⟩ : S69)) (s' := t2) (cs0 := #[.string ⟨#[]⟩, .int .i64 0]) (cs := [.string x0, .int .i64 x1])
  simp only [sets, Nat.zero_add, Nat.reduceAdd] at hE
  have hI : groupR b s = (⟨x0, x1⟩, t2) := by unfold groupR; simp only [X0.out, T1.out, X1.out, T2.out]
  rw [hI]
  exact hE _ rfl (by rfl) (by rfl) Try.underlying69 (by kernel_rfl) B2.out rfl S2.out K2.out (Nat.le_refl _) HG.out (k69_mkM _ _ _ (⟨x0, x1⟩ : S69))
def optionsR (b : List Int) (s : R3) : S97 × R3 := (⟨(textR b s).1, (listR b (textR b) (textR b s).2).1⟩, (listR b (textR b) (textR b s).2).2)
set_option maxHeartbeats 4000000 in
theorem options_r {w0 w : World} {g : Nat} {b : List Int} {s : R3} (h : Rd w0 w g b s) : Calls Try.prog 95 #[.pointer (some ⟨g, 0, none⟩)] w (IP k97 w0 g b (optionsR b s).1 (optionsR b s).2 w) := by
  have S0 := Aside0.mk (h.alloc (.cells #[.string ⟨#[]⟩, .slice none 0 0] 97))
  have B0 := Aside0.mk (blk_new w (.cells #[.string ⟨#[]⟩, .slice none 0 0] 97))
  have K0 := Aside0.mk (keep_alloc (KeepBut.refl w g none) (.cells #[.string ⟨#[]⟩, .slice none 0 0] 97))
  have HG := Aside0.mk h.lt.1
  have Z0 := Aside0.mk (show w.heap.size < (w.alloc (.cells #[.string ⟨#[]⟩, .slice none 0 0] 97)).heap.size by simp)
  clear h
  go_enter Try.func95, Try.ntmps95
  go_wp2_with fail
  generalize w.alloc (.cells #[.string ⟨#[]⟩, .slice none 0 0] 97) = W0 at S0 B0 K0 Z0 ⊢
  go_at_call 92
  with_reducible refine (text_r S0.out).mono ?_
  intro e W1 hp
  obtain ⟨rfl, hR, hK⟩ := hp
  obtain ⟨x0, hx⟩ : ∃ x, (textR b s).1 = x := ⟨_, rfl⟩
  obtain ⟨t1, ht⟩ : ∃ t, (textR b s).2 = t := ⟨_, rfl⟩
  rw [ht] at hR
  rw [hx]
  have X0 := Aside0.mk hx
  have T1 := Aside0.mk ht
  have S1 := Aside0.mk hR
  have B1 := Aside0.mk (hK.blk B0.out (by have := HG.out; omega) (by simp))
  have K1 := Aside0.mk (K0.out.trans hK (.inl rfl))
  have Z1 := Aside0.mk (Nat.lt_of_lt_of_le Z0.out hK.1)
  clear hx ht hR hK
  go_wp2_with fail
  go_at_call 122
  with_reducible refine (list122 w0 _ g b _ (fun _ => True) _ S1.out trivial (fun _ _ _ _ => trivial) (fun _ _ hr _ _ => text_r hr)).mono ?_
  intro e W2 hp
  obtain ⟨v, rfl, hv, hR, hK⟩ := hp
  obtain ⟨x1, hx⟩ : ∃ x, (listR b (textR b) t1).1 = x := ⟨_, rfl⟩
  obtain ⟨t2, ht⟩ : ∃ t, (listR b (textR b) t1).2 = t := ⟨_, rfl⟩
  rw [ht] at hR
  rw [hx] at hv
  obtain ⟨A1, c1, rfl⟩ := Kd.R_slice hv
  have X1 := Aside0.mk hx
  have T2 := Aside0.mk ht
  have S2 := Aside0.mk hR
  have B2 := Aside0.mk (hK.blk B1.out (by have := HG.out; omega) (by simp))
  have K2 := Aside0.mk (K1.out.trans hK (.inl rfl))
  have Z2 := Aside0.mk (Nat.lt_of_lt_of_le Z1.out hK.1)
  have V1 := Aside0.mk (Kd.R_lower (Kd.R_mono (Kd.R_bound hv) (fun k_ (hk : _ ∧ W1.heap.size ≤ k_ ∧ _) => (show w.heap.size < k_ from by have := Z1.out; have := hk.2.1; omega))) (show w.heap.size ≤ W1.heap.size from K1.out.1))
  clear hx ht hR hK hv
  have k0_ := (blk_cell B2.out 0).trans rfl
  have f0_ := blk_frozen B2.out 0
  have k1_ := (blk_cell B2.out 1).trans rfl
  have f1_ := blk_frozen B2.out 1
  have hq := blk_lt B2.out
  go_wp2_with fail
  have hE := @item_end _ k97 Try.f95 2 97 (w0 := w0) (w := w) (wn := W2) (g := g) (q := w.heap.size) (b := b) (x := (⟨x0, x1⟩ : S97)) (s' := t2) (cs0 := #[.string ⟨#[]⟩, .slice none 0 0]) (cs := [.string x0, .slice A1 x1.length c1])
  simp only [sets, Nat.zero_add, Nat.reduceAdd] at hE
  have hI : optionsR b s = (⟨x0, x1⟩, t2) := by unfold optionsR; simp only [X0.out, T1.out, X1.out, T2.out]
  rw [hI]
  exact hE _ rfl (by rfl) (by rfl) Try.underlying97 (by kernel_rfl) B2.out rfl S2.out K2.out (Nat.le_refl _) HG.out (k97_mkM _ _ _ (⟨x0, x1⟩ : S97) (Kd.R_mono V1.out (fun k_ hk => by omega)))
def tableR (b : List Int) (s : R3) : S72 × R3 := (⟨(textR b s).1, (listR b (bandR b) (textR b s).2).1⟩, (listR b (bandR b) (textR b s).2).2)
set_option maxHeartbeats 4000000 in
theorem table_r {w0 w : World} {g : Nat} {b : List Int} {s : R3} (h : Rd w0 w g b s) : Calls Try.prog 97 #[.pointer (some ⟨g, 0, none⟩)] w (IP k72 w0 g b (tableR b s).1 (tableR b s).2 w) := by
  have S0 := Aside0.mk (h.alloc (.cells #[.string ⟨#[]⟩, .slice none 0 0] 72))
  have B0 := Aside0.mk (blk_new w (.cells #[.string ⟨#[]⟩, .slice none 0 0] 72))
  have K0 := Aside0.mk (keep_alloc (KeepBut.refl w g none) (.cells #[.string ⟨#[]⟩, .slice none 0 0] 72))
  have HG := Aside0.mk h.lt.1
  have Z0 := Aside0.mk (show w.heap.size < (w.alloc (.cells #[.string ⟨#[]⟩, .slice none 0 0] 72)).heap.size by simp)
  clear h
  go_enter Try.func97, Try.ntmps97
  go_wp2_with fail
  generalize w.alloc (.cells #[.string ⟨#[]⟩, .slice none 0 0] 72) = W0 at S0 B0 K0 Z0 ⊢
  go_at_call 92
  with_reducible refine (text_r S0.out).mono ?_
  intro e W1 hp
  obtain ⟨rfl, hR, hK⟩ := hp
  obtain ⟨x0, hx⟩ : ∃ x, (textR b s).1 = x := ⟨_, rfl⟩
  obtain ⟨t1, ht⟩ : ∃ t, (textR b s).2 = t := ⟨_, rfl⟩
  rw [ht] at hR
  rw [hx]
  have X0 := Aside0.mk hx
  have T1 := Aside0.mk ht
  have S1 := Aside0.mk hR
  have B1 := Aside0.mk (hK.blk B0.out (by have := HG.out; omega) (by simp))
  have K1 := Aside0.mk (K0.out.trans hK (.inl rfl))
  have Z1 := Aside0.mk (Nat.lt_of_lt_of_le Z0.out hK.1)
  clear hx ht hR hK
  go_wp2_with fail
  go_at_call 123
  with_reducible refine (list123 w0 _ g b _ (fun _ => True) _ S1.out trivial (fun _ _ _ _ => trivial) (fun _ _ hr _ _ => band_ip hr)).mono ?_
  intro e W2 hp
  obtain ⟨v, rfl, hv, hR, hK⟩ := hp
  obtain ⟨x1, hx⟩ : ∃ x, (listR b (bandR b) t1).1 = x := ⟨_, rfl⟩
  obtain ⟨t2, ht⟩ : ∃ t, (listR b (bandR b) t1).2 = t := ⟨_, rfl⟩
  rw [ht] at hR
  rw [hx] at hv
  obtain ⟨A1, c1, rfl⟩ := Kd.R_slice hv
  have X1 := Aside0.mk hx
  have T2 := Aside0.mk ht
  have S2 := Aside0.mk hR
  have B2 := Aside0.mk (hK.blk B1.out (by have := HG.out; omega) (by simp))
  have K2 := Aside0.mk (K1.out.trans hK (.inl rfl))
  have Z2 := Aside0.mk (Nat.lt_of_lt_of_le Z1.out hK.1)
  have V1 := Aside0.mk (Kd.R_lower (Kd.R_mono (Kd.R_bound hv) (fun k_ (hk : _ ∧ W1.heap.size ≤ k_ ∧ _) => (show w.heap.size < k_ from by have := Z1.out; have := hk.2.1; omega))) (show w.heap.size ≤ W1.heap.size from K1.out.1))
  clear hx ht hR hK hv
  have k0_ := (blk_cell B2.out 0).trans rfl
  have f0_ := blk_frozen B2.out 0
  have k1_ := (blk_cell B2.out 1).trans rfl
  have f1_ := blk_frozen B2.out 1
  have hq := blk_lt B2.out
  go_wp2_with fail
  have hE := @item_end _ k72 Try.f97 2 72 (w0 := w0) (w := w) (wn := W2) (g := g) (q := w.heap.size) (b := b) (x := (⟨x0, x1⟩ : S72)) (s' := t2) (cs0 := #[.string ⟨#[]⟩, .slice none 0 0]) (cs := [.string x0, .slice A1 x1.length c1])
  simp only [sets, Nat.zero_add, Nat.reduceAdd] at hE
  have hI : tableR b s = (⟨x0, x1⟩, t2) := by unfold tableR; simp only [X0.out, T1.out, X1.out, T2.out]
  rw [hI]
  exact hE _ rfl (by rfl) (by rfl) Try.underlying72 (by kernel_rfl) B2.out rfl S2.out K2.out (Nat.le_refl _) HG.out (k72_mkM _ _ _ (⟨x0, x1⟩ : S72) (Kd.R_mono V1.out (fun k_ hk => by omega)))
def clauseR (b : List Int) (s : R3) : S100 × R3 := (⟨(intR b s).1, (flagR b (intR b s).2).1, (exprR b 64 (flagR b (intR b s).2).2).1, (exprR b 64 (exprR b 64 (flagR b (intR b s).2).2).2).1⟩, (exprR b 64 (exprR b 64 (flagR b (intR b s).2).2).2).2)
set_option maxHeartbeats 4000000 in
theorem clause_r {w0 w : World} {g : Nat} {b : List Int} {s : R3} (h : Rd w0 w g b s) : Calls Try.prog 127 #[.pointer (some ⟨g, 0, none⟩)] w (IP k100 w0 g b (clauseR b s).1 (clauseR b s).2 w) := by
  have S0 := Aside0.mk (h.alloc (.cells #[.int .i64 0, .bool false, .int .i64 0, .int .i64 0, .int .i64 0, .int .i64 0, .slice none 0 0, .int .i64 0, .int .i64 0, .int .i64 0, .int .i64 0, .slice none 0 0] 100))
  have B0 := Aside0.mk (blk_new w (.cells #[.int .i64 0, .bool false, .int .i64 0, .int .i64 0, .int .i64 0, .int .i64 0, .slice none 0 0, .int .i64 0, .int .i64 0, .int .i64 0, .int .i64 0, .slice none 0 0] 100))
  have K0 := Aside0.mk (keep_alloc (KeepBut.refl w g none) (.cells #[.int .i64 0, .bool false, .int .i64 0, .int .i64 0, .int .i64 0, .int .i64 0, .slice none 0 0, .int .i64 0, .int .i64 0, .int .i64 0, .int .i64 0, .slice none 0 0] 100))
  have HG := Aside0.mk h.lt.1
  have Z0 := Aside0.mk (show w.heap.size < (w.alloc (.cells #[.int .i64 0, .bool false, .int .i64 0, .int .i64 0, .int .i64 0, .int .i64 0, .slice none 0 0, .int .i64 0, .int .i64 0, .int .i64 0, .int .i64 0, .slice none 0 0] 100)).heap.size by simp)
  clear h
  go_enter Try.func127, Try.ntmps127
  go_wp2_with fail
  generalize w.alloc (.cells #[.int .i64 0, .bool false, .int .i64 0, .int .i64 0, .int .i64 0, .int .i64 0, .slice none 0 0, .int .i64 0, .int .i64 0, .int .i64 0, .int .i64 0, .slice none 0 0] 100) = W0 at S0 B0 K0 Z0 ⊢
  go_at_call 93
  with_reducible refine (int_r S0.out).mono ?_
  intro e W1 hp
  obtain ⟨rfl, hR, hK⟩ := hp
  obtain ⟨x0, hx⟩ : ∃ x, (intR b s).1 = x := ⟨_, rfl⟩
  obtain ⟨t1, ht⟩ : ∃ t, (intR b s).2 = t := ⟨_, rfl⟩
  rw [ht] at hR
  rw [hx]
  have X0 := Aside0.mk hx
  have T1 := Aside0.mk ht
  have S1 := Aside0.mk hR
  have B1 := Aside0.mk (hK.blk B0.out (by have := HG.out; omega) (by simp))
  have K1 := Aside0.mk (K0.out.trans hK (.inl rfl))
  have Z1 := Aside0.mk (Nat.lt_of_lt_of_le Z0.out hK.1)
  clear hx ht hR hK
  go_wp2_with fail
  go_at_call 125
  with_reducible refine (flag_r S1.out).mono ?_
  intro e W2 hp
  obtain ⟨rfl, hR, hK⟩ := hp
  obtain ⟨x1, hx⟩ : ∃ x, (flagR b t1).1 = x := ⟨_, rfl⟩
  obtain ⟨t2, ht⟩ : ∃ t, (flagR b t1).2 = t := ⟨_, rfl⟩
  rw [ht] at hR
  rw [hx]
  have X1 := Aside0.mk hx
  have T2 := Aside0.mk ht
  have S2 := Aside0.mk hR
  have B2 := Aside0.mk (hK.blk B1.out (by have := HG.out; omega) (by simp))
  have K2 := Aside0.mk (K1.out.trans hK (.inl rfl))
  have Z2 := Aside0.mk (Nat.lt_of_lt_of_le Z1.out hK.1)
  clear hx ht hR hK
  go_wp2_with fail
  go_at_call 128
  with_reducible refine (expr_r S2.out).mono ?_
  intro e W3 hp
  obtain ⟨cs, rfl, hM, hR, hK⟩ := hp
  obtain ⟨x2, hx⟩ : ∃ x, (exprR b 64 t2).1 = x := ⟨_, rfl⟩
  obtain ⟨t3, ht⟩ : ∃ t, (exprR b 64 t2).2 = t := ⟨_, rfl⟩
  rw [ht] at hR
  rw [hx] at hM
  obtain ⟨v, rfl, hv⟩ := k80_openM hM
  obtain ⟨A2, c2, rfl⟩ := Kd.R_slice hv
  have X2 := Aside0.mk hx
  have T3 := Aside0.mk ht
  have S3 := Aside0.mk hR
  have B3 := Aside0.mk (hK.blk B2.out (by have := HG.out; omega) (by simp))
  have K3 := Aside0.mk (K2.out.trans hK (.inl rfl))
  have Z3 := Aside0.mk (Nat.lt_of_lt_of_le Z2.out hK.1)
  have V2 := Aside0.mk (Kd.R_lower (Kd.R_mono (Kd.R_bound hv) (fun k_ (hk : _ ∧ W2.heap.size ≤ k_ ∧ _) => (show w.heap.size < k_ from by have := Z2.out; have := hk.2.1; omega))) (show w.heap.size ≤ W2.heap.size from K2.out.1))
  clear hx ht hR hK hM hv
  go_wp2_with fail
  go_at_call 128
  with_reducible refine (expr_r S3.out).mono ?_
  intro e W4 hp
  obtain ⟨cs, rfl, hM, hR, hK⟩ := hp
  obtain ⟨x3, hx⟩ : ∃ x, (exprR b 64 t3).1 = x := ⟨_, rfl⟩
  obtain ⟨t4, ht⟩ : ∃ t, (exprR b 64 t3).2 = t := ⟨_, rfl⟩
  rw [ht] at hR
  rw [hx] at hM
  obtain ⟨v, rfl, hv⟩ := k80_openM hM
  obtain ⟨A3, c3, rfl⟩ := Kd.R_slice hv
  have X3 := Aside0.mk hx
  have T4 := Aside0.mk ht
  have S4 := Aside0.mk hR
  have B4 := Aside0.mk (hK.blk B3.out (by have := HG.out; omega) (by simp))
  have K4 := Aside0.mk (K3.out.trans hK (.inl rfl))
  have Z4 := Aside0.mk (Nat.lt_of_lt_of_le Z3.out hK.1)
  have V2 := Aside0.mk (Kd.R_keep V2.out hK (fun k_ hk => by have := HG.out; omega))
  have V3 := Aside0.mk (Kd.R_lower (Kd.R_mono (Kd.R_bound hv) (fun k_ (hk : _ ∧ W3.heap.size ≤ k_ ∧ _) => (show w.heap.size < k_ from by have := Z3.out; have := hk.2.1; omega))) (show w.heap.size ≤ W3.heap.size from K3.out.1))
  clear hx ht hR hK hM hv
  have k0_ := (blk_cell B4.out 0).trans rfl
  have f0_ := blk_frozen B4.out 0
  have k1_ := (blk_cell B4.out 1).trans rfl
  have f1_ := blk_frozen B4.out 1
  have k2_ := (blk_cell B4.out 2).trans rfl
  have f2_ := blk_frozen B4.out 2
  have k3_ := (blk_cell B4.out 3).trans rfl
  have f3_ := blk_frozen B4.out 3
  have k4_ := (blk_cell B4.out 4).trans rfl
  have f4_ := blk_frozen B4.out 4
  have k5_ := (blk_cell B4.out 5).trans rfl
  have f5_ := blk_frozen B4.out 5
  have k6_ := (blk_cell B4.out 6).trans rfl
  have f6_ := blk_frozen B4.out 6
  have k7_ := (blk_cell B4.out 7).trans rfl
  have f7_ := blk_frozen B4.out 7
  have k8_ := (blk_cell B4.out 8).trans rfl
  have f8_ := blk_frozen B4.out 8
  have k9_ := (blk_cell B4.out 9).trans rfl
  have f9_ := blk_frozen B4.out 9
  have k10_ := (blk_cell B4.out 10).trans rfl
  have f10_ := blk_frozen B4.out 10
  have k11_ := (blk_cell B4.out 11).trans rfl
  have f11_ := blk_frozen B4.out 11
  have hq := blk_lt B4.out
  go_wp2_with fail
  have hE := @item_end _ k100 Try.f127 2 100 (w0 := w0) (w := w) (wn := W4) (g := g) (q := w.heap.size) (b := b) (x := (⟨x0, x1, x2, x3⟩ : S100)) (s' := t4) (cs0 := #[.int .i64 0, .bool false, .int .i64 0, .int .i64 0, .int .i64 0, .int .i64 0, .slice none 0 0, .int .i64 0, .int .i64 0, .int .i64 0, .int .i64 0, .slice none 0 0]) (cs := [.int .i64 x0, .bool x1, .int .i64 x2.f0, .int .i64 x2.f1, .int .i64 x2.f2, .int .i64 x2.f3, .slice A2 x2.f4.length c2, .int .i64 x3.f0, .int .i64 x3.f1, .int .i64 x3.f2, .int .i64 x3.f3, .slice A3 x3.f4.length c3])
  simp only [sets, Nat.zero_add, Nat.reduceAdd] at hE
  have hI : clauseR b s = (⟨x0, x1, x2, x3⟩, t4) := by unfold clauseR; simp only [X0.out, T1.out, X1.out, T2.out, X2.out, T3.out, X3.out, T4.out]
  rw [hI]
  exact hE _ rfl (by rfl) (by rfl) Try.underlying100 (by kernel_rfl) B4.out rfl S4.out K4.out (Nat.le_refl _) HG.out (k100_mkM _ _ _ (⟨x0, x1, x2, x3⟩ : S100) (Kd.R_mono V2.out (fun k_ hk => by omega)) (Kd.R_mono V3.out (fun k_ hk => by omega)))
def lineR (b : List Int) (s : R3) : S77 × R3 := (⟨(textR b s).1, (flagR b (textR b s).2).1, (flagR b (flagR b (textR b s).2).2).1, (intR b (flagR b (flagR b (textR b s).2).2).2).1, (intR b (intR b (flagR b (flagR b (textR b s).2).2).2).2).1, (intR b (intR b (intR b (flagR b (flagR b (textR b s).2).2).2).2).2).1, (listR b (clauseR b) (intR b (intR b (intR b (flagR b (flagR b (textR b s).2).2).2).2).2).2).1⟩, (listR b (clauseR b) (intR b (intR b (intR b (flagR b (flagR b (textR b s).2).2).2).2).2).2).2)
set_option maxHeartbeats 4000000 in
theorem line_r {w0 w : World} {g : Nat} {b : List Int} {s : R3} (h : Rd w0 w g b s) : Calls Try.prog 101 #[.pointer (some ⟨g, 0, none⟩)] w (IP k77 w0 g b (lineR b s).1 (lineR b s).2 w) := by
  have S0 := Aside0.mk (h.alloc (.cells #[.string ⟨#[]⟩, .bool false, .bool false, .int .i64 0, .int .i64 0, .int .i64 0, .slice none 0 0] 77))
  have B0 := Aside0.mk (blk_new w (.cells #[.string ⟨#[]⟩, .bool false, .bool false, .int .i64 0, .int .i64 0, .int .i64 0, .slice none 0 0] 77))
  have K0 := Aside0.mk (keep_alloc (KeepBut.refl w g none) (.cells #[.string ⟨#[]⟩, .bool false, .bool false, .int .i64 0, .int .i64 0, .int .i64 0, .slice none 0 0] 77))
  have HG := Aside0.mk h.lt.1
  have Z0 := Aside0.mk (show w.heap.size < (w.alloc (.cells #[.string ⟨#[]⟩, .bool false, .bool false, .int .i64 0, .int .i64 0, .int .i64 0, .slice none 0 0] 77)).heap.size by simp)
  clear h
  go_enter Try.func101, Try.ntmps101
  go_wp2_with fail
  generalize w.alloc (.cells #[.string ⟨#[]⟩, .bool false, .bool false, .int .i64 0, .int .i64 0, .int .i64 0, .slice none 0 0] 77) = W0 at S0 B0 K0 Z0 ⊢
  go_at_call 92
  with_reducible refine (text_r S0.out).mono ?_
  intro e W1 hp
  obtain ⟨rfl, hR, hK⟩ := hp
  obtain ⟨x0, hx⟩ : ∃ x, (textR b s).1 = x := ⟨_, rfl⟩
  obtain ⟨t1, ht⟩ : ∃ t, (textR b s).2 = t := ⟨_, rfl⟩
  rw [ht] at hR
  rw [hx]
  have X0 := Aside0.mk hx
  have T1 := Aside0.mk ht
  have S1 := Aside0.mk hR
  have B1 := Aside0.mk (hK.blk B0.out (by have := HG.out; omega) (by simp))
  have K1 := Aside0.mk (K0.out.trans hK (.inl rfl))
  have Z1 := Aside0.mk (Nat.lt_of_lt_of_le Z0.out hK.1)
  clear hx ht hR hK
  go_wp2_with fail
  go_at_call 125
  with_reducible refine (flag_r S1.out).mono ?_
  intro e W2 hp
  obtain ⟨rfl, hR, hK⟩ := hp
  obtain ⟨x1, hx⟩ : ∃ x, (flagR b t1).1 = x := ⟨_, rfl⟩
  obtain ⟨t2, ht⟩ : ∃ t, (flagR b t1).2 = t := ⟨_, rfl⟩
  rw [ht] at hR
  rw [hx]
  have X1 := Aside0.mk hx
  have T2 := Aside0.mk ht
  have S2 := Aside0.mk hR
  have B2 := Aside0.mk (hK.blk B1.out (by have := HG.out; omega) (by simp))
  have K2 := Aside0.mk (K1.out.trans hK (.inl rfl))
  have Z2 := Aside0.mk (Nat.lt_of_lt_of_le Z1.out hK.1)
  clear hx ht hR hK
  go_wp2_with fail
  go_at_call 125
  with_reducible refine (flag_r S2.out).mono ?_
  intro e W3 hp
  obtain ⟨rfl, hR, hK⟩ := hp
  obtain ⟨x2, hx⟩ : ∃ x, (flagR b t2).1 = x := ⟨_, rfl⟩
  obtain ⟨t3, ht⟩ : ∃ t, (flagR b t2).2 = t := ⟨_, rfl⟩
  rw [ht] at hR
  rw [hx]
  have X2 := Aside0.mk hx
  have T3 := Aside0.mk ht
  have S3 := Aside0.mk hR
  have B3 := Aside0.mk (hK.blk B2.out (by have := HG.out; omega) (by simp))
  have K3 := Aside0.mk (K2.out.trans hK (.inl rfl))
  have Z3 := Aside0.mk (Nat.lt_of_lt_of_le Z2.out hK.1)
  clear hx ht hR hK
  go_wp2_with fail
  go_at_call 93
  with_reducible refine (int_r S3.out).mono ?_
  intro e W4 hp
  obtain ⟨rfl, hR, hK⟩ := hp
  obtain ⟨x3, hx⟩ : ∃ x, (intR b t3).1 = x := ⟨_, rfl⟩
  obtain ⟨t4, ht⟩ : ∃ t, (intR b t3).2 = t := ⟨_, rfl⟩
  rw [ht] at hR
  rw [hx]
  have X3 := Aside0.mk hx
  have T4 := Aside0.mk ht
  have S4 := Aside0.mk hR
  have B4 := Aside0.mk (hK.blk B3.out (by have := HG.out; omega) (by simp))
  have K4 := Aside0.mk (K3.out.trans hK (.inl rfl))
  have Z4 := Aside0.mk (Nat.lt_of_lt_of_le Z3.out hK.1)
  clear hx ht hR hK
  go_wp2_with fail
  go_at_call 93
  with_reducible refine (int_r S4.out).mono ?_
  intro e W5 hp
  obtain ⟨rfl, hR, hK⟩ := hp
  obtain ⟨x4, hx⟩ : ∃ x, (intR b t4).1 = x := ⟨_, rfl⟩
  obtain ⟨t5, ht⟩ : ∃ t, (intR b t4).2 = t := ⟨_, rfl⟩
  rw [ht] at hR
  rw [hx]
  have X4 := Aside0.mk hx
  have T5 := Aside0.mk ht
  have S5 := Aside0.mk hR
  have B5 := Aside0.mk (hK.blk B4.out (by have := HG.out; omega) (by simp))
  have K5 := Aside0.mk (K4.out.trans hK (.inl rfl))
  have Z5 := Aside0.mk (Nat.lt_of_lt_of_le Z4.out hK.1)
  clear hx ht hR hK
  go_wp2_with fail
  go_at_call 93
  with_reducible refine (int_r S5.out).mono ?_
  intro e W6 hp
  obtain ⟨rfl, hR, hK⟩ := hp
  obtain ⟨x5, hx⟩ : ∃ x, (intR b t5).1 = x := ⟨_, rfl⟩
  obtain ⟨t6, ht⟩ : ∃ t, (intR b t5).2 = t := ⟨_, rfl⟩
  rw [ht] at hR
  rw [hx]
  have X5 := Aside0.mk hx
  have T6 := Aside0.mk ht
  have S6 := Aside0.mk hR
  have B6 := Aside0.mk (hK.blk B5.out (by have := HG.out; omega) (by simp))
  have K6 := Aside0.mk (K5.out.trans hK (.inl rfl))
  have Z6 := Aside0.mk (Nat.lt_of_lt_of_le Z5.out hK.1)
  clear hx ht hR hK
  go_wp2_with fail
  go_at_call 126
  with_reducible refine (list126 w0 _ g b _ (fun _ => True) _ S6.out trivial (fun _ _ _ _ => trivial) (fun _ _ hr _ _ => clause_r hr)).mono ?_
  intro e W7 hp
  obtain ⟨v, rfl, hv, hR, hK⟩ := hp
  obtain ⟨x6, hx⟩ : ∃ x, (listR b (clauseR b) t6).1 = x := ⟨_, rfl⟩
  obtain ⟨t7, ht⟩ : ∃ t, (listR b (clauseR b) t6).2 = t := ⟨_, rfl⟩
  rw [ht] at hR
  rw [hx] at hv
  obtain ⟨A6, c6, rfl⟩ := Kd.R_slice hv
  have X6 := Aside0.mk hx
  have T7 := Aside0.mk ht
  have S7 := Aside0.mk hR
  have B7 := Aside0.mk (hK.blk B6.out (by have := HG.out; omega) (by simp))
  have K7 := Aside0.mk (K6.out.trans hK (.inl rfl))
  have Z7 := Aside0.mk (Nat.lt_of_lt_of_le Z6.out hK.1)
  have V6 := Aside0.mk (Kd.R_lower (Kd.R_mono (Kd.R_bound hv) (fun k_ (hk : _ ∧ W6.heap.size ≤ k_ ∧ _) => (show w.heap.size < k_ from by have := Z6.out; have := hk.2.1; omega))) (show w.heap.size ≤ W6.heap.size from K6.out.1))
  clear hx ht hR hK hv
  have k0_ := (blk_cell B7.out 0).trans rfl
  have f0_ := blk_frozen B7.out 0
  have k1_ := (blk_cell B7.out 1).trans rfl
  have f1_ := blk_frozen B7.out 1
  have k2_ := (blk_cell B7.out 2).trans rfl
  have f2_ := blk_frozen B7.out 2
  have k3_ := (blk_cell B7.out 3).trans rfl
  have f3_ := blk_frozen B7.out 3
  have k4_ := (blk_cell B7.out 4).trans rfl
  have f4_ := blk_frozen B7.out 4
  have k5_ := (blk_cell B7.out 5).trans rfl
  have f5_ := blk_frozen B7.out 5
  have k6_ := (blk_cell B7.out 6).trans rfl
  have f6_ := blk_frozen B7.out 6
  have hq := blk_lt B7.out
  go_wp2_with fail
  have hE := @item_end _ k77 Try.f101 2 77 (w0 := w0) (w := w) (wn := W7) (g := g) (q := w.heap.size) (b := b) (x := (⟨x0, x1, x2, x3, x4, x5, x6⟩ : S77)) (s' := t7) (cs0 := #[.string ⟨#[]⟩, .bool false, .bool false, .int .i64 0, .int .i64 0, .int .i64 0, .slice none 0 0]) (cs := [.string x0, .bool x1, .bool x2, .int .i64 x3, .int .i64 x4, .int .i64 x5, .slice A6 x6.length c6])
  simp only [sets, Nat.zero_add, Nat.reduceAdd] at hE
  have hI : lineR b s = (⟨x0, x1, x2, x3, x4, x5, x6⟩, t7) := by unfold lineR; simp only [X0.out, T1.out, X1.out, T2.out, X2.out, T3.out, X3.out, T4.out, X4.out, T5.out, X5.out, T6.out, X6.out, T7.out]
  rw [hI]
  exact hE _ rfl (by rfl) (by rfl) Try.underlying77 (by kernel_rfl) B7.out rfl S7.out K7.out (Nat.le_refl _) HG.out (k77_mkM _ _ _ (⟨x0, x1, x2, x3, x4, x5, x6⟩ : S77) (Kd.R_mono V6.out (fun k_ hk => by omega)))
def checkR (b : List Int) (s : R3) : S82 × R3 := (⟨(textR b s).1, (flagR b (textR b s).2).1, (intR b (flagR b (textR b s).2).2).1, (exprR b 64 (intR b (flagR b (textR b s).2).2).2).1, (textR b (exprR b 64 (intR b (flagR b (textR b s).2).2).2).2).1⟩, (textR b (exprR b 64 (intR b (flagR b (textR b s).2).2).2).2).2)
set_option maxHeartbeats 4000000 in
theorem check_r {w0 w : World} {g : Nat} {b : List Int} {s : R3} (h : Rd w0 w g b s) : Calls Try.prog 103 #[.pointer (some ⟨g, 0, none⟩)] w (IP k82 w0 g b (checkR b s).1 (checkR b s).2 w) := by
  have S0 := Aside0.mk (h.alloc (.cells #[.string ⟨#[]⟩, .bool false, .int .i64 0, .int .i64 0, .int .i64 0, .int .i64 0, .int .i64 0, .slice none 0 0, .string ⟨#[]⟩] 82))
  have B0 := Aside0.mk (blk_new w (.cells #[.string ⟨#[]⟩, .bool false, .int .i64 0, .int .i64 0, .int .i64 0, .int .i64 0, .int .i64 0, .slice none 0 0, .string ⟨#[]⟩] 82))
  have K0 := Aside0.mk (keep_alloc (KeepBut.refl w g none) (.cells #[.string ⟨#[]⟩, .bool false, .int .i64 0, .int .i64 0, .int .i64 0, .int .i64 0, .int .i64 0, .slice none 0 0, .string ⟨#[]⟩] 82))
  have HG := Aside0.mk h.lt.1
  have Z0 := Aside0.mk (show w.heap.size < (w.alloc (.cells #[.string ⟨#[]⟩, .bool false, .int .i64 0, .int .i64 0, .int .i64 0, .int .i64 0, .int .i64 0, .slice none 0 0, .string ⟨#[]⟩] 82)).heap.size by simp)
  clear h
  go_enter Try.func103, Try.ntmps103
  go_wp2_with fail
  generalize w.alloc (.cells #[.string ⟨#[]⟩, .bool false, .int .i64 0, .int .i64 0, .int .i64 0, .int .i64 0, .int .i64 0, .slice none 0 0, .string ⟨#[]⟩] 82) = W0 at S0 B0 K0 Z0 ⊢
  go_at_call 92
  with_reducible refine (text_r S0.out).mono ?_
  intro e W1 hp
  obtain ⟨rfl, hR, hK⟩ := hp
  obtain ⟨x0, hx⟩ : ∃ x, (textR b s).1 = x := ⟨_, rfl⟩
  obtain ⟨t1, ht⟩ : ∃ t, (textR b s).2 = t := ⟨_, rfl⟩
  rw [ht] at hR
  rw [hx]
  have X0 := Aside0.mk hx
  have T1 := Aside0.mk ht
  have S1 := Aside0.mk hR
  have B1 := Aside0.mk (hK.blk B0.out (by have := HG.out; omega) (by simp))
  have K1 := Aside0.mk (K0.out.trans hK (.inl rfl))
  have Z1 := Aside0.mk (Nat.lt_of_lt_of_le Z0.out hK.1)
  clear hx ht hR hK
  go_wp2_with fail
  go_at_call 125
  with_reducible refine (flag_r S1.out).mono ?_
  intro e W2 hp
  obtain ⟨rfl, hR, hK⟩ := hp
  obtain ⟨x1, hx⟩ : ∃ x, (flagR b t1).1 = x := ⟨_, rfl⟩
  obtain ⟨t2, ht⟩ : ∃ t, (flagR b t1).2 = t := ⟨_, rfl⟩
  rw [ht] at hR
  rw [hx]
  have X1 := Aside0.mk hx
  have T2 := Aside0.mk ht
  have S2 := Aside0.mk hR
  have B2 := Aside0.mk (hK.blk B1.out (by have := HG.out; omega) (by simp))
  have K2 := Aside0.mk (K1.out.trans hK (.inl rfl))
  have Z2 := Aside0.mk (Nat.lt_of_lt_of_le Z1.out hK.1)
  clear hx ht hR hK
  go_wp2_with fail
  go_at_call 93
  with_reducible refine (int_r S2.out).mono ?_
  intro e W3 hp
  obtain ⟨rfl, hR, hK⟩ := hp
  obtain ⟨x2, hx⟩ : ∃ x, (intR b t2).1 = x := ⟨_, rfl⟩
  obtain ⟨t3, ht⟩ : ∃ t, (intR b t2).2 = t := ⟨_, rfl⟩
  rw [ht] at hR
  rw [hx]
  have X2 := Aside0.mk hx
  have T3 := Aside0.mk ht
  have S3 := Aside0.mk hR
  have B3 := Aside0.mk (hK.blk B2.out (by have := HG.out; omega) (by simp))
  have K3 := Aside0.mk (K2.out.trans hK (.inl rfl))
  have Z3 := Aside0.mk (Nat.lt_of_lt_of_le Z2.out hK.1)
  clear hx ht hR hK
  go_wp2_with fail
  go_at_call 128
  with_reducible refine (expr_r S3.out).mono ?_
  intro e W4 hp
  obtain ⟨cs, rfl, hM, hR, hK⟩ := hp
  obtain ⟨x3, hx⟩ : ∃ x, (exprR b 64 t3).1 = x := ⟨_, rfl⟩
  obtain ⟨t4, ht⟩ : ∃ t, (exprR b 64 t3).2 = t := ⟨_, rfl⟩
  rw [ht] at hR
  rw [hx] at hM
  obtain ⟨v, rfl, hv⟩ := k80_openM hM
  obtain ⟨A3, c3, rfl⟩ := Kd.R_slice hv
  have X3 := Aside0.mk hx
  have T4 := Aside0.mk ht
  have S4 := Aside0.mk hR
  have B4 := Aside0.mk (hK.blk B3.out (by have := HG.out; omega) (by simp))
  have K4 := Aside0.mk (K3.out.trans hK (.inl rfl))
  have Z4 := Aside0.mk (Nat.lt_of_lt_of_le Z3.out hK.1)
  have V3 := Aside0.mk (Kd.R_lower (Kd.R_mono (Kd.R_bound hv) (fun k_ (hk : _ ∧ W3.heap.size ≤ k_ ∧ _) => (show w.heap.size < k_ from by have := Z3.out; have := hk.2.1; omega))) (show w.heap.size ≤ W3.heap.size from K3.out.1))
  clear hx ht hR hK hM hv
  go_wp2_with fail
  go_at_call 92
  with_reducible refine (text_r S4.out).mono ?_
  intro e W5 hp
  obtain ⟨rfl, hR, hK⟩ := hp
  obtain ⟨x4, hx⟩ : ∃ x, (textR b t4).1 = x := ⟨_, rfl⟩
  obtain ⟨t5, ht⟩ : ∃ t, (textR b t4).2 = t := ⟨_, rfl⟩
  rw [ht] at hR
  rw [hx]
  have X4 := Aside0.mk hx
  have T5 := Aside0.mk ht
  have S5 := Aside0.mk hR
  have B5 := Aside0.mk (hK.blk B4.out (by have := HG.out; omega) (by simp))
  have K5 := Aside0.mk (K4.out.trans hK (.inl rfl))
  have Z5 := Aside0.mk (Nat.lt_of_lt_of_le Z4.out hK.1)
  have V3 := Aside0.mk (Kd.R_keep V3.out hK (fun k_ hk => by have := HG.out; omega))
  clear hx ht hR hK
  have k0_ := (blk_cell B5.out 0).trans rfl
  have f0_ := blk_frozen B5.out 0
  have k1_ := (blk_cell B5.out 1).trans rfl
  have f1_ := blk_frozen B5.out 1
  have k2_ := (blk_cell B5.out 2).trans rfl
  have f2_ := blk_frozen B5.out 2
  have k3_ := (blk_cell B5.out 3).trans rfl
  have f3_ := blk_frozen B5.out 3
  have k4_ := (blk_cell B5.out 4).trans rfl
  have f4_ := blk_frozen B5.out 4
  have k5_ := (blk_cell B5.out 5).trans rfl
  have f5_ := blk_frozen B5.out 5
  have k6_ := (blk_cell B5.out 6).trans rfl
  have f6_ := blk_frozen B5.out 6
  have k7_ := (blk_cell B5.out 7).trans rfl
  have f7_ := blk_frozen B5.out 7
  have k8_ := (blk_cell B5.out 8).trans rfl
  have f8_ := blk_frozen B5.out 8
  have hq := blk_lt B5.out
  go_wp2_with fail
  have hE := @item_end _ k82 Try.f103 2 82 (w0 := w0) (w := w) (wn := W5) (g := g) (q := w.heap.size) (b := b) (x := (⟨x0, x1, x2, x3, x4⟩ : S82)) (s' := t5) (cs0 := #[.string ⟨#[]⟩, .bool false, .int .i64 0, .int .i64 0, .int .i64 0, .int .i64 0, .int .i64 0, .slice none 0 0, .string ⟨#[]⟩]) (cs := [.string x0, .bool x1, .int .i64 x2, .int .i64 x3.f0, .int .i64 x3.f1, .int .i64 x3.f2, .int .i64 x3.f3, .slice A3 x3.f4.length c3, .string x4])
  simp only [sets, Nat.zero_add, Nat.reduceAdd] at hE
  have hI : checkR b s = (⟨x0, x1, x2, x3, x4⟩, t5) := by unfold checkR; simp only [X0.out, T1.out, X1.out, T2.out, X2.out, T3.out, X3.out, T4.out, X4.out, T5.out]
  rw [hI]
  exact hE _ rfl (by rfl) (by rfl) Try.underlying82 (by kernel_rfl) B5.out rfl S5.out K5.out (Nat.le_refl _) HG.out (k82_mkM _ _ _ (⟨x0, x1, x2, x3, x4⟩ : S82) (Kd.R_mono V3.out (fun k_ hk => by omega)))
end Go.Proofs.Ytpbdkkahodaloaa.V
end

section
set_option linter.unusedVariables false
set_option linter.unusedSimpArgs false
namespace Go.Proofs.Ytpbdkkahodaloaa.V
open Go.RowKit Go.Proofs.Ytpbdkkahodaloaa.U Go.Proofs.Ytpbdkkahodaloaa.PS Go.Proofs.YtpbdkkahodaloaaW.PrintWords Go.Proofs.YtpbdkkahodaloaaW.PrintMore
set_option maxRecDepth 100000
theorem cut_sum (w : World) {A : Option Addr} {c : Nat} {b : List Int} (hC : Kd.C (Kd.int .u8) w A b.length b) (hcap : b.length ≤ c) (hlen : b.length ≤ 131072) (a : Int) (h0 : 0 ≤ a) (h1 : a ≤ b.length) :
    ∃ m2 c2, (∀ W, (Instr.slice 23 (.slice A b.length c) none (some (.int .i64 a)) none).run Try.prog W = .ok (.slice A m2 c2) W) ∧ ∀ j, Calls Try.prog 12 #[.slice A m2 c2] (w.drewN j) fun e w' => e = .returned (.int .u32 (sumI 2166136261 (b.take a.toNat))) ∧ ∃ m, w' = (w.drewN j).drewN m := by
  obtain ⟨i0, hi0, hz0, hz1, hz2⟩ := info_parts info5'
  refine ⟨_, _, cut_to 23 5 .i64 Try.underlying23 hi0 A b.length c a h0 h1 hcap, fun j => ?_⟩
  have hm := Kd.C_take (m := a.toNat) (Kd.C_drewN hC j) (by omega)
  have hl : (b.take a.toNat).length = a.toNat := by rw [List.length_take]; omega
  obtain ⟨k, hk⟩ := sum_any (b.take a.toNat) (by omega)
  have hs := pack_Sum.calls k A c (b.take a.toNat) _ (w.drewN j) hm (by omega) hk
  rw [hl] at hs
  refine hs.mono fun e w' ⟨he, hd⟩ => ?_
  obtain ⟨⟨m, hm⟩⟩ := hd
  exact ⟨he, m, hm⟩
def byt4 (n : Int) : Nat → Int
  | 0 => n % 256
  | 1 => n / 256 % 256
  | 2 => n / 65536 % 256
  | _ => n / 16777216 % 256
def chkR (b : List Int) (n : Int) (a : Int) : Nat → R3 → R3
  | 0, s => s
  | i + 1, s => if rd b (a + i) = byt4 n i then chkR b n a i s else failR 74 a (chkR b n a i s)
def sumR (b : List Int) (s : R3) : R3 :=
  if (b.length : Int) - s.at_ < 4 then shortR b s
  else if s.at_ + 4 < b.length then failR 73 (s.at_ + 4) (chkR b (sumI 2166136261 (b.take s.at_.toNat)) s.at_ 4 s) else chkR b (sumI 2166136261 (b.take s.at_.toNat)) s.at_ 4 s
theorem chkR_at (b : List Int) (n a : Int) : ∀ (i : Nat) (s : R3), (chkR b n a i s).at_ = s.at_
  | 0, s => rfl
  | i + 1, s => by
    unfold chkR
    split
    · exact chkR_at b n a i s
    · rw [failR_at]; exact chkR_at b n a i s
structure SumL (w0 w wr : World) (g : Nat) (b : List Int) (sn : Int) (s : R3) (j : Int) : Prop where
  which : j = 0 ∨ j = 1 ∨ j = 2 ∨ j = 3 ∨ j = 4
  rd : Rd w0 wr g b (chkR b sn s.at_ j.toNat s)
  keep : KeepBut w wr g none
set_option maxHeartbeats 8000000 in
theorem sum_r {w0 w : World} {g : Nat} {b : List Int} {s : R3} (h : Rd w0 w g b s) : Calls Try.prog 104 #[.pointer (some ⟨g, 0, none⟩)] w (RP w0 g b (sumR b s) (.tuple #[]) w) := by
  obtain ⟨a, er, bd⟩ := s
  obtain ⟨A, c, hb, hge, hC, hcap⟩ := h.is
  have c0 := cellS151_0 hb
  have c1 := cellS151_1 hb
  have hlen := h.len
  have ha0 : 0 ≤ a := h.good.lo
  have ha1 : a ≤ b.length := h.good.hi
  obtain ⟨m2, cc2, hs, hv⟩ := cut_sum w (Kd.C_below hC h.dat) hcap hlen a ha0 ha1
  obtain ⟨sn, hsn⟩ : ∃ sn, sumI 2166136261 (b.take a.toNat) = sn := ⟨_, rfl⟩
  rw [hsn] at hv
  have HV := Aside0.mk hv
  have HSN := Aside0.mk hsn
  have H0 := Aside0.mk h
  have HC := Aside0.mk hC
  clear hb hge hC hcap h hv hsn
  go_enter Try.func104, Try.ntmps104
  go_wp2_with fail
  go_quiet ((go_at_call 12; exact Calls.quiet_of (HV.out _)))
  have e1 : IntKind.i64.wrap ((b.length : Int) - a) = (b.length : Int) - a := by rw [IntKind.wrap_i64]; omega
  have H1 := Aside0.mk (H0.out.drewN nq)
  have K1 := Aside0.mk (keep_drewN (KeepBut.refl w g none) nq)
  by_cases hn : (b.length : Int) - a < 4
  · have HX := Aside0.mk (show sumR b ⟨a, er, bd⟩ = shortR b ⟨a, er, bd⟩ by unfold sumR; rw [if_pos hn])
    have hb1 : decide ((b.length : Int) - a < 4) = true := decide_eq_true hn
    go_wp2_with fail
    go_quiet (fail)
    go_wp2_with fail
    go_at_call 90
    with_reducible refine (short_r (Rd.drewN H0.out _)).mono ?_
    intro e w2 hp
    obtain ⟨rfl, hR, hK⟩ := hp
    have HR := Aside0.mk hR
    have HK := Aside0.mk ((keep_drewN (KeepBut.refl w g none) _).trans hK (.inl rfl))
    clear hR hK
    go_wp2_with fail
    refine bodyPost_ret (results_none rfl _ _ _) rfl ?_
    exact ⟨rfl, by rw [HX.out]; exact HR.out, HK.out⟩
  · have hb1 : decide ((b.length : Int) - a < 4) = false := decide_eq_false hn
    go_wp2_with fail
    go_quiet (fail)
    have R1 := Aside0.mk (H1.out.drewN nq)
    have Q1 := Aside0.mk (keep_drewN K1.out nq)
    go_wp2_with fail
    go_loopw [27] (fun v wr => ∃ j : Int, v = .int .i64 j ∧ Aside0 (SumL w0 w wr g b sn ⟨a, er, bd⟩ j)) (fun v _ => (4 - intOf v).toNat)
    case atStart => exact ⟨0, rfl, ⟨.inl rfl, R1.out, Q1.out⟩⟩
    case round =>
      obtain ⟨j, rfl, HL⟩ := hrel
      obtain ⟨A5, c5, hb5, hge5, hC5, hcap5⟩ := HL.out.rd.is
      have d0 := cellS151_0 hb5
      have d1 := cellS151_1 hb5
      rw [chkR_at] at d1
      have HC5 := Aside0.mk (Kd.C_below hC5 HL.out.rd.dat)
      clear hb5 hge5 hC5 hcap5
      rcases HL.out.which with hj | hj | hj | hj | hj
      · subst hj
        obtain ⟨ad2, hA, hx⟩ := Kd.at_int HC5.out a (by omega) (by omega)
        subst hA
        obtain ⟨x, hxx⟩ : ∃ x, rd b a = x := ⟨_, rfl⟩
        rw [hxx] at hx
        have e2 : IntKind.i64.wrap (a + 0) = a := by rw [IntKind.wrap_i64]; omega
        have HST := Aside0.mk (show chkR b sn a 1 ⟨a, er, bd⟩ = if x = sn % 256 then chkR b sn a 0 ⟨a, er, bd⟩ else failR 74 a (chkR b sn a 0 ⟨a, er, bd⟩) from by rw [← hxx]; show (if rd b (a + 0) = byt4 sn 0 then _ else _) = _; rw [Int.add_zero]; rfl)
        clear hxx
        by_cases hq : x = sn % 256
        · have hb2 : (x != sn % 256) = false := by simp [hq]
          have HQ := Aside0.mk (HST.out.trans (if_pos hq))
          clear hq HST
          go_wp2_with fail
          go_quiet (fail)
          go_wp2_with fail
          go_roundw
          case rel => exact ⟨1, rfl, ⟨⟨by omega, by show Rd w0 _ g b (chkR b sn a 1 ⟨a, er, bd⟩); rw [HQ.out]; exact HL.out.rd.drewN nq, keep_drewN HL.out.keep nq⟩⟩⟩
          case measure => decide
        · have hb2 : (x != sn % 256) = true := by simp [hq]
          have HQ := Aside0.mk (HST.out.trans (if_neg hq))
          clear hq HST
          go_wp2_with fail
          go_quiet (fail)
          go_wp2_with fail
          go_at_call 91
          with_reducible refine (fail_r (HL.out.rd.drewN nq) 74 a).mono ?_
          intro e w5 hp
          obtain ⟨rfl, hR, hK⟩ := hp
          have HR := Aside0.mk hR
          have HK := Aside0.mk ((keep_drewN HL.out.keep nq).trans hK (.inl rfl))
          clear hR hK
          go_wp2_with fail
          go_roundw
          case rel => exact ⟨1, rfl, ⟨⟨by omega, by show Rd w0 _ g b (chkR b sn a 1 ⟨a, er, bd⟩); rw [HQ.out]; exact HR.out, HK.out⟩⟩⟩
          case measure => decide
      · subst hj
        obtain ⟨ad2, hA, hx⟩ := Kd.at_int HC5.out (a + 1) (by omega) (by omega)
        subst hA
        obtain ⟨x, hxx⟩ : ∃ x, rd b (a + 1) = x := ⟨_, rfl⟩
        rw [hxx] at hx
        have e2 : IntKind.i64.wrap (a + 1) = (a + 1) := by rw [IntKind.wrap_i64]; omega
        have HST := Aside0.mk (show chkR b sn a 2 ⟨a, er, bd⟩ = if x = sn / 256 % 256 then chkR b sn a 1 ⟨a, er, bd⟩ else failR 74 a (chkR b sn a 1 ⟨a, er, bd⟩) from by rw [← hxx]; rfl)
        clear hxx
        by_cases hq : x = sn / 256 % 256
        · have hb2 : (x != sn / 256 % 256) = false := by simp [hq]
          have HQ := Aside0.mk (HST.out.trans (if_pos hq))
          clear hq HST
          go_wp2_with fail
          go_quiet (fail)
          go_wp2_with fail
          go_roundw
          case rel => exact ⟨2, rfl, ⟨⟨by omega, by show Rd w0 _ g b (chkR b sn a 2 ⟨a, er, bd⟩); rw [HQ.out]; exact HL.out.rd.drewN nq, keep_drewN HL.out.keep nq⟩⟩⟩
          case measure => decide
        · have hb2 : (x != sn / 256 % 256) = true := by simp [hq]
          have HQ := Aside0.mk (HST.out.trans (if_neg hq))
          clear hq HST
          go_wp2_with fail
          go_quiet (fail)
          go_wp2_with fail
          go_at_call 91
          with_reducible refine (fail_r (HL.out.rd.drewN nq) 74 a).mono ?_
          intro e w5 hp
          obtain ⟨rfl, hR, hK⟩ := hp
          have HR := Aside0.mk hR
          have HK := Aside0.mk ((keep_drewN HL.out.keep nq).trans hK (.inl rfl))
          clear hR hK
          go_wp2_with fail
          go_roundw
          case rel => exact ⟨2, rfl, ⟨⟨by omega, by show Rd w0 _ g b (chkR b sn a 2 ⟨a, er, bd⟩); rw [HQ.out]; exact HR.out, HK.out⟩⟩⟩
          case measure => decide
      · subst hj
        obtain ⟨ad2, hA, hx⟩ := Kd.at_int HC5.out (a + 2) (by omega) (by omega)
        subst hA
        obtain ⟨x, hxx⟩ : ∃ x, rd b (a + 2) = x := ⟨_, rfl⟩
        rw [hxx] at hx
        have e2 : IntKind.i64.wrap (a + 2) = (a + 2) := by rw [IntKind.wrap_i64]; omega
        have HST := Aside0.mk (show chkR b sn a 3 ⟨a, er, bd⟩ = if x = sn / 65536 % 256 then chkR b sn a 2 ⟨a, er, bd⟩ else failR 74 a (chkR b sn a 2 ⟨a, er, bd⟩) from by rw [← hxx]; rfl)
        clear hxx
        by_cases hq : x = sn / 65536 % 256
        · have hb2 : (x != sn / 65536 % 256) = false := by simp [hq]
          have HQ := Aside0.mk (HST.out.trans (if_pos hq))
          clear hq HST
          go_wp2_with fail
          go_quiet (fail)
          go_wp2_with fail
          go_roundw
          case rel => exact ⟨3, rfl, ⟨⟨by omega, by show Rd w0 _ g b (chkR b sn a 3 ⟨a, er, bd⟩); rw [HQ.out]; exact HL.out.rd.drewN nq, keep_drewN HL.out.keep nq⟩⟩⟩
          case measure => decide
        · have hb2 : (x != sn / 65536 % 256) = true := by simp [hq]
          have HQ := Aside0.mk (HST.out.trans (if_neg hq))
          clear hq HST
          go_wp2_with fail
          go_quiet (fail)
          go_wp2_with fail
          go_at_call 91
          with_reducible refine (fail_r (HL.out.rd.drewN nq) 74 a).mono ?_
          intro e w5 hp
          obtain ⟨rfl, hR, hK⟩ := hp
          have HR := Aside0.mk hR
          have HK := Aside0.mk ((keep_drewN HL.out.keep nq).trans hK (.inl rfl))
          clear hR hK
          go_wp2_with fail
          go_roundw
          case rel => exact ⟨3, rfl, ⟨⟨by omega, by show Rd w0 _ g b (chkR b sn a 3 ⟨a, er, bd⟩); rw [HQ.out]; exact HR.out, HK.out⟩⟩⟩
          case measure => decide
      · subst hj
        obtain ⟨ad2, hA, hx⟩ := Kd.at_int HC5.out (a + 3) (by omega) (by omega)
        subst hA
        obtain ⟨x, hxx⟩ : ∃ x, rd b (a + 3) = x := ⟨_, rfl⟩
        rw [hxx] at hx
        have e2 : IntKind.i64.wrap (a + 3) = (a + 3) := by rw [IntKind.wrap_i64]; omega
        have HST := Aside0.mk (show chkR b sn a 4 ⟨a, er, bd⟩ = if x = sn / 16777216 % 256 then chkR b sn a 3 ⟨a, er, bd⟩ else failR 74 a (chkR b sn a 3 ⟨a, er, bd⟩) from by rw [← hxx]; rfl)
        clear hxx
        by_cases hq : x = sn / 16777216 % 256
        · have hb2 : (x != sn / 16777216 % 256) = false := by simp [hq]
          have HQ := Aside0.mk (HST.out.trans (if_pos hq))
          clear hq HST
          go_wp2_with fail
          go_quiet (fail)
          go_wp2_with fail
          go_roundw
          case rel => exact ⟨4, rfl, ⟨⟨by omega, by show Rd w0 _ g b (chkR b sn a 4 ⟨a, er, bd⟩); rw [HQ.out]; exact HL.out.rd.drewN nq, keep_drewN HL.out.keep nq⟩⟩⟩
          case measure => decide
        · have hb2 : (x != sn / 16777216 % 256) = true := by simp [hq]
          have HQ := Aside0.mk (HST.out.trans (if_neg hq))
          clear hq HST
          go_wp2_with fail
          go_quiet (fail)
          go_wp2_with fail
          go_at_call 91
          with_reducible refine (fail_r (HL.out.rd.drewN nq) 74 a).mono ?_
          intro e w5 hp
          obtain ⟨rfl, hR, hK⟩ := hp
          have HR := Aside0.mk hR
          have HK := Aside0.mk ((keep_drewN HL.out.keep nq).trans hK (.inl rfl))
          clear hR hK
          go_wp2_with fail
          go_roundw
          case rel => exact ⟨4, rfl, ⟨⟨by omega, by show Rd w0 _ g b (chkR b sn a 4 ⟨a, er, bd⟩); rw [HQ.out]; exact HR.out, HK.out⟩⟩⟩
          case measure => decide
      · subst hj
        have e3 : IntKind.i64.wrap (a + 4) = a + 4 := by rw [IntKind.wrap_i64]; omega
        by_cases hq : a + 4 < b.length
        · have hb2 : decide (a + 4 < (b.length : Int)) = true := decide_eq_true hq
          have HX := Aside0.mk (show sumR b ⟨a, er, bd⟩ = failR 73 (a + 4) (chkR b sn a 4 ⟨a, er, bd⟩) by unfold sumR; rw [if_neg (show ¬ ((b.length : Int) - a < 4) by omega), if_pos hq, HSN.out])
          go_wp2_with fail
          go_quiet (fail)
          go_wp2_with fail
          go_at_call 91
          with_reducible refine (fail_r (HL.out.rd.drewN nq) 73 (a + 4)).mono ?_
          intro e w5 hp
          obtain ⟨rfl, hR, hK⟩ := hp
          have HR := Aside0.mk hR
          have HK := Aside0.mk ((keep_drewN HL.out.keep nq).trans hK (.inl rfl))
          clear hR hK
          go_wp2_with fail
          go_end0
          exact ⟨rfl, by rw [HX.out]; exact HR.out, HK.out⟩
        · have hb2 : decide (a + 4 < (b.length : Int)) = false := decide_eq_false hq
          have HX := Aside0.mk (show sumR b ⟨a, er, bd⟩ = chkR b sn a 4 ⟨a, er, bd⟩ by unfold sumR; rw [if_neg (show ¬ ((b.length : Int) - a < 4) by omega), if_neg hq, HSN.out])
          go_wp2_with fail
          go_quiet (fail)
          go_wp2_with fail
          go_end0
          exact ⟨rfl, by rw [HX.out]; exact HL.out.rd.drewN nq, keep_drewN HL.out.keep nq⟩
end Go.Proofs.Ytpbdkkahodaloaa.V
end

section
set_option linter.unusedVariables false
set_option linter.unusedSimpArgs false
namespace Go.Proofs.Ytpbdkkahodaloaa.V
open Go.RowKit Go.Proofs.Ytpbdkkahodaloaa.U Go.Proofs.Ytpbdkkahodaloaa.PS Go.Proofs.YtpbdkkahodaloaaW.PrintWords Go.Proofs.YtpbdkkahodaloaaW.PrintMore
set_option maxRecDepth 100000
def headBytes : List Int := [76, 86, 89, 49]
def swR (b : List Int) : R3 := if (b.length : Int) < 4 then shortR b ⟨0, 0, 0⟩ else if b.take 4 = headBytes then ⟨0, 0, 0⟩ else failR 71 0 ⟨0, 0, 0⟩
def startR (b : List Int) : R3 := ⟨if (b.length : Int) < 4 then b.length else 4, (swR b).err, (swR b).bad⟩
def packR (b : List Int) (s : R3) : Pk × R3 :=
  let t1 := textR b s
  let t2 := intR b t1.2
  let t3 := listR b (optionsR b) t2.2
  let t4 := listR b (tableR b) t3.2
  let t5 := listR b (groupR b) t4.2
  let t6 := listR b (lineR b) t5.2
  let t7 := listR b (checkR b) t6.2
  (⟨t1.1, t2.1, t3.1, t4.1, t5.1, t6.1, t7.1⟩, t7.2)
def noPk : Pk := ⟨⟨#[]⟩, 0, [], [], [], [], []⟩
def endR (b : List Int) (s : R3) : R3 := if s.err = 0 then sumR b s else s
def getS (b : List Int) : Pk × Int × Int :=
  if 131072 < b.length then (noPk, 0, 72)
  else if (endR b (packR b (startR b)).2).err = 0 then ((packR b (startR b)).1, 0, 0) else (noPk, (endR b (packR b (startR b)).2).bad, (endR b (packR b (startR b)).2).err)
def GetPost (b : List Int) (w : World) (e : Ending) (w' : World) : Prop := ∃ v2 v3 v4 v5 v6, e = .returned (.tuple #[.agg #[.string (getS b).1.name, .int .i64 (getS b).1.year, v2, v3, v4, v5, v6], .int .i64 (getS b).2.1, .int .i64 (getS b).2.2]) ∧
  Kd.R k97 97 w' w.heap.size (fun _ => True) v2 (getS b).1.options ∧ Kd.R k72 72 w' w.heap.size (fun _ => True) v3 (getS b).1.tables ∧ Kd.R k69 69 w' w.heap.size (fun _ => True) v4 (getS b).1.groups ∧ Kd.R k77 77 w' w.heap.size (fun _ => True) v5 (getS b).1.lines ∧ Kd.R k82 82 w' w.heap.size (fun _ => True) v6 (getS b).1.checks ∧ Below w.heap.size w w'
theorem rd_start (w : World) {A : Option Addr} {c : Nat} {b : List Int} (hC : Kd.C (Kd.int .u8) w A b.length b) (hcap : b.length ≤ c) (hb : bytes b) (hl : b.length ≤ 131072) (o : Obj) :
    Rd w ((w.alloc o).alloc (.cells #[.slice A b.length c, .int .i64 0, .int .i64 0, .int .i64 0] 151)) (w.heap.size + 1) b ⟨0, 0, 0⟩ := by
  refine ⟨⟨A, c, ?_, by omega, hC, hcap⟩, below_alloc (below_alloc (Below.refl _ _) _) _, ⟨Int.le_refl 0, by show (0 : Int) ≤ _; omega⟩, hb, hl⟩
  have := blk_new (w.alloc o) (.cells #[.slice A b.length c, .int .i64 0, .int .i64 0, .int .i64 0] 151)
  rwa [World.size_alloc] at this
theorem strOfNums_head (b : List Int) (hb : bytes b) (h4 : 4 ≤ b.length) : ((strOfNums (b.take 4)).toList == [76, 86, 89, 49]) = decide (b.take 4 = headBytes) := by
  rw [show (strOfNums (b.take 4)).toList = (b.take 4).map (fun n => UInt8.ofNat n.toNat) from (ByteArray.toList_eq _).trans rfl]
  match b, h4, hb with
  | x0 :: x1 :: x2 :: x3 :: t, _, hb =>
    have h0 : 0 ≤ x0 ∧ x0 < 256 := by have := hb x0 (by simp); omega
    have h1 : 0 ≤ x1 ∧ x1 < 256 := by have := hb x1 (by simp); omega
    have h2 : 0 ≤ x2 ∧ x2 < 256 := by have := hb x2 (by simp); omega
    have h3 : 0 ≤ x3 ∧ x3 < 256 := by have := hb x3 (by simp); omega
    show ([UInt8.ofNat x0.toNat, UInt8.ofNat x1.toNat, UInt8.ofNat x2.toNat, UInt8.ofNat x3.toNat] == ([76, 86, 89, 49] : List UInt8)) = decide ([x0, x1, x2, x3] = [76, 86, 89, 49])
    have key : ∀ (x : Int) (k : Nat), 0 ≤ x ∧ x < 256 → k < 256 → (UInt8.ofNat x.toNat = UInt8.ofNat k ↔ x = (k : Int)) := by
      intro x k hx hk
      constructor
      · intro h
        have := congrArg UInt8.toNat h
        simp only [UInt8.toNat_ofNat'] at this
        omega
      · intro h; subst h; rfl
    have k0 := key x0 76 h0 (by omega)
    have k1 := key x1 86 h1 (by omega)
    have k2 := key x2 89 h2 (by omega)
    have k3 := key x3 49 h3 (by omega)
    by_cases hq : [x0, x1, x2, x3] = [76, 86, 89, 49]
    · rw [decide_eq_true hq]
      simp only [List.cons.injEq] at hq
      obtain ⟨rfl, rfl, rfl, rfl, _⟩ := hq
      rfl
    · rw [decide_eq_false hq]
      simp only [List.cons.injEq] at hq
      refine beq_eq_false_iff_ne.2 fun h => hq ?_
      simp only [List.cons.injEq] at h
      exact ⟨k0.1 h.1, k1.1 h.2.1, k2.1 h.2.2.1, k3.1 h.2.2.2.1, trivial⟩
theorem results_get {fn : Func} (h : fn.results = #[.cell 2 33, .tmp 3, .tmp 4]) (tmps : Array Value) (w : World) (g : Nat) (cs : Array Value) (x y : Value) (h2 : tmps.getD 2 undef = .pointer (some ⟨g, 0, none⟩)) (h3 : tmps.getD 3 undef = x) (h4 : tmps.getD 4 undef = y)
    (hg : w.heap[g]? = some (.cells cs 33 (0, 0))) (hi : (Try.prog.info? 33).map (·.size) = some cs.size) : (results fn tmps).run Try.prog w = .ok (.tuple #[.agg cs, x, y]) w := by
  have h2' : tmps[2]?.getD undef = .pointer (some ⟨g, 0, none⟩) := by simpa using h2
  have h3' : tmps[3]?.getD undef = x := by simpa using h3
  have h4' : tmps[4]?.getD undef = y := by simpa using h4
  simp [results, h, h2', h3', h4', asAddr, run_loadVar_row w g 33 33 cs (0, 0) _ hg Try.underlying33 rfl hi]
theorem below_sets {w wn : World} (h : Below w.heap.size w wn) {q : Nat} (hq : w.heap.size ≤ q) (cs : List Value) (i : Nat) : Below w.heap.size w (sets wn q i cs) := by
  obtain ⟨o1, o2, o3⟩ := sets_os q cs wn i
  exact ⟨o1.trans h.os, o2.trans h.tape, o3.trans h.output, by rw [sets_size]; exact h.size, fun k hk => (sets_far q cs wn i k (by omega)).trans (h.block k hk)⟩
theorem get_end {b : List Int} {w wn : World} {a : Act} {cs0 : Array Value} {x0 : ByteArray} {x1 : Int} {v2 v3 v4 v5 v6 : Value} {x2 : List S97} {x3 : List S72} {x4 : List S69} {x5 : List S77} {x6 : List S82}
    (hg : getS b = (⟨x0, x1, x2, x3, x4, x5, x6⟩, 0, 0)) (h2 : a.tmps.getD 2 undef = .pointer (some ⟨w.heap.size, 0, none⟩)) (h3 : a.tmps.getD 3 undef = .int .i64 0) (h4 : a.tmps.getD 4 undef = .int .i64 0) (hd : a.defers = [])
    (hb : wn.heap[w.heap.size]? = some (.cells cs0 33 (0, 0))) (hs : cs0.size = 7) (hB : Below w.heap.size w wn)
    (V2 : Kd.R k97 97 wn w.heap.size (fun k => w.heap.size + 1 < k) v2 x2) (V3 : Kd.R k72 72 wn w.heap.size (fun k => w.heap.size + 1 < k) v3 x3) (V4 : Kd.R k69 69 wn w.heap.size (fun k => w.heap.size + 1 < k) v4 x4) (V5 : Kd.R k77 77 wn w.heap.size (fun k => w.heap.size + 1 < k) v5 x5) (V6 : Kd.R k82 82 wn w.heap.size (fun k => w.heap.size + 1 < k) v6 x6) :
    bodyPost Try.prog Try.f24 (GetPost b w) .ret a (sets wn w.heap.size 0 [.string x0, .int .i64 x1, v2, v3, v4, v5, v6]) := by
  refine bodyPost_ret (results_get rfl _ _ w.heap.size #[.string x0, .int .i64 x1, v2, v3, v4, v5, v6] _ _ h2 h3 h4 (sets_all hb hs) (by kernel_rfl)) hd ?_
  refine ⟨v2, v3, v4, v5, v6, by rw [hg], ?_, ?_, ?_, ?_, ?_, below_sets hB (Nat.le_refl _) _ _⟩
  all_goals rw [hg]
  · exact Kd.R_mono (Kd.R_step V2 (fun k hk _ => sets_far _ _ _ _ _ (by omega))) (fun _ _ => trivial)
  · exact Kd.R_mono (Kd.R_step V3 (fun k hk _ => sets_far _ _ _ _ _ (by omega))) (fun _ _ => trivial)
  · exact Kd.R_mono (Kd.R_step V4 (fun k hk _ => sets_far _ _ _ _ _ (by omega))) (fun _ _ => trivial)
  · exact Kd.R_mono (Kd.R_step V5 (fun k hk _ => sets_far _ _ _ _ _ (by omega))) (fun _ _ => trivial)
  · exact Kd.R_mono (Kd.R_step V6 (fun k hk _ => sets_far _ _ _ _ _ (by omega))) (fun _ _ => trivial)
def cs7 : List Value := [.string ⟨#[]⟩, .int .i64 0, .slice none 0 0, .slice none 0 0, .slice none 0 0, .slice none 0 0, .slice none 0 0]
theorem bad_post {b : List Int} {w wn : World} {er bd : Int} (hg : getS b = (noPk, bd, er)) (hB : Below w.heap.size w wn) : GetPost b w (.returned (.tuple #[.agg #[.string ⟨#[]⟩, .int .i64 0, .slice none 0 0, .slice none 0 0, .slice none 0 0, .slice none 0 0, .slice none 0 0], .int .i64 bd, .int .i64 er])) wn := by
  refine ⟨.slice none 0 0, .slice none 0 0, .slice none 0 0, .slice none 0 0, .slice none 0 0, by rw [hg]; rfl, ?_, ?_, ?_, ?_, ?_, hB⟩
  all_goals rw [hg]
  all_goals exact Kd.R_nil _ _ _ _ _
theorem get_end0 {b : List Int} {w wn : World} {a : Act} {cs0 : Array Value} {er bd : Int}
    (hg : getS b = (noPk, bd, er)) (h2 : a.tmps.getD 2 undef = .pointer (some ⟨w.heap.size, 0, none⟩)) (h3 : a.tmps.getD 3 undef = .int .i64 bd) (h4 : a.tmps.getD 4 undef = .int .i64 er) (hd : a.defers = [])
    (hb : wn.heap[w.heap.size]? = some (.cells cs0 33 (0, 0))) (hs : cs0.size = 7) (hB : Below w.heap.size w wn) :
    bodyPost Try.prog Try.f24 (GetPost b w) .ret a (sets wn w.heap.size 0 cs7).drew := by
  refine bodyPost_ret (results_get rfl _ _ w.heap.size #[.string ⟨#[]⟩, .int .i64 0, .slice none 0 0, .slice none 0 0, .slice none 0 0, .slice none 0 0, .slice none 0 0] _ _ h2 h3 h4 (blk_drew (sets_all hb hs)) (by kernel_rfl)) hd ?_
  exact bad_post hg (below_drew (below_sets hB (Nat.le_refl _) _ _))
attribute [local go_sem] max2_int min2_int max_two min_two max_three min_three max_four min_four
set_option maxHeartbeats 8000000 in
theorem get_walk (b : List Int) (A : Option Addr) (c : Nat) (w : World) (hC : Kd.C (Kd.int .u8) w A b.length b) (hcap : b.length ≤ c) (hb : bytes b) :
    Calls Try.prog 24 #[.slice A b.length c] w (GetPost b w) := by
  by_cases hl : 131072 < b.length
  · have hb1 : decide ((131072 : Int) < (b.length : Int)) = true := decide_eq_true (by omega)
    have hgs : getS b = (noPk, 0, 72) := by unfold getS; rw [if_pos hl]
    have hl3 : (131072 : Int) < (b.length : Int) := by omega
    have B0 := Aside0.mk (blk_new w (.cells #[.string ⟨#[]⟩, .int .i64 0, .slice none 0 0, .slice none 0 0, .slice none 0 0, .slice none 0 0, .slice none 0 0] 33))
    clear hC hcap hb
    go_enter Try.func24, Try.ntmps24
    go_wp2_with fail
    refine bodyPost_ret (results_get rfl _ _ w.heap.size #[.string ⟨#[]⟩, .int .i64 0, .slice none 0 0, .slice none 0 0, .slice none 0 0, .slice none 0 0, .slice none 0 0] _ _ rfl rfl rfl B0.out (by kernel_rfl)) rfl ?_
    exact bad_post hgs (below_alloc (Below.refl _ _) _)
  · have hb1 : decide ((131072 : Int) < (b.length : Int)) = false := decide_eq_false (by omega)
    have H0 := Aside0.mk (rd_start w hC hcap hb (by omega) (.cells #[.string ⟨#[]⟩, .int .i64 0, .slice none 0 0, .slice none 0 0, .slice none 0 0, .slice none 0 0, .slice none 0 0] 33))
    have B0 := Aside0.mk (blk_alloc (blk_new w (.cells #[.string ⟨#[]⟩, .int .i64 0, .slice none 0 0, .slice none 0 0, .slice none 0 0, .slice none 0 0, .slice none 0 0] 33)) (.cells #[.slice A b.length c, .int .i64 0, .int .i64 0, .int .i64 0] 151))
    have HC := Aside0.mk hC
    have HCAP := Aside0.mk hcap
    have HBY := Aside0.mk hb
    have hlen : b.length ≤ 131072 := by omega
    have hl2 : ¬ (131072 : Int) < (b.length : Int) := by omega
    clear hC hcap hb hl
    go_enter Try.func24, Try.ntmps24
    go_upto_block 0 with (fail)
    generalize (w.alloc (.cells #[.string ⟨#[]⟩, .int .i64 0, .slice none 0 0, .slice none 0 0, .slice none 0 0, .slice none 0 0, .slice none 0 0] 33)).alloc (.cells #[.slice A b.length c, .int .i64 0, .int .i64 0, .int .i64 0] 151) = W at H0 B0 ⊢
    go_cut [5] (fun s5 wc => s5 = .pointer (some ⟨w.heap.size + 1, 0, none⟩) ∧ Aside0 (Rd w wc (w.heap.size + 1) b (swR b) ∧ wc.heap[w.heap.size]? = some (.cells #[.string ⟨#[]⟩, .int .i64 0, .slice none 0 0, .slice none 0 0, .slice none 0 0, .slice none 0 0, .slice none 0 0] 33 (0, 0))))
    case first =>
      by_cases h4 : (b.length : Int) < 4
      · have hb2 : decide ((b.length : Int) < 4) = true := decide_eq_true h4
        have HS := Aside0.mk (show swR b = shortR b ⟨0, 0, 0⟩ by unfold swR; rw [if_pos h4])
        go_wp2_with fail
        go_at_call 90
        with_reducible refine (short_r H0.out).mono ?_
        intro e W2 hp
        obtain ⟨rfl, hR, hK⟩ := hp
        have HR := Aside0.mk hR
        have B1 := Aside0.mk (hK.blk B0.out (by omega) (by simp))
        clear hR hK
        go_wp2_with fail
        go_meet
        exact ⟨rfl, ⟨by rw [HS.out]; exact HR.out, B1.out⟩⟩
      · have hb2 : decide ((b.length : Int) < 4) = false := decide_eq_false h4
        have hcv := Kd.C_string (P := Try.prog) (c := c) Try.underlying23 Try.underlying5 Try.underlying9 (Kd.C_take (m := 4) (Kd.C_below HC.out H0.out.dat) (by omega))
        rw [show (b.take 4).length = 4 by rw [List.length_take]; omega] at hcv
        have hST := strOfNums_head b HBY.out (by omega)
        have hc4 : (4 : Int) ≤ c := by have := HCAP.out; omega
        by_cases hh : b.take 4 = headBytes
        · have HS := Aside0.mk (show swR b = ⟨0, 0, 0⟩ by unfold swR; rw [if_neg h4, if_pos hh])
          have hb3 : (!(strOfNums (b.take 4)).toList == [76, 86, 89, 49]) = false := by rw [hST, decide_eq_true hh]; rfl
          clear hh hST
          go_wp2_with fail
          go_meet
          exact ⟨rfl, ⟨by rw [HS.out]; exact H0.out, B0.out⟩⟩
        · have HS := Aside0.mk (show swR b = failR 71 0 ⟨0, 0, 0⟩ by unfold swR; rw [if_neg h4, if_neg hh])
          have hb3 : (!(strOfNums (b.take 4)).toList == [76, 86, 89, 49]) = true := by rw [hST, decide_eq_false hh]; rfl
          clear hh hST
          go_wp2_with fail
          go_at_call 91
          with_reducible refine (fail_r H0.out 71 0).mono ?_
          intro e W2 hp
          obtain ⟨rfl, hR, hK⟩ := hp
          have HR := Aside0.mk hR
          have B1 := Aside0.mk (hK.blk B0.out (by omega) (by simp))
          clear hR hK
          go_wp2_with fail
          go_meet
          exact ⟨rfl, ⟨by rw [HS.out]; exact HR.out, B1.out⟩⟩
    case rest =>
    obtain ⟨rfl, HR⟩ := hcut
    have B1 := Aside0.mk HR.out.2
    have S1 := Aside0.mk HR.out.1
    clear HR H0 B0
    obtain ⟨A2, c2, hb2, hge2, hC2, hcap2⟩ := S1.out.is
    obtain ⟨a1, ha1⟩ : ∃ x, (swR b).at_ = x := ⟨_, rfl⟩
    rw [ha1] at hb2
    have d0 := cellS151_0 hb2
    have d1 := cellS151_1 hb2
    have f1_ : wc.frozen? ⟨w.heap.size + 1, 1, none⟩ = false := blk_frozen hb2 1
    have hmin : (if (4 : Int) < (b.length : Int) then (4 : Int) else (b.length : Int)) = (startR b).at_ := by
      show _ = (if (b.length : Int) < 4 then ((b.length : Nat) : Int) else (4 : Int))
      split <;> split <;> omega
    clear hb2 hge2 hC2 hcap2 ha1
    have hs0 : 0 ≤ (startR b).at_ ∧ (startR b).at_ ≤ b.length := by
      show 0 ≤ (if (b.length : Int) < 4 then ((b.length : Nat) : Int) else (4 : Int)) ∧ (if (b.length : Int) < 4 then ((b.length : Nat) : Int) else (4 : Int)) ≤ b.length
      split <;> omega
    go_wp2_with fail
    have S0 := Aside0.mk (show Rd w (wc.setCell ⟨w.heap.size + 1, 1, none⟩ (.int .i64 (startR b).at_)) (w.heap.size + 1) b (startR b) from S1.out.move (startR b).at_ hs0.1 hs0.2)
    have B0 := Aside0.mk (blk_far B1.out (show w.heap.size ≠ w.heap.size + 1 by omega) (.int .i64 (startR b).at_) (p := ⟨w.heap.size + 1, 1, none⟩))
    have Z0 := Aside0.mk S0.out.lt.1
    clear S1 B1 d0 d1 f1_ hmin hs0
    generalize wc.setCell ⟨w.heap.size + 1, 1, none⟩ (.int .i64 (startR b).at_) = W0 at S0 B0 Z0 ⊢
    obtain ⟨t0, ht⟩ : ∃ t, startR b = t := ⟨_, rfl⟩
    rw [ht] at S0
    have T0 := Aside0.mk ht
    clear ht
    go_at_call 92
    with_reducible refine (text_r S0.out).mono ?_
    intro e W1 hp
    obtain ⟨rfl, hR, hK⟩ := hp
    obtain ⟨x0, hx⟩ : ∃ x, (textR b t0).1 = x := ⟨_, rfl⟩
    obtain ⟨t1, ht⟩ : ∃ t, (textR b t0).2 = t := ⟨_, rfl⟩
    rw [ht] at hR
    rw [hx]
    have X0 := Aside0.mk hx
    have T1 := Aside0.mk ht
    have S1 := Aside0.mk hR
    have B1 := Aside0.mk (hK.blk B0.out (by omega) (by simp))
    have Z1 := Aside0.mk (Nat.lt_of_lt_of_le Z0.out hK.1)
    clear hx ht hR hK
    go_wp2_with fail
    go_at_call 93
    with_reducible refine (int_r S1.out).mono ?_
    intro e W2 hp
    obtain ⟨rfl, hR, hK⟩ := hp
    obtain ⟨x1, hx⟩ : ∃ x, (intR b t1).1 = x := ⟨_, rfl⟩
    obtain ⟨t2, ht⟩ : ∃ t, (intR b t1).2 = t := ⟨_, rfl⟩
    rw [ht] at hR
    rw [hx]
    have X1 := Aside0.mk hx
    have T2 := Aside0.mk ht
    have S2 := Aside0.mk hR
    have B2 := Aside0.mk (hK.blk B1.out (by omega) (by simp))
    have Z2 := Aside0.mk (Nat.lt_of_lt_of_le Z1.out hK.1)
    clear hx ht hR hK
    go_wp2_with fail
    go_at_call 94
    with_reducible refine (list94 w _ _ b _ (fun _ => True) _ S2.out trivial (fun _ _ _ _ => trivial) (fun _ _ hr _ _ => options_r hr)).mono ?_
    intro e W3 hp
    obtain ⟨v, rfl, hv, hR, hK⟩ := hp
    obtain ⟨x2, hx⟩ : ∃ x, (listR b (optionsR b) t2).1 = x := ⟨_, rfl⟩
    obtain ⟨t3, ht⟩ : ∃ t, (listR b (optionsR b) t2).2 = t := ⟨_, rfl⟩
    rw [ht] at hR
    rw [hx] at hv
    obtain ⟨A2, c2, rfl⟩ := Kd.R_slice hv
    have X2 := Aside0.mk hx
    have T3 := Aside0.mk ht
    have S3 := Aside0.mk hR
    have B3 := Aside0.mk (hK.blk B2.out (by omega) (by simp))
    have Z3 := Aside0.mk (Nat.lt_of_lt_of_le Z2.out hK.1)
    have V2 := Aside0.mk (Kd.R_lower (Kd.R_mono (Kd.R_bound hv) (fun k_ (hk : _ ∧ W2.heap.size ≤ k_ ∧ _) => (show w.heap.size + 1 < k_ from by have := Z2.out; have := hk.2.1; omega))) (show w.heap.size ≤ W2.heap.size from by have := Z2.out; omega))
    clear hx ht hR hK hv
    go_wp2_with fail
    go_at_call 96
    with_reducible refine (list96 w _ _ b _ (fun _ => True) _ S3.out trivial (fun _ _ _ _ => trivial) (fun _ _ hr _ _ => table_r hr)).mono ?_
    intro e W4 hp
    obtain ⟨v, rfl, hv, hR, hK⟩ := hp
    obtain ⟨x3, hx⟩ : ∃ x, (listR b (tableR b) t3).1 = x := ⟨_, rfl⟩
    obtain ⟨t4, ht⟩ : ∃ t, (listR b (tableR b) t3).2 = t := ⟨_, rfl⟩
    rw [ht] at hR
    rw [hx] at hv
    obtain ⟨A3, c3, rfl⟩ := Kd.R_slice hv
    have X3 := Aside0.mk hx
    have T4 := Aside0.mk ht
    have S4 := Aside0.mk hR
    have B4 := Aside0.mk (hK.blk B3.out (by omega) (by simp))
    have Z4 := Aside0.mk (Nat.lt_of_lt_of_le Z3.out hK.1)
    have V2 := Aside0.mk (Kd.R_keep V2.out hK (fun k_ hk => by omega))
    have V3 := Aside0.mk (Kd.R_lower (Kd.R_mono (Kd.R_bound hv) (fun k_ (hk : _ ∧ W3.heap.size ≤ k_ ∧ _) => (show w.heap.size + 1 < k_ from by have := Z3.out; have := hk.2.1; omega))) (show w.heap.size ≤ W3.heap.size from by have := Z3.out; omega))
    clear hx ht hR hK hv
    go_wp2_with fail
    go_at_call 98
    with_reducible refine (list98 w _ _ b _ (fun _ => True) _ S4.out trivial (fun _ _ _ _ => trivial) (fun _ _ hr _ _ => group_r hr)).mono ?_
    intro e W5 hp
    obtain ⟨v, rfl, hv, hR, hK⟩ := hp
    obtain ⟨x4, hx⟩ : ∃ x, (listR b (groupR b) t4).1 = x := ⟨_, rfl⟩
    obtain ⟨t5, ht⟩ : ∃ t, (listR b (groupR b) t4).2 = t := ⟨_, rfl⟩
    rw [ht] at hR
    rw [hx] at hv
    obtain ⟨A4, c4, rfl⟩ := Kd.R_slice hv
    have X4 := Aside0.mk hx
    have T5 := Aside0.mk ht
    have S5 := Aside0.mk hR
    have B5 := Aside0.mk (hK.blk B4.out (by omega) (by simp))
    have Z5 := Aside0.mk (Nat.lt_of_lt_of_le Z4.out hK.1)
    have V2 := Aside0.mk (Kd.R_keep V2.out hK (fun k_ hk => by omega))
    have V3 := Aside0.mk (Kd.R_keep V3.out hK (fun k_ hk => by omega))
    have V4 := Aside0.mk (Kd.R_lower (Kd.R_mono (Kd.R_bound hv) (fun k_ (hk : _ ∧ W4.heap.size ≤ k_ ∧ _) => (show w.heap.size + 1 < k_ from by have := Z4.out; have := hk.2.1; omega))) (show w.heap.size ≤ W4.heap.size from by have := Z4.out; omega))
    clear hx ht hR hK hv
    go_wp2_with fail
    go_at_call 100
    with_reducible refine (list100 w _ _ b _ (fun _ => True) _ S5.out trivial (fun _ _ _ _ => trivial) (fun _ _ hr _ _ => line_r hr)).mono ?_
    intro e W6 hp
    obtain ⟨v, rfl, hv, hR, hK⟩ := hp
    obtain ⟨x5, hx⟩ : ∃ x, (listR b (lineR b) t5).1 = x := ⟨_, rfl⟩
    obtain ⟨t6, ht⟩ : ∃ t, (listR b (lineR b) t5).2 = t := ⟨_, rfl⟩
    rw [ht] at hR
    rw [hx] at hv
    obtain ⟨A5, c5, rfl⟩ := Kd.R_slice hv
    have X5 := Aside0.mk hx
    have T6 := Aside0.mk ht
    have S6 := Aside0.mk hR
    have B6 := Aside0.mk (hK.blk B5.out (by omega) (by simp))
    have Z6 := Aside0.mk (Nat.lt_of_lt_of_le Z5.out hK.1)
    have V2 := Aside0.mk (Kd.R_keep V2.out hK (fun k_ hk => by omega))
    have V3 := Aside0.mk (Kd.R_keep V3.out hK (fun k_ hk => by omega))
    have V4 := Aside0.mk (Kd.R_keep V4.out hK (fun k_ hk => by omega))
    have V5 := Aside0.mk (Kd.R_lower (Kd.R_mono (Kd.R_bound hv) (fun k_ (hk : _ ∧ W5.heap.size ≤ k_ ∧ _) => (show w.heap.size + 1 < k_ from by have := Z5.out; have := hk.2.1; omega))) (show w.heap.size ≤ W5.heap.size from by have := Z5.out; omega))
    clear hx ht hR hK hv
    go_wp2_with fail
    go_at_call 102
    with_reducible refine (list102 w _ _ b _ (fun _ => True) _ S6.out trivial (fun _ _ _ _ => trivial) (fun _ _ hr _ _ => check_r hr)).mono ?_
    intro e W7 hp
    obtain ⟨v, rfl, hv, hR, hK⟩ := hp
    obtain ⟨x6, hx⟩ : ∃ x, (listR b (checkR b) t6).1 = x := ⟨_, rfl⟩
    obtain ⟨t7, ht⟩ : ∃ t, (listR b (checkR b) t6).2 = t := ⟨_, rfl⟩
    rw [ht] at hR
    rw [hx] at hv
    obtain ⟨A6, c6, rfl⟩ := Kd.R_slice hv
    have X6 := Aside0.mk hx
    have T7 := Aside0.mk ht
    have S7 := Aside0.mk hR
    have B7 := Aside0.mk (hK.blk B6.out (by omega) (by simp))
    have Z7 := Aside0.mk (Nat.lt_of_lt_of_le Z6.out hK.1)
    have V2 := Aside0.mk (Kd.R_keep V2.out hK (fun k_ hk => by omega))
    have V3 := Aside0.mk (Kd.R_keep V3.out hK (fun k_ hk => by omega))
    have V4 := Aside0.mk (Kd.R_keep V4.out hK (fun k_ hk => by omega))
    have V5 := Aside0.mk (Kd.R_keep V5.out hK (fun k_ hk => by omega))
    have V6 := Aside0.mk (Kd.R_lower (Kd.R_mono (Kd.R_bound hv) (fun k_ (hk : _ ∧ W6.heap.size ≤ k_ ∧ _) => (show w.heap.size + 1 < k_ from by have := Z6.out; have := hk.2.1; omega))) (show w.heap.size ≤ W6.heap.size from by have := Z6.out; omega))
    clear hx ht hR hK hv
    obtain ⟨po, hpo⟩ : ∃ o, (Obj.cells #[.string x0, .int .i64 x1, .slice A2 x2.length c2, .slice A3 x3.length c3, .slice A4 x4.length c4, .slice A5 x5.length c5, .slice A6 x6.length c6] 33 : Obj) = o := ⟨_, rfl⟩
    have S8 := Aside0.mk (S7.out.alloc po)
    have B8 := Aside0.mk (blk_alloc B7.out po)
    have L8 := Aside0.mk (blk_new W7 (.cells #[.string x0, .int .i64 x1, .slice A2 x2.length c2, .slice A3 x3.length c3, .slice A4 x4.length c4, .slice A5 x5.length c5, .slice A6 x6.length c6] 33))
    have Z8 := Aside0.mk (show w.heap.size + 1 < W7.heap.size ∧ W7.heap.size < (W7.alloc po).heap.size from ⟨Z7.out, by simp⟩)
    have hq8 : Below W7.heap.size W7 (W7.alloc po) := below_alloc (Below.refl _ _) _
    have V2 := Aside0.mk (Kd.R_below V2.out hq8)
    have V3 := Aside0.mk (Kd.R_below V3.out hq8)
    have V4 := Aside0.mk (Kd.R_below V4.out hq8)
    have V5 := Aside0.mk (Kd.R_below V5.out hq8)
    have V6 := Aside0.mk (Kd.R_below V6.out hq8)
    clear hq8
    obtain ⟨A8, c8, hb8, hge8, hC8, hcap8⟩ := S8.out.is
    have d2 := cellS151_2 hb8
    have d3 := cellS151_3 hb8
    clear hb8 hge8 hC8 hcap8
    rw [← hpo] at S8 B8 d2 d3 V2 V3 V4 V5 V6 Z8
    clear hpo
    have HPK := Aside0.mk (show packR b (startR b) = (⟨x0, x1, x2, x3, x4, x5, x6⟩, t7) by
      unfold packR
      simp only [T0.out, X0.out, T1.out, X1.out, T2.out, X2.out, T3.out, X3.out, T4.out, X4.out, T5.out, X5.out, T6.out, X6.out, T7.out])
    by_cases he : t7.err = 0
    · have hb2 : (t7.err == 0) = true := by simp [he]
      have hb3 : (t7.err != 0) = false := by simp [he]
      have HE := Aside0.mk he
      clear he
      go_wp2_with fail
      generalize W7.alloc (.cells #[.string x0, .int .i64 x1, .slice A2 x2.length c2, .slice A3 x3.length c3, .slice A4 x4.length c4, .slice A5 x5.length c5, .slice A6 x6.length c6] 33) = W8 at S8 B8 L8 Z8 V2 V3 V4 V5 V6 d2 d3 ⊢
      go_at_call 104
      with_reducible refine (sum_r S8.out).mono ?_
      intro e W9 hp
      obtain ⟨rfl, hR, hK⟩ := hp
      obtain ⟨t8, ht⟩ : ∃ t, sumR b t7 = t := ⟨_, rfl⟩
      rw [ht] at hR
      have HS8 := Aside0.mk ht
      have S9 := Aside0.mk hR
      have B9 := Aside0.mk (hK.blk B8.out (by omega) (by simp))
      have L9 := Aside0.mk (hK.blk L8.out (by have := Z8.out; omega) (by simp))
      have Z9 := Aside0.mk (show w.heap.size + 1 < W9.heap.size ∧ W7.heap.size < W9.heap.size from by have := Z8.out; have := hK.1; omega)
      have V2 := Aside0.mk (Kd.R_keep V2.out hK (fun k_ hk => by omega))
      have V3 := Aside0.mk (Kd.R_keep V3.out hK (fun k_ hk => by omega))
      have V4 := Aside0.mk (Kd.R_keep V4.out hK (fun k_ hk => by omega))
      have V5 := Aside0.mk (Kd.R_keep V5.out hK (fun k_ hk => by omega))
      have V6 := Aside0.mk (Kd.R_keep V6.out hK (fun k_ hk => by omega))
      clear ht hR hK d2 d3
      obtain ⟨A8, c8, hb8, hge8, hC8, hcap8⟩ := S9.out.is
      have d2 := cellS151_2 hb8
      have d3 := cellS151_3 hb8
      clear hb8 hge8 hC8 hcap8 hb2 hb3
      by_cases he : t8.err = 0
      · have hb3 : (t8.err != 0) = false := by simp [he]
        have HE8 := Aside0.mk he
        clear he
        have k0_ := (blk_cell B9.out 0).trans rfl; have f0_ := blk_frozen B9.out 0; have l0_ := (blk_cell L9.out 0).trans rfl; have k1_ := (blk_cell B9.out 1).trans rfl; have f1_ := blk_frozen B9.out 1; have l1_ := (blk_cell L9.out 1).trans rfl; have k2_ := (blk_cell B9.out 2).trans rfl; have f2_ := blk_frozen B9.out 2; have l2_ := (blk_cell L9.out 2).trans rfl; have k3_ := (blk_cell B9.out 3).trans rfl; have f3_ := blk_frozen B9.out 3; have l3_ := (blk_cell L9.out 3).trans rfl; have k4_ := (blk_cell B9.out 4).trans rfl; have f4_ := blk_frozen B9.out 4; have l4_ := (blk_cell L9.out 4).trans rfl; have k5_ := (blk_cell B9.out 5).trans rfl; have f5_ := blk_frozen B9.out 5; have l5_ := (blk_cell L9.out 5).trans rfl; have k6_ := (blk_cell B9.out 6).trans rfl; have f6_ := blk_frozen B9.out 6; have l6_ := (blk_cell L9.out 6).trans rfl
        have hq := blk_lt B9.out
        have hq9 := blk_lt L9.out
        go_wp2_with fail
        have hgs : getS b = (⟨x0, x1, x2, x3, x4, x5, x6⟩, 0, 0) := by
          have hP := HPK.out
          unfold getS endR
          rw [if_neg (by omega), hP]
          show (if (if t7.err = 0 then sumR b t7 else t7).err = 0 then _ else _) = _
          rw [if_pos HE.out, HS8.out, if_pos HE8.out]
        have hE := @get_end (cs0 := #[.string ⟨#[]⟩, .int .i64 0, .slice none 0 0, .slice none 0 0, .slice none 0 0, .slice none 0 0, .slice none 0 0]) (hg := hgs) (hb := B9.out) (hB := S9.out.dat)
        simp only [sets, Nat.zero_add, Nat.reduceAdd] at hE
        exact hE _ _ _ _ _ _ rfl rfl rfl rfl rfl V2.out V3.out V4.out V5.out V6.out
      · have hb3 : (t8.err != 0) = true := by simp [he]
        have HE8 := Aside0.mk he
        clear he
        go_wp2_with fail
        have k0_ := (blk_cell B9.out 0).trans rfl; have f0_ := blk_frozen B9.out 0; have k1_ := (blk_cell B9.out 1).trans rfl; have f1_ := blk_frozen B9.out 1; have k2_ := (blk_cell B9.out 2).trans rfl; have f2_ := blk_frozen B9.out 2; have k3_ := (blk_cell B9.out 3).trans rfl; have f3_ := blk_frozen B9.out 3; have k4_ := (blk_cell B9.out 4).trans rfl; have f4_ := blk_frozen B9.out 4; have k5_ := (blk_cell B9.out 5).trans rfl; have f5_ := blk_frozen B9.out 5; have k6_ := (blk_cell B9.out 6).trans rfl; have f6_ := blk_frozen B9.out 6
        have hq := blk_lt B9.out
        go_region
        go_wp2_with fail
        have hgs : getS b = (noPk, t8.bad, t8.err) := by
          have hP := HPK.out
          unfold getS endR
          rw [if_neg (by omega), hP]
          show (if (if t7.err = 0 then sumR b t7 else t7).err = 0 then _ else (noPk, (if t7.err = 0 then sumR b t7 else t7).bad, (if t7.err = 0 then sumR b t7 else t7).err)) = _
          rw [if_pos HE.out, HS8.out, if_neg HE8.out]
        have hE := @get_end0 (cs0 := #[.string ⟨#[]⟩, .int .i64 0, .slice none 0 0, .slice none 0 0, .slice none 0 0, .slice none 0 0, .slice none 0 0]) (hg := hgs) (hb := B9.out) (hB := S9.out.dat)
        simp only [cs7, sets, Nat.zero_add, Nat.reduceAdd] at hE
        exact hE _ rfl rfl rfl rfl rfl
    · have hb2 : (t7.err == 0) = false := by simp [he]
      have hb3 : (t7.err != 0) = true := by simp [he]
      have HE := Aside0.mk he
      clear he
      go_wp2_with fail
      generalize W7.alloc (.cells #[.string x0, .int .i64 x1, .slice A2 x2.length c2, .slice A3 x3.length c3, .slice A4 x4.length c4, .slice A5 x5.length c5, .slice A6 x6.length c6] 33) = W8 at S8 B8 L8 Z8 V2 V3 V4 V5 V6 d2 d3 ⊢
      have k0_ := (blk_cell B8.out 0).trans rfl; have f0_ := blk_frozen B8.out 0; have k1_ := (blk_cell B8.out 1).trans rfl; have f1_ := blk_frozen B8.out 1; have k2_ := (blk_cell B8.out 2).trans rfl; have f2_ := blk_frozen B8.out 2; have k3_ := (blk_cell B8.out 3).trans rfl; have f3_ := blk_frozen B8.out 3; have k4_ := (blk_cell B8.out 4).trans rfl; have f4_ := blk_frozen B8.out 4; have k5_ := (blk_cell B8.out 5).trans rfl; have f5_ := blk_frozen B8.out 5; have k6_ := (blk_cell B8.out 6).trans rfl; have f6_ := blk_frozen B8.out 6
      have hq := blk_lt B8.out
      go_region
      go_wp2_with fail
      have hgs : getS b = (noPk, t7.bad, t7.err) := by
        have hP := HPK.out
        unfold getS endR
        rw [if_neg (by omega), hP]
        show (if (if t7.err = 0 then sumR b t7 else t7).err = 0 then _ else (noPk, (if t7.err = 0 then sumR b t7 else t7).bad, (if t7.err = 0 then sumR b t7 else t7).err)) = _
        rw [if_neg HE.out, if_neg HE.out]
      have hE := @get_end0 (cs0 := #[.string ⟨#[]⟩, .int .i64 0, .slice none 0 0, .slice none 0 0, .slice none 0 0, .slice none 0 0, .slice none 0 0]) (hg := hgs) (hb := B8.out) (hB := S8.out.dat)
      simp only [cs7, sets, Nat.zero_add, Nat.reduceAdd] at hE
      exact hE _ rfl rfl rfl rfl rfl
end Go.Proofs.Ytpbdkkahodaloaa.V
end

section
namespace Go.Proofs.Ytpbdkkahodaloaa.U
open Go.RowKit Go.Lib Go.Proofs.Ytpbdkkahodaloaa.PS Go.Proofs.YtpbdkkahodaloaaW.PrintWords Go.Proofs.YtpbdkkahodaloaaW.PrintMore
set_option linter.unusedVariables false
set_option maxRecDepth 100000
set_option maxHeartbeats 1000000 in
theorem band_calls (base : World) (g r : Nat) (xs : List Int) (d : Bool) (x : S74) (w : World) (h : Wr w base g r xs d) (ok : i64 x.f0 ∧ i64 x.f1) (hl : (xs ++ (encInt x.f0 ++ encInt x.f1)).length ≤ LIM) :
    Calls Try.prog 50 #[.pointer (some ⟨g, 0, none⟩), .agg #[.int .i64 x.f0, .int .i64 x.f1]] w (WPost base g r (xs ++ (encInt x.f0 ++ encInt x.f1)) (d || false) w) := by
  have H0 := Aside0.mk (St.alloc (St.refl h) (.cells #[.int .i64 x.f0, .int .i64 x.f1] 74))
  have HB := Aside0.mk (Cap.new h #[.int .i64 x.f0, .int .i64 x.f1] 74)
  have HL := Aside0.mk hl
  have OK := Aside0.mk ok
  clear h hl ok
  go_enter Try.func50, Try.ntmps50
  go_wp2_with fail
  go_at_call 43
  with_reducible refine (int_c H0.out OK.out.1 (lim_left HL.out)).mono ?_
  intro e w1 hp
  obtain ⟨rfl, r1, hs, ht⟩ := H0.out.next hp
  have H1 := Aside0.mk ht
  have HB1 := Aside0.mk (HB.out.st hs)
  clear hp hs ht
  have c1 := HB1.out.cell 1 rfl
  have hlt := HB1.out.lt
  go_wp2_with fail
  go_at_call 43
  with_reducible refine (int_c H1.out OK.out.2 (lim_right HL.out)).mono ?_
  intro e w2 hp
  obtain ⟨rfl, r2, hs, ht⟩ := H1.out.next hp
  have H2 := Aside0.mk ht
  clear hp hs ht
  go_wp2_with fail
  go_end0
  exact H2.out.post (List.append_assoc _ _ _) (by simp)
end Go.Proofs.Ytpbdkkahodaloaa.U
end

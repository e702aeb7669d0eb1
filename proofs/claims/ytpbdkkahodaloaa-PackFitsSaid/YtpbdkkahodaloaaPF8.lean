-- Part 8 of the texts of the claim PF (wrote by programs: words of the kit's print.sh, printed functions; and my own texts; joined by wip/tools/pack.py).
import Derived.Test.YtpbdkkahodaloaaPF7

section
set_option linter.unusedSimpArgs false
set_option linter.unusedVariables false
namespace Go.Proofs.Ytpbdkkahodaloaa.V
open Go.RowKit Go.Proofs.Ytpbdkkahodaloaa.PS Go.Proofs.YtpbdkkahodaloaaW.PrintWords Go.Proofs.YtpbdkkahodaloaaW.PrintMore
set_option maxRecDepth 100000
def textR (b : List Int) (s : R3) : ByteArray × R3 :=
  if (numR b s).1 > b.length - (numR b s).2.at_ then (⟨#[]⟩, shortR b (numR b s).2)
  else (strOfNums ((b.drop (numR b s).2.at_.toNat).take (numR b s).1.toNat), ⟨(numR b s).2.at_ + (numR b s).1, (numR b s).2.err, (numR b s).2.bad⟩)
theorem Rd.drewN {w0 w : World} {g : Nat} {b : List Int} {s : R3} (h : Rd w0 w g b s) (n : Nat) : Rd w0 (w.drewN n) g b s := ⟨h.is.drewN n, pw_below_drewN h.dat n, h.good, h.byt, h.len⟩
theorem Rd.move {w0 w : World} {g : Nat} {b : List Int} {s : R3} (h : Rd w0 w g b s) (a : Int) (h0 : 0 ≤ a) (h1 : a ≤ b.length) : Rd w0 (w.setCell ⟨g, 1, none⟩ (.int .i64 a)) g b ⟨a, s.err, s.bad⟩ :=
  ⟨h.is.set_1 a, h.dat.setCell h.is.ge _, ⟨h0, h1⟩, h.byt, h.len⟩
theorem info5' : (Try.prog.info? 5).map (fun i => (i.zero, i.size, i.bytes)) = some (some (.int .u8 0), 1, 1) := by kernel_rfl
theorem cut_text (w : World) {A : Option Addr} {c : Nat} {b : List Int} (hC : Kd.C (Kd.int .u8) w A b.length b) (hcap : b.length ≤ c) (a n : Int) (h0 : 0 ≤ a) (hn : 0 ≤ n) (h1 : a + n ≤ b.length) :
    ∃ A2 m2 c2, (∀ W, (Instr.slice 23 (.slice A b.length c) (some (.int .i64 a)) (some (.int .i64 (a + n))) none).run Try.prog W = .ok (.slice A2 m2 c2) W) ∧ ∀ j, (convert 23 9 (.slice A2 m2 c2)).run Try.prog (w.drewN j) = .ok (.string (strOfNums ((b.drop a.toNat).take n.toNat))) (w.drewN j) := by
  obtain ⟨i0, hi0, hz0, hz1, hz2⟩ := info_parts info5'
  refine ⟨_, _, _, cut_mid 23 5 .i64 .i64 Try.underlying23 hi0 1 hz1 A b.length c a (a + n) h0 (by omega) h1 hcap, fun j => ?_⟩
  have hm := Kd.C_mid (lo := a.toNat) (hi := (a + n).toNat) hC (by omega) (by omega) hcap
  have e : (b.take (a + n).toNat).drop a.toNat = (b.drop a.toNat).take n.toNat := by rw [List.drop_take, show (a + n).toNat - a.toNat = n.toNat by omega]
  have hl : ((b.take (a + n).toNat).drop a.toNat).length = (a + n).toNat - a.toNat := by rw [List.length_drop, List.length_take]; omega
  rw [hl, e] at hm
  exact Kd.C_string Try.underlying23 Try.underlying5 Try.underlying9 (Kd.C_drewN hm j)
set_option maxHeartbeats 4000000 in
theorem text_r {w0 w : World} {g : Nat} {b : List Int} {s : R3} (h : Rd w0 w g b s) : Calls Try.prog 92 #[.pointer (some ⟨g, 0, none⟩)] w (RP w0 g b (textR b s).2 (.string (textR b s).1) w) := by
  have H0 := Aside0.mk h
  have hr := numR_range h.byt h.good
  have hg := numR_good h.good
  clear h
  go_enter Try.func92, Try.ntmps92
  go_wp2_with fail
  go_at_call 121
  with_reducible refine (number_r H0.out).mono ?_
  intro e w1 hp
  obtain ⟨rfl, hR, hK⟩ := hp
  obtain ⟨n, hn0⟩ : ∃ n, (numR b s).1 = n := ⟨_, rfl⟩
  obtain ⟨s1, hs0⟩ : ∃ s1, (numR b s).2 = s1 := ⟨_, rfl⟩
  rw [hs0] at hg hR
  rw [hn0] at hr ⊢
  have HT := Aside0.mk (show textR b s = if n > b.length - s1.at_ then (⟨#[]⟩, shortR b s1) else (strOfNums ((b.drop s1.at_.toNat).take n.toNat), ⟨s1.at_ + n, s1.err, s1.bad⟩) by unfold textR; rw [hn0, hs0])
  clear hn0 hs0
  obtain ⟨a, er, bd⟩ := s1
  have ha0 : 0 ≤ a := hg.lo
  have ha1 : a ≤ b.length := hg.hi
  have HR := Aside0.mk hR
  have HK := Aside0.mk hK
  have hlen := hR.len
  obtain ⟨A, c, hb, hge, hC, hcap⟩ := hR.is
  have c0 := cellS151_0 hb
  have c1 := cellS151_1 hb
  have c2 := cellS151_2 hb
  have c3 := cellS151_3 hb
  have f1 : w1.frozen? ⟨g, 1, none⟩ = false := blk_frozen hb 1
  have HB := Aside0.mk hb
  have HC := Aside0.mk hC
  have HGE := Aside0.mk hge
  have HCAP := Aside0.mk hcap
  clear hR hK hb hge hC hcap hg
  by_cases hn : n > b.length - a
  · have HT2 := Aside0.mk (HT.out.trans (if_pos hn))
    have e1 : IntKind.i64.wrap ((b.length : Int) - a) = (b.length : Int) - a := by rw [IntKind.wrap_i64]; omega
    have e2 : IntKind.u64.wrap ((b.length : Int) - a) = (b.length : Int) - a := by rw [IntKind.wrap_u64]; omega
    have hb1 : decide ((b.length : Int) - a < n) = true := decide_eq_true hn
    go_wp2_with fail
    go_quiet (fail)
    go_wp2_with fail
    go_at_call 90
    with_reducible refine (short_r (HR.out.drewN nq)).mono ?_
    intro e w2 hp
    obtain ⟨rfl, hR2, hK2⟩ := hp
    have HR2 := Aside0.mk hR2
    have HK2 := Aside0.mk hK2
    clear hR2 hK2
    go_wp2_with fail
    go_ret
    exact ⟨by rw [HT2.out]; rfl, by rw [HT2.out]; exact HR2.out, (keep_drewN HK.out nq).trans HK2.out (.inl rfl)⟩
  · have HT2 := Aside0.mk (HT.out.trans (if_neg hn))
    have e1 : IntKind.i64.wrap ((b.length : Int) - a) = (b.length : Int) - a := by rw [IntKind.wrap_i64]; omega
    have e2 : IntKind.u64.wrap ((b.length : Int) - a) = (b.length : Int) - a := by rw [IntKind.wrap_u64]; omega
    have hb1 : decide ((b.length : Int) - a < n) = false := decide_eq_false hn
    go_wp2_with fail
    go_quiet (fail)
    clear e1 e2
    have hn1 : n ≤ 131072 := by omega
    go_upto_region 6 with (fail)
    have c4 : ((w1.drewN nq).setCell ⟨g, 1, none⟩ (.int .i64 (a + n))).cell? ⟨g, 1, none⟩ = some (.int .i64 (a + n)) := by go_simp
    have c5 : ((w1.drewN nq).setCell ⟨g, 1, none⟩ (.int .i64 (a + n))).cell? ⟨g, 0, none⟩ = some (.slice A b.length c) := by go_simp
    have e1 : IntKind.i64.wrap (a + n - n) = a := by rw [IntKind.wrap_i64]; omega
    have HR2 := Aside0.mk ((HR.out.drewN nq).move (a + n) (by omega) (by omega))
    have HK2 := Aside0.mk ((keep_drewN HK.out nq).set_ 1 (.int .i64 (a + n)))
    generalize (w1.drewN nq).setCell ⟨g, 1, none⟩ (.int .i64 (a + n)) = w2 at c4 c5 HR2 HK2 ⊢
    obtain ⟨A2, m2, cc2, hs, hv⟩ := cut_text w2 (Kd.C_below HC.out HR2.out.dat) HCAP.out a n ha0 hr.1 (by omega)
    go_quiet (fail)
    go_wp2_with fail
    go_ret
    exact ⟨by rw [HT2.out]; rfl, by rw [HT2.out]; exact HR2.out.drewN _, keep_drewN HK2.out _⟩
def listL {α : Type} (item : R3 → α × R3) : Nat → R3 → List α × R3
  | 0, s => ([], s)
  | n + 1, s => if s.err = 0 then ((item s).1 :: (listL item n (item s).2).1, (listL item n (item s).2).2) else ([], s)
def headR (b : List Int) (s : R3) : Nat × R3 := ((numR b s).1.toNat, if (numR b s).1 > b.length - (numR b s).2.at_ then shortR b (numR b s).2 else (numR b s).2)
def listR {α : Type} (b : List Int) (item : R3 → α × R3) (s : R3) : List α × R3 := listL item (headR b s).1 (headR b s).2
theorem listL_err {α : Type} (item : R3 → α × R3) (n : Nat) (s : R3) (h : ¬ s.err = 0) : listL item n s = ([], s) := by
  cases n with
  | zero => rfl
  | succ n => simp only [listL]; rw [if_neg h]
theorem headR_small {b : List Int} {s : R3} (hb : bytes b) (h : Good b s) : (headR b s).2.err = 0 → ((headR b s).1 : Int) ≤ b.length := by
  have hr := numR_range hb h
  have hg := numR_good h
  have := hg.lo
  unfold headR
  show (if _ then _ else _ : R3).err = 0 → (((numR b s).1.toNat : Nat) : Int) ≤ b.length
  split
  · intro he
    exfalso
    unfold shortR failR at he
    split at he
    · have he : (70 : Int) = 0 := he
      omega
    · contradiction
  · intro _; omega
def IP {α : Type} (d : Kd α) (w0 : World) (g : Nat) (b : List Int) (x : α) (s' : R3) (w : World) (e : Ending) (w' : World) : Prop := ∃ cs, e = .returned (.agg cs.toArray) ∧ d.M w' w.heap.size (fun _ => True) x cs ∧ Rd w0 w' g b s' ∧ KeepBut w w' g none
def MP {α : Type} (d : Kd α) (t : Nat) (w0 : World) (g : Nat) (b : List Int) (l : List α) (s' : R3) (w : World) (e : Ending) (w' : World) : Prop := ∃ v, e = .returned v ∧ d.R t w' w.heap.size (fun _ => True) v l ∧ Rd w0 w' g b s' ∧ KeepBut w w' g none
structure LisR {α : Type} (d : Kd α) (t : Nat) (w0 w : World) (g : Nat) (b : List Int) (I : World → Prop) (item : R3 → α × R3) (n : Nat) (s1 : R3) (m : Nat) (s2 : R3) (l : List α) (v : Value) (wr : World) : Prop where
  rd : Rd w0 wr g b s2
  keep : KeepBut w wr g none
  row : d.R t wr w.heap.size (fun k => k ≠ g) v l
  inv : I wr
  all : listL item n s1 = (l ++ (listL item m s2).1, (listL item m s2).2)
  sum : l.length + m = n
  fst : l = [] → s2 = s1
  few : l = [] ∨ n ≤ 131072
theorem Rd.grown {w0 w w1 : World} {g : Nat} {b : List Int} {s : R3} {row : Option Nat} (h : Rd w0 w g b s) (hg : w.grownBy w1 row) (hne : some g ≠ row) (hr : ∀ k, row = some k → w0.heap.size ≤ k) : Rd w0 w1 g b s :=
  ⟨h.is.grown hg hne, h.dat.grown hg h.dat.size hr, h.good, h.byt, h.len⟩
theorem Rd.lt {w0 w : World} {g : Nat} {b : List Int} {s : R3} (h : Rd w0 w g b s) : g < w.heap.size ∧ w0.heap.size ≤ g := ⟨h.is.lt, h.is.ge⟩
section
variable {α : Type} {d : Kd α} {t : Nat} {w0 w : World} {g : Nat} {b : List Int} {I : World → Prop} {item : R3 → α × R3} {n : Nat} {s1 : R3}
theorem LisR.start {w2 : World} (hr : Rd w0 w2 g b s1) (hk : KeepBut w w2 g none) (hi : I w2) : LisR d t w0 w g b I item n s1 n s1 [] (.slice none 0 0) w2 :=
  ⟨hr, hk, Kd.R_nil _ _ _ _ _, hi, by simp, by simp, fun _ => rfl, .inl rfl⟩
theorem LisR.done {m : Nat} {s2 : R3} {l : List α} {v : Value} {wr : World} (h : LisR d t w0 w g b I item n s1 m s2 l v wr) (hm : m = 0 ∨ ¬ s2.err = 0) : MP d t w0 g b (listL item n s1).1 (listL item n s1).2 w (.returned v) wr := by
  have e : listL item m s2 = ([], s2) := by
    rcases hm with rfl | he
    · rfl
    · exact listL_err item m s2 he
  have ha := h.all
  rw [e, List.append_nil] at ha
  rw [ha]
  exact ⟨v, rfl, Kd.R_mono h.row (fun _ _ => trivial), h.rd, h.keep⟩
theorem LisR.few' {m : Nat} {s2 : R3} {l : List α} {v : Value} {wr : World} (h : LisR d t w0 w g b I item n s1 m s2 l v wr) (hs : s1.err = 0 → n ≤ 131072) (he : s2.err = 0) : n ≤ 131072 := by
  rcases h.few with hl | hn
  · exact hs (by rw [← h.fst hl]; exact he)
  · exact hn
theorem LisR.next {m : Nat} {s2 : R3} {l : List α} {v v1 : Value} {wr w2 w3 : World} (h : LisR d t w0 w g b I item n s1 (m + 1) s2 l v wr) (hs : s1.err = 0 → n ≤ 131072) (he : s2.err = 0) (hgw : g < w.heap.size)
    (hI : ∀ w1 w2 : World, I w1 → (∀ k, k < w.heap.size → k ≠ g → w2.heap[k]? = w1.heap[k]?) → I w2)
    (hr : Rd w0 w2 g b (item s2).2) (hk : KeepBut wr w2 g none) (ho : d.R t w3 w.heap.size (fun k => k ≠ g) v1 (l ++ [(item s2).1])) (hg : w2.grownBy w3 v.ownBlock) : LisR d t w0 w g b I item n s1 m (item s2).2 (l ++ [(item s2).1]) v1 w3 := by
  have hne : some g ≠ v.ownBlock := fun e => h.row.1 g e.symm rfl
  have hlow : ∀ k, v.ownBlock = some k → w.heap.size ≤ k := fun k hk' => by obtain ⟨inner, ho'⟩ := Kd.R_own h.row; exact (ho'.lt k hk').1
  have hwr : w.heap.size ≤ wr.heap.size := h.keep.1
  have hk2 : KeepBut w w2 g none := h.keep.trans hk (.inl rfl)
  refine ⟨hr.grown hg hne (fun k hk' => by have := hlow k hk'; have := h.rd.lt; omega), hk2.trans (KeepBut.of_grown hg g) ?_, ho, ?_, ?_, ?_, fun e => ?_, .inr (h.few' hs he)⟩
  · rcases hv : v.ownBlock with _ | k
    · exact .inl rfl
    · exact .inr ⟨k, rfl, hlow k hv⟩
  · refine hI wr w3 h.inv (fun k hk' hkg => ?_)
    rw [hg.block k (Nat.lt_of_lt_of_le hk' hk2.1) (fun e => by have := hlow k e.symm; omega)]
    exact hk.2 k (Nat.lt_of_lt_of_le hk' hwr) hkg (by simp)
  · rw [h.all]
    simp only [listL]
    rw [if_pos he]
    simp
  · have := h.sum; rw [List.length_append, List.length_singleton]; omega
  · simp at e
end
end Go.Proofs.Ytpbdkkahodaloaa.V
end

section
set_option linter.unusedVariables false
namespace Go.Proofs.Ytpbdkkahodaloaa.V
open Go.RowKit Go.Proofs.Ytpbdkkahodaloaa.PS Go.Proofs.YtpbdkkahodaloaaW.PrintWords Go.Proofs.YtpbdkkahodaloaaW.PrintMore
set_option maxRecDepth 100000
theorem info9' : (Try.prog.info? 9).map (fun i => (i.zero, i.size, i.bytes)) = some (some (.string ⟨#[]⟩), 1, 16) := by kernel_rfl
set_option maxHeartbeats 4000000 in
theorem list122 (w0 w : World) (g : Nat) (b : List Int) (s : R3) (I : World → Prop) (item : R3 → ByteArray × R3) (h : Rd w0 w g b s) (hI0 : I w) (hI : ∀ w1 w2 : World, I w1 → (∀ k, k < w.heap.size → k ≠ g → w2.heap[k]? = w1.heap[k]?) → I w2)
    (hit : ∀ (s2 : R3) (w2 : World), Rd w0 w2 g b s2 → I w2 → w.heap.size ≤ w2.heap.size → Calls Try.prog 92 #[.pointer (some ⟨g, 0, none⟩)] w2 (RP w0 g b (item s2).2 (.string (item s2).1) w2)) :
    Calls Try.prog 122 #[.pointer (some ⟨g, 0, none⟩), .func (.func 92) #[.pointer (some ⟨g, 0, none⟩)] #[]] w (MP Kd.string 9 w0 g b (listR b item s).1 (listR b item s).2 w) := by
  have H0 := Aside0.mk h
  have HI0 := Aside0.mk hI0
  have HI := Aside0.mk hI
  have HIT := Aside0.mk hit
  have hr := numR_range h.byt h.good
  have hg := numR_good h.good
  have HSM := Aside0.mk (headR_small h.byt h.good)
  have HGW := Aside0.mk h.lt.1
  clear h hI0 hI hit
  go_enter Try.func122, Try.ntmps122
  go_wp2_with fail
  go_at_call 121
  with_reducible refine (number_r H0.out).mono ?_
  intro e w1 hp
  obtain ⟨rfl, hR, hK⟩ := hp
  obtain ⟨n, hn0⟩ : ∃ n : Nat, (numR b s).1 = (n : Int) := ⟨(numR b s).1.toNat, by omega⟩
  obtain ⟨s1, hs0⟩ : ∃ s1, (numR b s).2 = s1 := ⟨_, rfl⟩
  rw [hs0] at hg hR
  rw [hn0] at hr ⊢
  have HH := Aside0.mk (show headR b s = (n, if (n : Int) > b.length - s1.at_ then shortR b s1 else s1) by unfold headR; rw [hn0, hs0, Int.toNat_natCast])
  clear hn0 hs0
  obtain ⟨a, er, bd⟩ := s1
  have ha0 : 0 ≤ a := hg.lo
  have ha1 : a ≤ b.length := hg.hi
  have hlen := hR.len
  have HR := Aside0.mk hR
  have HK := Aside0.mk hK
  have HI1 := Aside0.mk (HI.out w w1 HI0.out (fun k hk hkg => hK.2 k hk hkg (by simp)))
  obtain ⟨A, c, hb, hge, hC, hcap⟩ := hR.is
  have c0 := cellS151_0 hb
  have c1 := cellS151_1 hb
  clear hR hK hb hge hC hcap hg
  have e1 : IntKind.i64.wrap ((b.length : Int) - a) = (b.length : Int) - a := by rw [IntKind.wrap_i64]; omega
  have e2 : IntKind.u64.wrap ((b.length : Int) - a) = (b.length : Int) - a := by rw [IntKind.wrap_u64]; omega
  by_cases hn : (n : Int) > b.length - a
  case' pos =>
    have hb1 : decide ((b.length : Int) - a < (n : Int)) = true := decide_eq_true hn
    have HH2 := Aside0.mk (HH.out.trans (by rw [if_pos hn] : _ = (n, shortR b ⟨a, er, bd⟩)))
    go_wp2_with fail
    go_quiet (fail)
    clear e1 e2
    go_wp2_with fail
    go_at_call 90
    with_reducible refine (short_r (HR.out.drewN nq)).mono ?_
    intro e w2 hp
    obtain ⟨rfl, hR2, hK2⟩ := hp
    have HI2 := Aside0.mk (HI.out w1 w2 HI1.out (fun k hk hkg => hK2.2 k (Nat.lt_of_lt_of_le hk HK.out.1) hkg (by simp)))
    have HK2 := Aside0.mk ((keep_drewN HK.out nq).trans hK2 (.inl rfl))
    have HR2 := Aside0.mk hR2
    clear hR2 hK2 c0 c1 hb1
    generalize shortR b ⟨a, er, bd⟩ = s2 at HH2 HR2
    clear HR HK HI1 HH hn
    go_wp2_with fail
  case' neg =>
    have hb1 : decide ((b.length : Int) - a < (n : Int)) = false := decide_eq_false hn
    have HH2 := Aside0.mk (HH.out.trans (by rw [if_neg hn] : _ = (n, (⟨a, er, bd⟩ : R3))))
    go_wp2_with fail
    go_quiet (fail)
    clear e1 e2
    have HI2 := Aside0.mk (HI.out w1 (w1.drewN nq) HI1.out (fun _ _ _ => rfl))
    have HK2 := Aside0.mk (keep_drewN HK.out nq)
    have HR2 := Aside0.mk (HR.out.drewN nq)
    clear c0 c1 hb1
    generalize (⟨a, er, bd⟩ : R3) = s2 at HH2 HR2
    clear HR HK HI1 HH hn
    generalize w1.drewN nq = w2 at HI2 HK2 HR2 ⊢
    go_wp2_with fail
  all_goals (
    rw [HH2.out] at HSM
    have HS2 := Aside0.mk (show s2.err = 0 → n ≤ 131072 from fun h => by have := HSM.out h; omega)
    go_loopw [5, 6] (fun v5 v6 wr => ∃ (m : Nat) (s3 : R3) (l : List ByteArray), v5 = .int .u64 (m : Nat) ∧ Aside0 (LisR Kd.string 9 w0 w g b I item n s2 m s3 l v6 wr)) (fun v5 _ _ => (intOf v5).toNat)
    case atStart => exact ⟨n, s2, [], rfl, ⟨LisR.start HR2.out HK2.out HI2.out⟩⟩
    case round =>
      obtain ⟨m, s3, l, rfl, HL⟩ := hrel
      have hmn : m ≤ n := by have := HL.out.sum; omega
      obtain ⟨A3, cc3, hb3, hge3, hC3, hcap3⟩ := HL.out.rd.is
      have d2 := cellS151_2 hb3
      clear hb3 hge3 hC3 hcap3
      obtain ⟨a3, er3, bd3⟩ := s3
      by_cases hm : m = 0
      · have hb2 : decide ((0 : Int) < (m : Int)) = false := decide_eq_false (by omega)
        have HM := Aside0.mk hm
        have hm2 : ¬ 0 < m := by omega
        clear hm
        go_wp2_with fail
        go_ret
        rw [show listR b item s = listL item n s2 by unfold listR; rw [HH2.out]]
        exact HL.out.done (.inl HM.out)
      · by_cases he : er3 = 0
        · obtain ⟨m1, rfl⟩ : ∃ m1, m = m1 + 1 := ⟨m - 1, by omega⟩
          have hb2 : decide ((0 : Int) < ((m1 + 1 : Nat) : Int)) = true := decide_eq_true (by omega)
          have hm2 : 0 < m1 + 1 := by omega
          have hb3 : (er3 == 0) = true := by simp [he]
          have HE := Aside0.mk (show (⟨a3, er3, bd3⟩ : R3).err = 0 from he)
          clear he hm
          go_wp2_with fail
          go_at_call 92
          with_reducible refine (HIT.out ⟨a3, er3, bd3⟩ wr HL.out.rd HL.out.inv (keep_size HL.out.keep)).mono ?_
          intro e w3 hp
          obtain ⟨rfl, hR4, hK4⟩ := hp
          obtain ⟨x, hx⟩ : ∃ x, (item ⟨a3, er3, bd3⟩).1 = x := ⟨_, rfl⟩
          rw [hx]
          have HX := Aside0.mk hx
          have HR4 := Aside0.mk hR4
          have HK4 := Aside0.mk hK4
          have HRW := Aside0.mk (Kd.R_keep HL.out.row HK4.out (fun _ hk => hk))
          have HOK := Aside0.mk (show ∀ k_, wr.heap.size ≤ k_ → k_ ≠ g ∧ some k_ ≠ u6.ownBlock from fun k_ hk => ⟨by have := HL.out.rd.lt; omega, fun e_ => by obtain ⟨inner_, ho_⟩ := Kd.R_own HL.out.row; have := (ho_.lt k_ e_.symm).2; omega⟩)
          have HFR := Aside0.mk (show ∀ k_, w3.heap.size ≤ k_ → k_ ≠ g from fun k_ hk => by have := HR4.out.lt; omega)
          have HBS := Aside0.mk (show w.heap.size ≤ w3.heap.size from Nat.le_trans HL.out.keep.1 HK4.out.1)
          have HLN := Aside0.mk (show (l.length + 1) * 16 ≤ 140737488355328 from by have := HL.out.sum; have := HL.out.few' HS2.out HE.out; omega)
          clear hR4 hK4 hx d2 hb2 hb3
          go_wp2_with (at_builtin; refine Kd.R_append Kd.string w.heap.size rfl _ _ 95 9 (.string ⟨#[]⟩) 16 rfl Try.underlying95 info9' rfl (by decide) (by decide) u6 l x [.string x] (fun k_ => k_ ≠ g) (fun k_ => wr.heap.size ≤ k_) rfl rfl rfl HOK.out HFR.out HRW.out (Below.refl _ _) HBS.out HLN.out ?_; intro v9 w4 ho9 _ hg9 _)
          rw [← HX.out] at ho9
          have HN := Aside0.mk (HL.out.next HS2.out HE.out HGW.out HI.out HR4.out HK4.out ho9 hg9)
          clear ho9 hg9
          try go_wp2_with fail
          go_roundw
          case rel => exact ⟨m1, _, _, by first | rfl | go_num | (congr 1; omega), HN⟩
          case measure => simp [intOf] <;> omega
        · have hb2 : decide ((0 : Int) < (m : Int)) = true := decide_eq_true (by omega)
          have hm2 : 0 < m := by omega
          have hb3 : (er3 == 0) = false := by simp [he]
          have HE := Aside0.mk (show ¬ (⟨a3, er3, bd3⟩ : R3).err = 0 from he)
          clear he hm
          go_wp2_with fail
          go_ret
          rw [show listR b item s = listL item n s2 by unfold listR; rw [HH2.out]]
          exact HL.out.done (.inr HE.out))
theorem info74' : (Try.prog.info? 74).map (fun i => (i.zero, i.size, i.bytes)) = some (some (.agg #[(.int .i64 0), (.int .i64 0)]), 2, 16) := by kernel_rfl
set_option maxHeartbeats 4000000 in
theorem list123 (w0 w : World) (g : Nat) (b : List Int) (s : R3) (I : World → Prop) (item : R3 → S74 × R3) (h : Rd w0 w g b s) (hI0 : I w) (hI : ∀ w1 w2 : World, I w1 → (∀ k, k < w.heap.size → k ≠ g → w2.heap[k]? = w1.heap[k]?) → I w2)
    (hit : ∀ (s2 : R3) (w2 : World), Rd w0 w2 g b s2 → I w2 → w.heap.size ≤ w2.heap.size → Calls Try.prog 124 #[.pointer (some ⟨g, 0, none⟩)] w2 (IP k74 w0 g b (item s2).1 (item s2).2 w2)) :
    Calls Try.prog 123 #[.pointer (some ⟨g, 0, none⟩), .func (.func 124) #[.pointer (some ⟨g, 0, none⟩)] #[]] w (MP k74 74 w0 g b (listR b item s).1 (listR b item s).2 w) := by
  have H0 := Aside0.mk h
  have HI0 := Aside0.mk hI0
  have HI := Aside0.mk hI
  have HIT := Aside0.mk hit
  have hr := numR_range h.byt h.good
  have hg := numR_good h.good
  have HSM := Aside0.mk (headR_small h.byt h.good)
  have HGW := Aside0.mk h.lt.1
  clear h hI0 hI hit
  go_enter Try.func123, Try.ntmps123
  go_wp2_with fail
  go_at_call 121
  with_reducible refine (number_r H0.out).mono ?_
  intro e w1 hp
  obtain ⟨rfl, hR, hK⟩ := hp
  obtain ⟨n, hn0⟩ : ∃ n : Nat, (numR b s).1 = (n : Int) := ⟨(numR b s).1.toNat, by omega⟩
  obtain ⟨s1, hs0⟩ : ∃ s1, (numR b s).2 = s1 := ⟨_, rfl⟩
  rw [hs0] at hg hR
  rw [hn0] at hr ⊢
  have HH := Aside0.mk (show headR b s = (n, if (n : Int) > b.length - s1.at_ then shortR b s1 else s1) by unfold headR; rw [hn0, hs0, Int.toNat_natCast])
  clear hn0 hs0
  obtain ⟨a, er, bd⟩ := s1
  have ha0 : 0 ≤ a := hg.lo
  have ha1 : a ≤ b.length := hg.hi
  have hlen := hR.len
  have HR := Aside0.mk hR
  have HK := Aside0.mk hK
  have HI1 := Aside0.mk (HI.out w w1 HI0.out (fun k hk hkg => hK.2 k hk hkg (by simp)))
  obtain ⟨A, c, hb, hge, hC, hcap⟩ := hR.is
  have c0 := cellS151_0 hb
  have c1 := cellS151_1 hb
  clear hR hK hb hge hC hcap hg
  have e1 : IntKind.i64.wrap ((b.length : Int) - a) = (b.length : Int) - a := by rw [IntKind.wrap_i64]; omega
  have e2 : IntKind.u64.wrap ((b.length : Int) - a) = (b.length : Int) - a := by rw [IntKind.wrap_u64]; omega
  by_cases hn : (n : Int) > b.length - a
  case' pos =>
    have hb1 : decide ((b.length : Int) - a < (n : Int)) = true := decide_eq_true hn
    have HH2 := Aside0.mk (HH.out.trans (by rw [if_pos hn] : _ = (n, shortR b ⟨a, er, bd⟩)))
    go_wp2_with fail
    go_quiet (fail)
    clear e1 e2
    go_wp2_with fail
    go_at_call 90
    with_reducible refine (short_r (HR.out.drewN nq)).mono ?_
    intro e w2 hp
    obtain ⟨rfl, hR2, hK2⟩ := hp
    have HI2 := Aside0.mk (HI.out w1 w2 HI1.out (fun k hk hkg => hK2.2 k (Nat.lt_of_lt_of_le hk HK.out.1) hkg (by simp)))
    have HK2 := Aside0.mk ((keep_drewN HK.out nq).trans hK2 (.inl rfl))
    have HR2 := Aside0.mk hR2
    clear hR2 hK2 c0 c1 hb1
    generalize shortR b ⟨a, er, bd⟩ = s2 at HH2 HR2
    clear HR HK HI1 HH hn
    go_wp2_with fail
  case' neg =>
    have hb1 : decide ((b.length : Int) - a < (n : Int)) = false := decide_eq_false hn
    have HH2 := Aside0.mk (HH.out.trans (by rw [if_neg hn] : _ = (n, (⟨a, er, bd⟩ : R3))))
    go_wp2_with fail
    go_quiet (fail)
    clear e1 e2
    have HI2 := Aside0.mk (HI.out w1 (w1.drewN nq) HI1.out (fun _ _ _ => rfl))
    have HK2 := Aside0.mk (keep_drewN HK.out nq)
    have HR2 := Aside0.mk (HR.out.drewN nq)
    clear c0 c1 hb1
    generalize (⟨a, er, bd⟩ : R3) = s2 at HH2 HR2
    clear HR HK HI1 HH hn
    generalize w1.drewN nq = w2 at HI2 HK2 HR2 ⊢
    go_wp2_with fail
  all_goals (
    rw [HH2.out] at HSM
    have HS2 := Aside0.mk (show s2.err = 0 → n ≤ 131072 from fun h => by have := HSM.out h; omega)
    go_loopw [5, 6] (fun v5 v6 wr => ∃ (m : Nat) (s3 : R3) (l : List S74), v5 = .int .u64 (m : Nat) ∧ Aside0 (LisR k74 74 w0 w g b I item n s2 m s3 l v6 wr)) (fun v5 _ _ => (intOf v5).toNat)
    case atStart => exact ⟨n, s2, [], rfl, ⟨LisR.start HR2.out HK2.out HI2.out⟩⟩
    case round =>
      obtain ⟨m, s3, l, rfl, HL⟩ := hrel
      have hmn : m ≤ n := by have := HL.out.sum; omega
      obtain ⟨A3, cc3, hb3, hge3, hC3, hcap3⟩ := HL.out.rd.is
      have d2 := cellS151_2 hb3
      clear hb3 hge3 hC3 hcap3
      obtain ⟨a3, er3, bd3⟩ := s3
      by_cases hm : m = 0
      · have hb2 : decide ((0 : Int) < (m : Int)) = false := decide_eq_false (by omega)
        have HM := Aside0.mk hm
        have hm2 : ¬ 0 < m := by omega
        clear hm
        go_wp2_with fail
        go_ret
        rw [show listR b item s = listL item n s2 by unfold listR; rw [HH2.out]]
        exact HL.out.done (.inl HM.out)
      · by_cases he : er3 = 0
        · obtain ⟨m1, rfl⟩ : ∃ m1, m = m1 + 1 := ⟨m - 1, by omega⟩
          have hb2 : decide ((0 : Int) < ((m1 + 1 : Nat) : Int)) = true := decide_eq_true (by omega)
          have hm2 : 0 < m1 + 1 := by omega
          have hb3 : (er3 == 0) = true := by simp [he]
          have HE := Aside0.mk (show (⟨a3, er3, bd3⟩ : R3).err = 0 from he)
          clear he hm
          go_wp2_with fail
          go_at_call 124
          with_reducible refine (HIT.out ⟨a3, er3, bd3⟩ wr HL.out.rd HL.out.inv (keep_size HL.out.keep)).mono ?_
          intro e w3 hp
          obtain ⟨cs, rfl, hM, hR4, hK4⟩ := hp
          obtain ⟨x, hx⟩ : ∃ x, (item ⟨a3, er3, bd3⟩).1 = x := ⟨_, rfl⟩
          rw [hx] at hM
          have HX := Aside0.mk hx
          have HR4 := Aside0.mk hR4
          have HK4 := Aside0.mk hK4
          obtain rfl := k74_openM hM
          clear hM
          have HRW := Aside0.mk (Kd.R_keep HL.out.row HK4.out (fun _ hk => hk))
          have HOK := Aside0.mk (show ∀ k_, wr.heap.size ≤ k_ → k_ ≠ g ∧ some k_ ≠ u6.ownBlock from fun k_ hk => ⟨by have := HL.out.rd.lt; omega, fun e_ => by obtain ⟨inner_, ho_⟩ := Kd.R_own HL.out.row; have := (ho_.lt k_ e_.symm).2; omega⟩)
          have HFR := Aside0.mk (show ∀ k_, w3.heap.size ≤ k_ → k_ ≠ g from fun k_ hk => by have := HR4.out.lt; omega)
          have HBS := Aside0.mk (show w.heap.size ≤ w3.heap.size from Nat.le_trans HL.out.keep.1 HK4.out.1)
          have HLN := Aside0.mk (show (l.length + 1) * 16 ≤ 140737488355328 from by have := HL.out.sum; have := HL.out.few' HS2.out HE.out; omega)
          clear hR4 hK4 hx d2 hb2 hb3
          go_wp2_with (at_builtin; refine Kd.R_append k74 w.heap.size rfl _ _ 70 74 (.agg #[(.int .i64 0), (.int .i64 0)]) 16 rfl Try.underlying70 info74' rfl (by decide) (by decide) u6 l x [.int .i64 x.f0, .int .i64 x.f1] (fun k_ => k_ ≠ g) (fun k_ => wr.heap.size ≤ k_) rfl rfl (k74_mkM w3 w.heap.size (fun k_ => wr.heap.size ≤ k_) x) HOK.out HFR.out HRW.out (Below.refl _ _) HBS.out HLN.out ?_; intro v9 w4 ho9 _ hg9 _)
          rw [← HX.out] at ho9
          have HN := Aside0.mk (HL.out.next HS2.out HE.out HGW.out HI.out HR4.out HK4.out ho9 hg9)
          clear ho9 hg9
          try go_wp2_with fail
          go_roundw
          case rel => exact ⟨m1, _, _, by first | rfl | go_num | (congr 1; omega), HN⟩
          case measure => simp [intOf] <;> omega
        · have hb2 : decide ((0 : Int) < (m : Int)) = true := decide_eq_true (by omega)
          have hm2 : 0 < m := by omega
          have hb3 : (er3 == 0) = false := by simp [he]
          have HE := Aside0.mk (show ¬ (⟨a3, er3, bd3⟩ : R3).err = 0 from he)
          clear he hm
          go_wp2_with fail
          go_ret
          rw [show listR b item s = listL item n s2 by unfold listR; rw [HH2.out]]
          exact HL.out.done (.inr HE.out))
theorem info97' : (Try.prog.info? 97).map (fun i => (i.zero, i.size, i.bytes)) = some (some (.agg #[(.string ⟨#[]⟩), (.slice none 0 0)]), 2, 40) := by kernel_rfl
set_option maxHeartbeats 4000000 in
theorem list94 (w0 w : World) (g : Nat) (b : List Int) (s : R3) (I : World → Prop) (item : R3 → S97 × R3) (h : Rd w0 w g b s) (hI0 : I w) (hI : ∀ w1 w2 : World, I w1 → (∀ k, k < w.heap.size → k ≠ g → w2.heap[k]? = w1.heap[k]?) → I w2)
    (hit : ∀ (s2 : R3) (w2 : World), Rd w0 w2 g b s2 → I w2 → w.heap.size ≤ w2.heap.size → Calls Try.prog 95 #[.pointer (some ⟨g, 0, none⟩)] w2 (IP k97 w0 g b (item s2).1 (item s2).2 w2)) :
    Calls Try.prog 94 #[.pointer (some ⟨g, 0, none⟩), .func (.func 95) #[.pointer (some ⟨g, 0, none⟩)] #[]] w (MP k97 97 w0 g b (listR b item s).1 (listR b item s).2 w) := by
  have H0 := Aside0.mk h
  have HI0 := Aside0.mk hI0
  have HI := Aside0.mk hI
  have HIT := Aside0.mk hit
  have hr := numR_range h.byt h.good
  have hg := numR_good h.good
  have HSM := Aside0.mk (headR_small h.byt h.good)
  have HGW := Aside0.mk h.lt.1
  clear h hI0 hI hit
  go_enter Try.func94, Try.ntmps94
  go_wp2_with fail
  go_at_call 121
  with_reducible refine (number_r H0.out).mono ?_
  intro e w1 hp
  obtain ⟨rfl, hR, hK⟩ := hp
  obtain ⟨n, hn0⟩ : ∃ n : Nat, (numR b s).1 = (n : Int) := ⟨(numR b s).1.toNat, by omega⟩
  obtain ⟨s1, hs0⟩ : ∃ s1, (numR b s).2 = s1 := ⟨_, rfl⟩
  rw [hs0] at hg hR
  rw [hn0] at hr ⊢
  have HH := Aside0.mk (show headR b s = (n, if (n : Int) > b.length - s1.at_ then shortR b s1 else s1) by unfold headR; rw [hn0, hs0, Int.toNat_natCast])
  clear hn0 hs0
  obtain ⟨a, er, bd⟩ := s1
  have ha0 : 0 ≤ a := hg.lo
  have ha1 : a ≤ b.length := hg.hi
  have hlen := hR.len
  have HR := Aside0.mk hR
  have HK := Aside0.mk hK
  have HI1 := Aside0.mk (HI.out w w1 HI0.out (fun k hk hkg => hK.2 k hk hkg (by simp)))
  obtain ⟨A, c, hb, hge, hC, hcap⟩ := hR.is
  have c0 := cellS151_0 hb
  have c1 := cellS151_1 hb
  clear hR hK hb hge hC hcap hg
  have e1 : IntKind.i64.wrap ((b.length : Int) - a) = (b.length : Int) - a := by rw [IntKind.wrap_i64]; omega
  have e2 : IntKind.u64.wrap ((b.length : Int) - a) = (b.length : Int) - a := by rw [IntKind.wrap_u64]; omega
  by_cases hn : (n : Int) > b.length - a
  case' pos =>
    have hb1 : decide ((b.length : Int) - a < (n : Int)) = true := decide_eq_true hn
    have HH2 := Aside0.mk (HH.out.trans (by rw [if_pos hn] : _ = (n, shortR b ⟨a, er, bd⟩)))
    go_wp2_with fail
    go_quiet (fail)
    clear e1 e2
    go_wp2_with fail
    go_at_call 90
    with_reducible refine (short_r (HR.out.drewN nq)).mono ?_
    intro e w2 hp
    obtain ⟨rfl, hR2, hK2⟩ := hp
    have HI2 := Aside0.mk (HI.out w1 w2 HI1.out (fun k hk hkg => hK2.2 k (Nat.lt_of_lt_of_le hk HK.out.1) hkg (by simp)))
    have HK2 := Aside0.mk ((keep_drewN HK.out nq).trans hK2 (.inl rfl))
    have HR2 := Aside0.mk hR2
    clear hR2 hK2 c0 c1 hb1
    generalize shortR b ⟨a, er, bd⟩ = s2 at HH2 HR2
    clear HR HK HI1 HH hn
    go_wp2_with fail
  case' neg =>
    have hb1 : decide ((b.length : Int) - a < (n : Int)) = false := decide_eq_false hn
    have HH2 := Aside0.mk (HH.out.trans (by rw [if_neg hn] : _ = (n, (⟨a, er, bd⟩ : R3))))
    go_wp2_with fail
    go_quiet (fail)
    clear e1 e2
    have HI2 := Aside0.mk (HI.out w1 (w1.drewN nq) HI1.out (fun _ _ _ => rfl))
    have HK2 := Aside0.mk (keep_drewN HK.out nq)
    have HR2 := Aside0.mk (HR.out.drewN nq)
    clear c0 c1 hb1
    generalize (⟨a, er, bd⟩ : R3) = s2 at HH2 HR2
    clear HR HK HI1 HH hn
    generalize w1.drewN nq = w2 at HI2 HK2 HR2 ⊢
    go_wp2_with fail
  all_goals (
    rw [HH2.out] at HSM
    have HS2 := Aside0.mk (show s2.err = 0 → n ≤ 131072 from fun h => by have := HSM.out h; omega)
    go_loopw [5, 6] (fun v5 v6 wr => ∃ (m : Nat) (s3 : R3) (l : List S97), v5 = .int .u64 (m : Nat) ∧ Aside0 (LisR k97 97 w0 w g b I item n s2 m s3 l v6 wr)) (fun v5 _ _ => (intOf v5).toNat)
    case atStart => exact ⟨n, s2, [], rfl, ⟨LisR.start HR2.out HK2.out HI2.out⟩⟩
    case round =>
      obtain ⟨m, s3, l, rfl, HL⟩ := hrel
      have hmn : m ≤ n := by have := HL.out.sum; omega
      obtain ⟨A3, cc3, hb3, hge3, hC3, hcap3⟩ := HL.out.rd.is
      have d2 := cellS151_2 hb3
      clear hb3 hge3 hC3 hcap3
      obtain ⟨a3, er3, bd3⟩ := s3
      by_cases hm : m = 0
      · have hb2 : decide ((0 : Int) < (m : Int)) = false := decide_eq_false (by omega)
        have HM := Aside0.mk hm
        have hm2 : ¬ 0 < m := by omega
        clear hm
        go_wp2_with fail
        go_ret
        rw [show listR b item s = listL item n s2 by unfold listR; rw [HH2.out]]
        exact HL.out.done (.inl HM.out)
      · by_cases he : er3 = 0
        · obtain ⟨m1, rfl⟩ : ∃ m1, m = m1 + 1 := ⟨m - 1, by omega⟩
          have hb2 : decide ((0 : Int) < ((m1 + 1 : Nat) : Int)) = true := decide_eq_true (by omega)
          have hm2 : 0 < m1 + 1 := by omega
          have hb3 : (er3 == 0) = true := by simp [he]
          have HE := Aside0.mk (show (⟨a3, er3, bd3⟩ : R3).err = 0 from he)
          clear he hm
          go_wp2_with fail
          go_at_call 95
          with_reducible refine (HIT.out ⟨a3, er3, bd3⟩ wr HL.out.rd HL.out.inv (keep_size HL.out.keep)).mono ?_
          intro e w3 hp
          obtain ⟨cs, rfl, hM, hR4, hK4⟩ := hp
          obtain ⟨x, hx⟩ : ∃ x, (item ⟨a3, er3, bd3⟩).1 = x := ⟨_, rfl⟩
          rw [hx] at hM
          have HX := Aside0.mk hx
          have HR4 := Aside0.mk hR4
          have HK4 := Aside0.mk hK4
          obtain ⟨v1, rfl, hq1⟩ := k97_openM hM
          have Q1 := Aside0.mk hq1
          clear hM hq1
          have P1 := Aside0.mk (Kd.R_lower (Kd.R_mono (Kd.R_bound Q1.out) (fun k_ (hk : _ ∧ wr.heap.size ≤ k_ ∧ _) => hk.2.1)) HL.out.keep.1)
          have HRW := Aside0.mk (Kd.R_keep HL.out.row HK4.out (fun _ hk => hk))
          have HOK := Aside0.mk (show ∀ k_, wr.heap.size ≤ k_ → k_ ≠ g ∧ some k_ ≠ u6.ownBlock from fun k_ hk => ⟨by have := HL.out.rd.lt; omega, fun e_ => by obtain ⟨inner_, ho_⟩ := Kd.R_own HL.out.row; have := (ho_.lt k_ e_.symm).2; omega⟩)
          have HFR := Aside0.mk (show ∀ k_, w3.heap.size ≤ k_ → k_ ≠ g from fun k_ hk => by have := HR4.out.lt; omega)
          have HBS := Aside0.mk (show w.heap.size ≤ w3.heap.size from Nat.le_trans HL.out.keep.1 HK4.out.1)
          have HLN := Aside0.mk (show (l.length + 1) * 40 ≤ 140737488355328 from by have := HL.out.sum; have := HL.out.few' HS2.out HE.out; omega)
          clear hR4 hK4 hx d2 hb2 hb3
          go_wp2_with (at_builtin; refine Kd.R_append k97 w.heap.size rfl _ _ 27 97 (.agg #[(.string ⟨#[]⟩), (.slice none 0 0)]) 40 rfl Try.underlying27 info97' rfl (by decide) (by decide) u6 l x [.string x.f0, v1] (fun k_ => k_ ≠ g) (fun k_ => wr.heap.size ≤ k_) rfl rfl (k97_mkM w3 w.heap.size (fun k_ => wr.heap.size ≤ k_) x P1.out) HOK.out HFR.out HRW.out (Below.refl _ _) HBS.out HLN.out ?_; intro v9 w4 ho9 _ hg9 _)
          rw [← HX.out] at ho9
          have HN := Aside0.mk (HL.out.next HS2.out HE.out HGW.out HI.out HR4.out HK4.out ho9 hg9)
          clear ho9 hg9
          try go_wp2_with fail
          go_roundw
          case rel => exact ⟨m1, _, _, by first | rfl | go_num | (congr 1; omega), HN⟩
          case measure => simp [intOf] <;> omega
        · have hb2 : decide ((0 : Int) < (m : Int)) = true := decide_eq_true (by omega)
          have hm2 : 0 < m := by omega
          have hb3 : (er3 == 0) = false := by simp [he]
          have HE := Aside0.mk (show ¬ (⟨a3, er3, bd3⟩ : R3).err = 0 from he)
          clear he hm
          go_wp2_with fail
          go_ret
          rw [show listR b item s = listL item n s2 by unfold listR; rw [HH2.out]]
          exact HL.out.done (.inr HE.out))
theorem info72' : (Try.prog.info? 72).map (fun i => (i.zero, i.size, i.bytes)) = some (some (.agg #[(.string ⟨#[]⟩), (.slice none 0 0)]), 2, 40) := by kernel_rfl
set_option maxHeartbeats 4000000 in
theorem list96 (w0 w : World) (g : Nat) (b : List Int) (s : R3) (I : World → Prop) (item : R3 → S72 × R3) (h : Rd w0 w g b s) (hI0 : I w) (hI : ∀ w1 w2 : World, I w1 → (∀ k, k < w.heap.size → k ≠ g → w2.heap[k]? = w1.heap[k]?) → I w2)
    (hit : ∀ (s2 : R3) (w2 : World), Rd w0 w2 g b s2 → I w2 → w.heap.size ≤ w2.heap.size → Calls Try.prog 97 #[.pointer (some ⟨g, 0, none⟩)] w2 (IP k72 w0 g b (item s2).1 (item s2).2 w2)) :
    Calls Try.prog 96 #[.pointer (some ⟨g, 0, none⟩), .func (.func 97) #[.pointer (some ⟨g, 0, none⟩)] #[]] w (MP k72 72 w0 g b (listR b item s).1 (listR b item s).2 w) := by
  have H0 := Aside0.mk h
  have HI0 := Aside0.mk hI0
  have HI := Aside0.mk hI
  have HIT := Aside0.mk hit
  have hr := numR_range h.byt h.good
  have hg := numR_good h.good
  have HSM := Aside0.mk (headR_small h.byt h.good)
  have HGW := Aside0.mk h.lt.1
  clear h hI0 hI hit
  go_enter Try.func96, Try.ntmps96
  go_wp2_with fail
  go_at_call 121
  with_reducible refine (number_r H0.out).mono ?_
  intro e w1 hp
  obtain ⟨rfl, hR, hK⟩ := hp
  obtain ⟨n, hn0⟩ : ∃ n : Nat, (numR b s).1 = (n : Int) := ⟨(numR b s).1.toNat, by omega⟩
  obtain ⟨s1, hs0⟩ : ∃ s1, (numR b s).2 = s1 := ⟨_, rfl⟩
  rw [hs0] at hg hR
  rw [hn0] at hr ⊢
  have HH := Aside0.mk (show headR b s = (n, if (n : Int) > b.length - s1.at_ then shortR b s1 else s1) by unfold headR; rw [hn0, hs0, Int.toNat_natCast])
  clear hn0 hs0
  obtain ⟨a, er, bd⟩ := s1
  have ha0 : 0 ≤ a := hg.lo
  have ha1 : a ≤ b.length := hg.hi
  have hlen := hR.len
  have HR := Aside0.mk hR
  have HK := Aside0.mk hK
  have HI1 := Aside0.mk (HI.out w w1 HI0.out (fun k hk hkg => hK.2 k hk hkg (by simp)))
  obtain ⟨A, c, hb, hge, hC, hcap⟩ := hR.is
  have c0 := cellS151_0 hb
  have c1 := cellS151_1 hb
  clear hR hK hb hge hC hcap hg
  have e1 : IntKind.i64.wrap ((b.length : Int) - a) = (b.length : Int) - a := by rw [IntKind.wrap_i64]; omega
  have e2 : IntKind.u64.wrap ((b.length : Int) - a) = (b.length : Int) - a := by rw [IntKind.wrap_u64]; omega
  by_cases hn : (n : Int) > b.length - a
  case' pos =>
    have hb1 : decide ((b.length : Int) - a < (n : Int)) = true := decide_eq_true hn
    have HH2 := Aside0.mk (HH.out.trans (by rw [if_pos hn] : _ = (n, shortR b ⟨a, er, bd⟩)))
    go_wp2_with fail
    go_quiet (fail)
    clear e1 e2
    go_wp2_with fail
    go_at_call 90
    with_reducible refine (short_r (HR.out.drewN nq)).mono ?_
    intro e w2 hp
    obtain ⟨rfl, hR2, hK2⟩ := hp
    have HI2 := Aside0.mk (HI.out w1 w2 HI1.out (fun k hk hkg => hK2.2 k (Nat.lt_of_lt_of_le hk HK.out.1) hkg (by simp)))
    have HK2 := Aside0.mk ((keep_drewN HK.out nq).trans hK2 (.inl rfl))
    have HR2 := Aside0.mk hR2
    clear hR2 hK2 c0 c1 hb1
    generalize shortR b ⟨a, er, bd⟩ = s2 at HH2 HR2
    clear HR HK HI1 HH hn
    go_wp2_with fail
  case' neg =>
    have hb1 : decide ((b.length : Int) - a < (n : Int)) = false := decide_eq_false hn
    have HH2 := Aside0.mk (HH.out.trans (by rw [if_neg hn] : _ = (n, (⟨a, er, bd⟩ : R3))))
    go_wp2_with fail
    go_quiet (fail)
    clear e1 e2
    have HI2 := Aside0.mk (HI.out w1 (w1.drewN nq) HI1.out (fun _ _ _ => rfl))
    have HK2 := Aside0.mk (keep_drewN HK.out nq)
    have HR2 := Aside0.mk (HR.out.drewN nq)
    clear c0 c1 hb1
    generalize (⟨a, er, bd⟩ : R3) = s2 at HH2 HR2
    clear HR HK HI1 HH hn
    generalize w1.drewN nq = w2 at HI2 HK2 HR2 ⊢
    go_wp2_with fail
  all_goals (
    rw [HH2.out] at HSM
    have HS2 := Aside0.mk (show s2.err = 0 → n ≤ 131072 from fun h => by have := HSM.out h; omega)
    go_loopw [5, 6] (fun v5 v6 wr => ∃ (m : Nat) (s3 : R3) (l : List S72), v5 = .int .u64 (m : Nat) ∧ Aside0 (LisR k72 72 w0 w g b I item n s2 m s3 l v6 wr)) (fun v5 _ _ => (intOf v5).toNat)
    case atStart => exact ⟨n, s2, [], rfl, ⟨LisR.start HR2.out HK2.out HI2.out⟩⟩
    case round =>
      obtain ⟨m, s3, l, rfl, HL⟩ := hrel
      have hmn : m ≤ n := by have := HL.out.sum; omega
      obtain ⟨A3, cc3, hb3, hge3, hC3, hcap3⟩ := HL.out.rd.is
      have d2 := cellS151_2 hb3
      clear hb3 hge3 hC3 hcap3
      obtain ⟨a3, er3, bd3⟩ := s3
      by_cases hm : m = 0
      · have hb2 : decide ((0 : Int) < (m : Int)) = false := decide_eq_false (by omega)
        have HM := Aside0.mk hm
        have hm2 : ¬ 0 < m := by omega
        clear hm
        go_wp2_with fail
        go_ret
        rw [show listR b item s = listL item n s2 by unfold listR; rw [HH2.out]]
        exact HL.out.done (.inl HM.out)
      · by_cases he : er3 = 0
        · obtain ⟨m1, rfl⟩ : ∃ m1, m = m1 + 1 := ⟨m - 1, by omega⟩
          have hb2 : decide ((0 : Int) < ((m1 + 1 : Nat) : Int)) = true := decide_eq_true (by omega)
          have hm2 : 0 < m1 + 1 := by omega
          have hb3 : (er3 == 0) = true := by simp [he]
          have HE := Aside0.mk (show (⟨a3, er3, bd3⟩ : R3).err = 0 from he)
          clear he hm
          go_wp2_with fail
          go_at_call 97
          with_reducible refine (HIT.out ⟨a3, er3, bd3⟩ wr HL.out.rd HL.out.inv (keep_size HL.out.keep)).mono ?_
          intro e w3 hp
          obtain ⟨cs, rfl, hM, hR4, hK4⟩ := hp
          obtain ⟨x, hx⟩ : ∃ x, (item ⟨a3, er3, bd3⟩).1 = x := ⟨_, rfl⟩
          rw [hx] at hM
          have HX := Aside0.mk hx
          have HR4 := Aside0.mk hR4
          have HK4 := Aside0.mk hK4
          obtain ⟨v1, rfl, hq1⟩ := k72_openM hM
          have Q1 := Aside0.mk hq1
          clear hM hq1
          have P1 := Aside0.mk (Kd.R_lower (Kd.R_mono (Kd.R_bound Q1.out) (fun k_ (hk : _ ∧ wr.heap.size ≤ k_ ∧ _) => hk.2.1)) HL.out.keep.1)
          have HRW := Aside0.mk (Kd.R_keep HL.out.row HK4.out (fun _ hk => hk))
          have HOK := Aside0.mk (show ∀ k_, wr.heap.size ≤ k_ → k_ ≠ g ∧ some k_ ≠ u6.ownBlock from fun k_ hk => ⟨by have := HL.out.rd.lt; omega, fun e_ => by obtain ⟨inner_, ho_⟩ := Kd.R_own HL.out.row; have := (ho_.lt k_ e_.symm).2; omega⟩)
          have HFR := Aside0.mk (show ∀ k_, w3.heap.size ≤ k_ → k_ ≠ g from fun k_ hk => by have := HR4.out.lt; omega)
          have HBS := Aside0.mk (show w.heap.size ≤ w3.heap.size from Nat.le_trans HL.out.keep.1 HK4.out.1)
          have HLN := Aside0.mk (show (l.length + 1) * 40 ≤ 140737488355328 from by have := HL.out.sum; have := HL.out.few' HS2.out HE.out; omega)
          clear hR4 hK4 hx d2 hb2 hb3
          go_wp2_with (at_builtin; refine Kd.R_append k72 w.heap.size rfl _ _ 28 72 (.agg #[(.string ⟨#[]⟩), (.slice none 0 0)]) 40 rfl Try.underlying28 info72' rfl (by decide) (by decide) u6 l x [.string x.f0, v1] (fun k_ => k_ ≠ g) (fun k_ => wr.heap.size ≤ k_) rfl rfl (k72_mkM w3 w.heap.size (fun k_ => wr.heap.size ≤ k_) x P1.out) HOK.out HFR.out HRW.out (Below.refl _ _) HBS.out HLN.out ?_; intro v9 w4 ho9 _ hg9 _)
          rw [← HX.out] at ho9
          have HN := Aside0.mk (HL.out.next HS2.out HE.out HGW.out HI.out HR4.out HK4.out ho9 hg9)
          clear ho9 hg9
          try go_wp2_with fail
          go_roundw
          case rel => exact ⟨m1, _, _, by first | rfl | go_num | (congr 1; omega), HN⟩
          case measure => simp [intOf] <;> omega
        · have hb2 : decide ((0 : Int) < (m : Int)) = true := decide_eq_true (by omega)
          have hm2 : 0 < m := by omega
          have hb3 : (er3 == 0) = false := by simp [he]
          have HE := Aside0.mk (show ¬ (⟨a3, er3, bd3⟩ : R3).err = 0 from he)
          clear he hm
          go_wp2_with fail
          go_ret
          rw [show listR b item s = listL item n s2 by unfold listR; rw [HH2.out]]
          exact HL.out.done (.inr HE.out))
theorem info69' : (Try.prog.info? 69).map (fun i => (i.zero, i.size, i.bytes)) = some (some (.agg #[(.string ⟨#[]⟩), (.int .i64 0)]), 2, 24) := by kernel_rfl
set_option maxHeartbeats 4000000 in
theorem list98 (w0 w : World) (g : Nat) (b : List Int) (s : R3) (I : World → Prop) (item : R3 → S69 × R3) (h : Rd w0 w g b s) (hI0 : I w) (hI : ∀ w1 w2 : World, I w1 → (∀ k, k < w.heap.size → k ≠ g → w2.heap[k]? = w1.heap[k]?) → I w2)
    (hit : ∀ (s2 : R3) (w2 : World), Rd w0 w2 g b s2 → I w2 → w.heap.size ≤ w2.heap.size → Calls Try.prog 99 #[.pointer (some ⟨g, 0, none⟩)] w2 (IP k69 w0 g b (item s2).1 (item s2).2 w2)) :
    Calls Try.prog 98 #[.pointer (some ⟨g, 0, none⟩), .func (.func 99) #[.pointer (some ⟨g, 0, none⟩)] #[]] w (MP k69 69 w0 g b (listR b item s).1 (listR b item s).2 w) := by
  have H0 := Aside0.mk h
  have HI0 := Aside0.mk hI0
  have HI := Aside0.mk hI
  have HIT := Aside0.mk hit
  have hr := numR_range h.byt h.good
  have hg := numR_good h.good
  have HSM := Aside0.mk (headR_small h.byt h.good)
  have HGW := Aside0.mk h.lt.1
  clear h hI0 hI hit
  go_enter Try.func98, Try.ntmps98
  go_wp2_with fail
  go_at_call 121
  with_reducible refine (number_r H0.out).mono ?_
  intro e w1 hp
  obtain ⟨rfl, hR, hK⟩ := hp
  obtain ⟨n, hn0⟩ : ∃ n : Nat, (numR b s).1 = (n : Int) := ⟨(numR b s).1.toNat, by omega⟩
  obtain ⟨s1, hs0⟩ : ∃ s1, (numR b s).2 = s1 := ⟨_, rfl⟩
  rw [hs0] at hg hR
  rw [hn0] at hr ⊢
  have HH := Aside0.mk (show headR b s = (n, if (n : Int) > b.length - s1.at_ then shortR b s1 else s1) by unfold headR; rw [hn0, hs0, Int.toNat_natCast])
  clear hn0 hs0
  obtain ⟨a, er, bd⟩ := s1
  have ha0 : 0 ≤ a := hg.lo
  have ha1 : a ≤ b.length := hg.hi
  have hlen := hR.len
  have HR := Aside0.mk hR
  have HK := Aside0.mk hK
  have HI1 := Aside0.mk (HI.out w w1 HI0.out (fun k hk hkg => hK.2 k hk hkg (by simp)))
  obtain ⟨A, c, hb, hge, hC, hcap⟩ := hR.is
  have c0 := cellS151_0 hb
  have c1 := cellS151_1 hb
  clear hR hK hb hge hC hcap hg
  have e1 : IntKind.i64.wrap ((b.length : Int) - a) = (b.length : Int) - a := by rw [IntKind.wrap_i64]; omega
  have e2 : IntKind.u64.wrap ((b.length : Int) - a) = (b.length : Int) - a := by rw [IntKind.wrap_u64]; omega
  by_cases hn : (n : Int) > b.length - a
  case' pos =>
    have hb1 : decide ((b.length : Int) - a < (n : Int)) = true := decide_eq_true hn
    have HH2 := Aside0.mk (HH.out.trans (by rw [if_pos hn] : _ = (n, shortR b ⟨a, er, bd⟩)))
    go_wp2_with fail
    go_quiet (fail)
    clear e1 e2
    go_wp2_with fail
    go_at_call 90
    with_reducible refine (short_r (HR.out.drewN nq)).mono ?_
    intro e w2 hp
    obtain ⟨rfl, hR2, hK2⟩ := hp
    have HI2 := Aside0.mk (HI.out w1 w2 HI1.out (fun k hk hkg => hK2.2 k (Nat.lt_of_lt_of_le hk HK.out.1) hkg (by simp)))
    have HK2 := Aside0.mk ((keep_drewN HK.out nq).trans hK2 (.inl rfl))
    have HR2 := Aside0.mk hR2
    clear hR2 hK2 c0 c1 hb1
    generalize shortR b ⟨a, er, bd⟩ = s2 at HH2 HR2
    clear HR HK HI1 HH hn
    go_wp2_with fail
  case' neg =>
    have hb1 : decide ((b.length : Int) - a < (n : Int)) = false := decide_eq_false hn
    have HH2 := Aside0.mk (HH.out.trans (by rw [if_neg hn] : _ = (n, (⟨a, er, bd⟩ : R3))))
    go_wp2_with fail
    go_quiet (fail)
    clear e1 e2
    have HI2 := Aside0.mk (HI.out w1 (w1.drewN nq) HI1.out (fun _ _ _ => rfl))
    have HK2 := Aside0.mk (keep_drewN HK.out nq)
    have HR2 := Aside0.mk (HR.out.drewN nq)
    clear c0 c1 hb1
    generalize (⟨a, er, bd⟩ : R3) = s2 at HH2 HR2
    clear HR HK HI1 HH hn
    generalize w1.drewN nq = w2 at HI2 HK2 HR2 ⊢
    go_wp2_with fail
  all_goals (
    rw [HH2.out] at HSM
    have HS2 := Aside0.mk (show s2.err = 0 → n ≤ 131072 from fun h => by have := HSM.out h; omega)
    go_loopw [5, 6] (fun v5 v6 wr => ∃ (m : Nat) (s3 : R3) (l : List S69), v5 = .int .u64 (m : Nat) ∧ Aside0 (LisR k69 69 w0 w g b I item n s2 m s3 l v6 wr)) (fun v5 _ _ => (intOf v5).toNat)
    case atStart => exact ⟨n, s2, [], rfl, ⟨LisR.start HR2.out HK2.out HI2.out⟩⟩
    case round =>
      obtain ⟨m, s3, l, rfl, HL⟩ := hrel
      have hmn : m ≤ n := by have := HL.out.sum; omega
      obtain ⟨A3, cc3, hb3, hge3, hC3, hcap3⟩ := HL.out.rd.is
      have d2 := cellS151_2 hb3
      clear hb3 hge3 hC3 hcap3
      obtain ⟨a3, er3, bd3⟩ := s3
      by_cases hm : m = 0
      · have hb2 : decide ((0 : Int) < (m : Int)) = false := decide_eq_false (by omega)
        have HM := Aside0.mk hm
        have hm2 : ¬ 0 < m := by omega
        clear hm
        go_wp2_with fail
        go_ret
        rw [show listR b item s = listL item n s2 by unfold listR; rw [HH2.out]]
        exact HL.out.done (.inl HM.out)
      · by_cases he : er3 = 0
        · obtain ⟨m1, rfl⟩ : ∃ m1, m = m1 + 1 := ⟨m - 1, by omega⟩
          have hb2 : decide ((0 : Int) < ((m1 + 1 : Nat) : Int)) = true := decide_eq_true (by omega)
          have hm2 : 0 < m1 + 1 := by omega
          have hb3 : (er3 == 0) = true := by simp [he]
          have HE := Aside0.mk (show (⟨a3, er3, bd3⟩ : R3).err = 0 from he)
          clear he hm
          go_wp2_with fail
          go_at_call 99
          with_reducible refine (HIT.out ⟨a3, er3, bd3⟩ wr HL.out.rd HL.out.inv (keep_size HL.out.keep)).mono ?_
          intro e w3 hp
          obtain ⟨cs, rfl, hM, hR4, hK4⟩ := hp
          obtain ⟨x, hx⟩ : ∃ x, (item ⟨a3, er3, bd3⟩).1 = x := ⟨_, rfl⟩
          rw [hx] at hM
          have HX := Aside0.mk hx
          have HR4 := Aside0.mk hR4
          have HK4 := Aside0.mk hK4
          obtain rfl := k69_openM hM
          clear hM
          have HRW := Aside0.mk (Kd.R_keep HL.out.row HK4.out (fun _ hk => hk))
          have HOK := Aside0.mk (show ∀ k_, wr.heap.size ≤ k_ → k_ ≠ g ∧ some k_ ≠ u6.ownBlock from fun k_ hk => ⟨by have := HL.out.rd.lt; omega, fun e_ => by obtain ⟨inner_, ho_⟩ := Kd.R_own HL.out.row; have := (ho_.lt k_ e_.symm).2; omega⟩)
          have HFR := Aside0.mk (show ∀ k_, w3.heap.size ≤ k_ → k_ ≠ g from fun k_ hk => by have := HR4.out.lt; omega)
          have HBS := Aside0.mk (show w.heap.size ≤ w3.heap.size from Nat.le_trans HL.out.keep.1 HK4.out.1)
          have HLN := Aside0.mk (show (l.length + 1) * 24 ≤ 140737488355328 from by have := HL.out.sum; have := HL.out.few' HS2.out HE.out; omega)
          clear hR4 hK4 hx d2 hb2 hb3
          go_wp2_with (at_builtin; refine Kd.R_append k69 w.heap.size rfl _ _ 29 69 (.agg #[(.string ⟨#[]⟩), (.int .i64 0)]) 24 rfl Try.underlying29 info69' rfl (by decide) (by decide) u6 l x [.string x.f0, .int .i64 x.f1] (fun k_ => k_ ≠ g) (fun k_ => wr.heap.size ≤ k_) rfl rfl (k69_mkM w3 w.heap.size (fun k_ => wr.heap.size ≤ k_) x) HOK.out HFR.out HRW.out (Below.refl _ _) HBS.out HLN.out ?_; intro v9 w4 ho9 _ hg9 _)
          rw [← HX.out] at ho9
          have HN := Aside0.mk (HL.out.next HS2.out HE.out HGW.out HI.out HR4.out HK4.out ho9 hg9)
          clear ho9 hg9
          try go_wp2_with fail
          go_roundw
          case rel => exact ⟨m1, _, _, by first | rfl | go_num | (congr 1; omega), HN⟩
          case measure => simp [intOf] <;> omega
        · have hb2 : decide ((0 : Int) < (m : Int)) = true := decide_eq_true (by omega)
          have hm2 : 0 < m := by omega
          have hb3 : (er3 == 0) = false := by simp [he]
          have HE := Aside0.mk (show ¬ (⟨a3, er3, bd3⟩ : R3).err = 0 from he)
          clear he hm
          go_wp2_with fail
          go_ret
          rw [show listR b item s = listL item n s2 by unfold listR; rw [HH2.out]]
          exact HL.out.done (.inr HE.out))
theorem info100' : (Try.prog.info? 100).map (fun i => (i.zero, i.size, i.bytes)) = some (some (.agg #[(.int .i64 0), (.bool false), (.int .i64 0), (.int .i64 0), (.int .i64 0), (.int .i64 0), (.slice none 0 0), (.int .i64 0), (.int .i64 0), (.int .i64 0), (.int .i64 0), (.slice none 0 0)]), 12, 128) := by kernel_rfl
set_option maxHeartbeats 4000000 in
theorem list126 (w0 w : World) (g : Nat) (b : List Int) (s : R3) (I : World → Prop) (item : R3 → S100 × R3) (h : Rd w0 w g b s) (hI0 : I w) (hI : ∀ w1 w2 : World, I w1 → (∀ k, k < w.heap.size → k ≠ g → w2.heap[k]? = w1.heap[k]?) → I w2)
    (hit : ∀ (s2 : R3) (w2 : World), Rd w0 w2 g b s2 → I w2 → w.heap.size ≤ w2.heap.size → Calls Try.prog 127 #[.pointer (some ⟨g, 0, none⟩)] w2 (IP k100 w0 g b (item s2).1 (item s2).2 w2)) :
    Calls Try.prog 126 #[.pointer (some ⟨g, 0, none⟩), .func (.func 127) #[.pointer (some ⟨g, 0, none⟩)] #[]] w (MP k100 100 w0 g b (listR b item s).1 (listR b item s).2 w) := by
  have H0 := Aside0.mk h
  have HI0 := Aside0.mk hI0
  have HI := Aside0.mk hI
  have HIT := Aside0.mk hit
  have hr := numR_range h.byt h.good
  have hg := numR_good h.good
  have HSM := Aside0.mk (headR_small h.byt h.good)
  have HGW := Aside0.mk h.lt.1
  clear h hI0 hI hit
  go_enter Try.func126, Try.ntmps126
  go_wp2_with fail
  go_at_call 121
  with_reducible refine (number_r H0.out).mono ?_
  intro e w1 hp
  obtain ⟨rfl, hR, hK⟩ := hp
  obtain ⟨n, hn0⟩ : ∃ n : Nat, (numR b s).1 = (n : Int) := ⟨(numR b s).1.toNat, by omega⟩
  obtain ⟨s1, hs0⟩ : ∃ s1, (numR b s).2 = s1 := ⟨_, rfl⟩
  rw [hs0] at hg hR
  rw [hn0] at hr ⊢
  have HH := Aside0.mk (show headR b s = (n, if (n : Int) > b.length - s1.at_ then shortR b s1 else s1) by unfold headR; rw [hn0, hs0, Int.toNat_natCast])
  clear hn0 hs0
  obtain ⟨a, er, bd⟩ := s1
  have ha0 : 0 ≤ a := hg.lo
  have ha1 : a ≤ b.length := hg.hi
  have hlen := hR.len
  have HR := Aside0.mk hR
  have HK := Aside0.mk hK
  have HI1 := Aside0.mk (HI.out w w1 HI0.out (fun k hk hkg => hK.2 k hk hkg (by simp)))
  obtain ⟨A, c, hb, hge, hC, hcap⟩ := hR.is
  have c0 := cellS151_0 hb
  have c1 := cellS151_1 hb
  clear hR hK hb hge hC hcap hg
  have e1 : IntKind.i64.wrap ((b.length : Int) - a) = (b.length : Int) - a := by rw [IntKind.wrap_i64]; omega
  have e2 : IntKind.u64.wrap ((b.length : Int) - a) = (b.length : Int) - a := by rw [IntKind.wrap_u64]; omega
  by_cases hn : (n : Int) > b.length - a
  case' pos =>
    have hb1 : decide ((b.length : Int) - a < (n : Int)) = true := decide_eq_true hn
    have HH2 := Aside0.mk (HH.out.trans (by rw [if_pos hn] : _ = (n, shortR b ⟨a, er, bd⟩)))
    go_wp2_with fail
    go_quiet (fail)
    clear e1 e2
    go_wp2_with fail
    go_at_call 90
    with_reducible refine (short_r (HR.out.drewN nq)).mono ?_
    intro e w2 hp
    obtain ⟨rfl, hR2, hK2⟩ := hp
    have HI2 := Aside0.mk (HI.out w1 w2 HI1.out (fun k hk hkg => hK2.2 k (Nat.lt_of_lt_of_le hk HK.out.1) hkg (by simp)))
    have HK2 := Aside0.mk ((keep_drewN HK.out nq).trans hK2 (.inl rfl))
    have HR2 := Aside0.mk hR2
    clear hR2 hK2 c0 c1 hb1
    generalize shortR b ⟨a, er, bd⟩ = s2 at HH2 HR2
    clear HR HK HI1 HH hn
    go_wp2_with fail
  case' neg =>
    have hb1 : decide ((b.length : Int) - a < (n : Int)) = false := decide_eq_false hn
    have HH2 := Aside0.mk (HH.out.trans (by rw [if_neg hn] : _ = (n, (⟨a, er, bd⟩ : R3))))
    go_wp2_with fail
    go_quiet (fail)
    clear e1 e2
    have HI2 := Aside0.mk (HI.out w1 (w1.drewN nq) HI1.out (fun _ _ _ => rfl))
    have HK2 := Aside0.mk (keep_drewN HK.out nq)
    have HR2 := Aside0.mk (HR.out.drewN nq)
    clear c0 c1 hb1
    generalize (⟨a, er, bd⟩ : R3) = s2 at HH2 HR2
    clear HR HK HI1 HH hn
    generalize w1.drewN nq = w2 at HI2 HK2 HR2 ⊢
    go_wp2_with fail
  all_goals (
    rw [HH2.out] at HSM
    have HS2 := Aside0.mk (show s2.err = 0 → n ≤ 131072 from fun h => by have := HSM.out h; omega)
    go_loopw [5, 6] (fun v5 v6 wr => ∃ (m : Nat) (s3 : R3) (l : List S100), v5 = .int .u64 (m : Nat) ∧ Aside0 (LisR k100 100 w0 w g b I item n s2 m s3 l v6 wr)) (fun v5 _ _ => (intOf v5).toNat)
    case atStart => exact ⟨n, s2, [], rfl, ⟨LisR.start HR2.out HK2.out HI2.out⟩⟩
    case round =>
      obtain ⟨m, s3, l, rfl, HL⟩ := hrel
      have hmn : m ≤ n := by have := HL.out.sum; omega
      obtain ⟨A3, cc3, hb3, hge3, hC3, hcap3⟩ := HL.out.rd.is
      have d2 := cellS151_2 hb3
      clear hb3 hge3 hC3 hcap3
      obtain ⟨a3, er3, bd3⟩ := s3
      by_cases hm : m = 0
      · have hb2 : decide ((0 : Int) < (m : Int)) = false := decide_eq_false (by omega)
        have HM := Aside0.mk hm
        have hm2 : ¬ 0 < m := by omega
        clear hm
        go_wp2_with fail
        go_ret
        rw [show listR b item s = listL item n s2 by unfold listR; rw [HH2.out]]
        exact HL.out.done (.inl HM.out)
      · by_cases he : er3 = 0
        · obtain ⟨m1, rfl⟩ : ∃ m1, m = m1 + 1 := ⟨m - 1, by omega⟩
          have hb2 : decide ((0 : Int) < ((m1 + 1 : Nat) : Int)) = true := decide_eq_true (by omega)
          have hm2 : 0 < m1 + 1 := by omega
          have hb3 : (er3 == 0) = true := by simp [he]
          have HE := Aside0.mk (show (⟨a3, er3, bd3⟩ : R3).err = 0 from he)
          clear he hm
          go_wp2_with fail
          go_at_call 127
          with_reducible refine (HIT.out ⟨a3, er3, bd3⟩ wr HL.out.rd HL.out.inv (keep_size HL.out.keep)).mono ?_
          intro e w3 hp
          obtain ⟨cs, rfl, hM, hR4, hK4⟩ := hp
          obtain ⟨x, hx⟩ : ∃ x, (item ⟨a3, er3, bd3⟩).1 = x := ⟨_, rfl⟩
          rw [hx] at hM
          have HX := Aside0.mk hx
          have HR4 := Aside0.mk hR4
          have HK4 := Aside0.mk hK4
          obtain ⟨v6, v11, rfl, hq6, hq11⟩ := k100_openM hM
          have Q6 := Aside0.mk hq6
          have Q11 := Aside0.mk hq11
          clear hM hq6 hq11
          have P6 := Aside0.mk (Kd.R_lower (Kd.R_mono (Kd.R_bound Q6.out) (fun k_ (hk : _ ∧ wr.heap.size ≤ k_ ∧ _) => hk.2.1)) HL.out.keep.1)
          have P11 := Aside0.mk (Kd.R_lower (Kd.R_mono (Kd.R_bound Q11.out) (fun k_ (hk : _ ∧ wr.heap.size ≤ k_ ∧ _) => hk.2.1)) HL.out.keep.1)
          have HRW := Aside0.mk (Kd.R_keep HL.out.row HK4.out (fun _ hk => hk))
          have HOK := Aside0.mk (show ∀ k_, wr.heap.size ≤ k_ → k_ ≠ g ∧ some k_ ≠ u6.ownBlock from fun k_ hk => ⟨by have := HL.out.rd.lt; omega, fun e_ => by obtain ⟨inner_, ho_⟩ := Kd.R_own HL.out.row; have := (ho_.lt k_ e_.symm).2; omega⟩)
          have HFR := Aside0.mk (show ∀ k_, w3.heap.size ≤ k_ → k_ ≠ g from fun k_ hk => by have := HR4.out.lt; omega)
          have HBS := Aside0.mk (show w.heap.size ≤ w3.heap.size from Nat.le_trans HL.out.keep.1 HK4.out.1)
          have HLN := Aside0.mk (show (l.length + 1) * 128 ≤ 140737488355328 from by have := HL.out.sum; have := HL.out.few' HS2.out HE.out; omega)
          clear hR4 hK4 hx d2 hb2 hb3
          go_wp2_with (at_builtin; refine Kd.R_append k100 w.heap.size rfl _ _ 75 100 (.agg #[(.int .i64 0), (.bool false), (.int .i64 0), (.int .i64 0), (.int .i64 0), (.int .i64 0), (.slice none 0 0), (.int .i64 0), (.int .i64 0), (.int .i64 0), (.int .i64 0), (.slice none 0 0)]) 128 rfl Try.underlying75 info100' rfl (by decide) (by decide) u6 l x [.int .i64 x.f0, .bool x.f1, .int .i64 x.f2.f0, .int .i64 x.f2.f1, .int .i64 x.f2.f2, .int .i64 x.f2.f3, v6, .int .i64 x.f3.f0, .int .i64 x.f3.f1, .int .i64 x.f3.f2, .int .i64 x.f3.f3, v11] (fun k_ => k_ ≠ g) (fun k_ => wr.heap.size ≤ k_) rfl rfl (k100_mkM w3 w.heap.size (fun k_ => wr.heap.size ≤ k_) x P6.out P11.out) HOK.out HFR.out HRW.out (Below.refl _ _) HBS.out HLN.out ?_; intro v9 w4 ho9 _ hg9 _)
          rw [← HX.out] at ho9
          have HN := Aside0.mk (HL.out.next HS2.out HE.out HGW.out HI.out HR4.out HK4.out ho9 hg9)
          clear ho9 hg9
          try go_wp2_with fail
          go_roundw
          case rel => exact ⟨m1, _, _, by first | rfl | go_num | (congr 1; omega), HN⟩
          case measure => simp [intOf] <;> omega
        · have hb2 : decide ((0 : Int) < (m : Int)) = true := decide_eq_true (by omega)
          have hm2 : 0 < m := by omega
          have hb3 : (er3 == 0) = false := by simp [he]
          have HE := Aside0.mk (show ¬ (⟨a3, er3, bd3⟩ : R3).err = 0 from he)
          clear he hm
          go_wp2_with fail
          go_ret
          rw [show listR b item s = listL item n s2 by unfold listR; rw [HH2.out]]
          exact HL.out.done (.inr HE.out))
theorem info77' : (Try.prog.info? 77).map (fun i => (i.zero, i.size, i.bytes)) = some (some (.agg #[(.string ⟨#[]⟩), (.bool false), (.bool false), (.int .i64 0), (.int .i64 0), (.int .i64 0), (.slice none 0 0)]), 7, 72) := by kernel_rfl
set_option maxHeartbeats 4000000 in
theorem list100 (w0 w : World) (g : Nat) (b : List Int) (s : R3) (I : World → Prop) (item : R3 → S77 × R3) (h : Rd w0 w g b s) (hI0 : I w) (hI : ∀ w1 w2 : World, I w1 → (∀ k, k < w.heap.size → k ≠ g → w2.heap[k]? = w1.heap[k]?) → I w2)
    (hit : ∀ (s2 : R3) (w2 : World), Rd w0 w2 g b s2 → I w2 → w.heap.size ≤ w2.heap.size → Calls Try.prog 101 #[.pointer (some ⟨g, 0, none⟩)] w2 (IP k77 w0 g b (item s2).1 (item s2).2 w2)) :
    Calls Try.prog 100 #[.pointer (some ⟨g, 0, none⟩), .func (.func 101) #[.pointer (some ⟨g, 0, none⟩)] #[]] w (MP k77 77 w0 g b (listR b item s).1 (listR b item s).2 w) := by
  have H0 := Aside0.mk h
  have HI0 := Aside0.mk hI0
  have HI := Aside0.mk hI
  have HIT := Aside0.mk hit
  have hr := numR_range h.byt h.good
  have hg := numR_good h.good
  have HSM := Aside0.mk (headR_small h.byt h.good)
  have HGW := Aside0.mk h.lt.1
  clear h hI0 hI hit
  go_enter Try.func100, Try.ntmps100
  go_wp2_with fail
  go_at_call 121
  with_reducible refine (number_r H0.out).mono ?_
  intro e w1 hp
  obtain ⟨rfl, hR, hK⟩ := hp
  obtain ⟨n, hn0⟩ : ∃ n : Nat, (numR b s).1 = (n : Int) := ⟨(numR b s).1.toNat, by omega⟩
  obtain ⟨s1, hs0⟩ : ∃ s1, (numR b s).2 = s1 := ⟨_, rfl⟩
  rw [hs0] at hg hR
  rw [hn0] at hr ⊢
  have HH := Aside0.mk (show headR b s = (n, if (n : Int) > b.length - s1.at_ then shortR b s1 else s1) by unfold headR; rw [hn0, hs0, Int.toNat_natCast])
  clear hn0 hs0
  obtain ⟨a, er, bd⟩ := s1
  have ha0 : 0 ≤ a := hg.lo
  have ha1 : a ≤ b.length := hg.hi
  have hlen := hR.len
  have HR := Aside0.mk hR
  have HK := Aside0.mk hK
  have HI1 := Aside0.mk (HI.out w w1 HI0.out (fun k hk hkg => hK.2 k hk hkg (by simp)))
  obtain ⟨A, c, hb, hge, hC, hcap⟩ := hR.is
  have c0 := cellS151_0 hb
  have c1 := cellS151_1 hb
  clear hR hK hb hge hC hcap hg
  have e1 : IntKind.i64.wrap ((b.length : Int) - a) = (b.length : Int) - a := by rw [IntKind.wrap_i64]; omega
  have e2 : IntKind.u64.wrap ((b.length : Int) - a) = (b.length : Int) - a := by rw [IntKind.wrap_u64]; omega
  by_cases hn : (n : Int) > b.length - a
  case' pos =>
    have hb1 : decide ((b.length : Int) - a < (n : Int)) = true := decide_eq_true hn
    have HH2 := Aside0.mk (HH.out.trans (by rw [if_pos hn] : _ = (n, shortR b ⟨a, er, bd⟩)))
    go_wp2_with fail
    go_quiet (fail)
    clear e1 e2
    go_wp2_with fail
    go_at_call 90
    with_reducible refine (short_r (HR.out.drewN nq)).mono ?_
    intro e w2 hp
    obtain ⟨rfl, hR2, hK2⟩ := hp
    have HI2 := Aside0.mk (HI.out w1 w2 HI1.out (fun k hk hkg => hK2.2 k (Nat.lt_of_lt_of_le hk HK.out.1) hkg (by simp)))
    have HK2 := Aside0.mk ((keep_drewN HK.out nq).trans hK2 (.inl rfl))
    have HR2 := Aside0.mk hR2
    clear hR2 hK2 c0 c1 hb1
    generalize shortR b ⟨a, er, bd⟩ = s2 at HH2 HR2
    clear HR HK HI1 HH hn
    go_wp2_with fail
  case' neg =>
    have hb1 : decide ((b.length : Int) - a < (n : Int)) = false := decide_eq_false hn
    have HH2 := Aside0.mk (HH.out.trans (by rw [if_neg hn] : _ = (n, (⟨a, er, bd⟩ : R3))))
    go_wp2_with fail
    go_quiet (fail)
    clear e1 e2
    have HI2 := Aside0.mk (HI.out w1 (w1.drewN nq) HI1.out (fun _ _ _ => rfl))
    have HK2 := Aside0.mk (keep_drewN HK.out nq)
    have HR2 := Aside0.mk (HR.out.drewN nq)
    clear c0 c1 hb1
    generalize (⟨a, er, bd⟩ : R3) = s2 at HH2 HR2
    clear HR HK HI1 HH hn
    generalize w1.drewN nq = w2 at HI2 HK2 HR2 ⊢
    go_wp2_with fail
  all_goals (
    rw [HH2.out] at HSM
    have HS2 := Aside0.mk (show s2.err = 0 → n ≤ 131072 from fun h => by have := HSM.out h; omega)
    go_loopw [5, 6] (fun v5 v6 wr => ∃ (m : Nat) (s3 : R3) (l : List S77), v5 = .int .u64 (m : Nat) ∧ Aside0 (LisR k77 77 w0 w g b I item n s2 m s3 l v6 wr)) (fun v5 _ _ => (intOf v5).toNat)
    case atStart => exact ⟨n, s2, [], rfl, ⟨LisR.start HR2.out HK2.out HI2.out⟩⟩
    case round =>
      obtain ⟨m, s3, l, rfl, HL⟩ := hrel
      have hmn : m ≤ n := by have := HL.out.sum; omega
      obtain ⟨A3, cc3, hb3, hge3, hC3, hcap3⟩ := HL.out.rd.is
      have d2 := cellS151_2 hb3
      clear hb3 hge3 hC3 hcap3
      obtain ⟨a3, er3, bd3⟩ := s3
      by_cases hm : m = 0
      · have hb2 : decide ((0 : Int) < (m : Int)) = false := decide_eq_false (by omega)
        have HM := Aside0.mk hm
        have hm2 : ¬ 0 < m := by omega
        clear hm
        go_wp2_with fail
        go_ret
        rw [show listR b item s = listL item n s2 by unfold listR; rw [HH2.out]]
        exact HL.out.done (.inl HM.out)
      · by_cases he : er3 = 0
        · obtain ⟨m1, rfl⟩ : ∃ m1, m = m1 + 1 := ⟨m - 1, by omega⟩
          have hb2 : decide ((0 : Int) < ((m1 + 1 : Nat) : Int)) = true := decide_eq_true (by omega)
          have hm2 : 0 < m1 + 1 := by omega
          have hb3 : (er3 == 0) = true := by simp [he]
          have HE := Aside0.mk (show (⟨a3, er3, bd3⟩ : R3).err = 0 from he)
          clear he hm
          go_wp2_with fail
          go_at_call 101
          with_reducible refine (HIT.out ⟨a3, er3, bd3⟩ wr HL.out.rd HL.out.inv (keep_size HL.out.keep)).mono ?_
          intro e w3 hp
          obtain ⟨cs, rfl, hM, hR4, hK4⟩ := hp
          obtain ⟨x, hx⟩ : ∃ x, (item ⟨a3, er3, bd3⟩).1 = x := ⟨_, rfl⟩
          rw [hx] at hM
          have HX := Aside0.mk hx
          have HR4 := Aside0.mk hR4
          have HK4 := Aside0.mk hK4
          obtain ⟨v6, rfl, hq6⟩ := k77_openM hM
          have Q6 := Aside0.mk hq6
          clear hM hq6
          have P6 := Aside0.mk (Kd.R_lower (Kd.R_mono (Kd.R_bound Q6.out) (fun k_ (hk : _ ∧ wr.heap.size ≤ k_ ∧ _) => hk.2.1)) HL.out.keep.1)
          have HRW := Aside0.mk (Kd.R_keep HL.out.row HK4.out (fun _ hk => hk))
          have HOK := Aside0.mk (show ∀ k_, wr.heap.size ≤ k_ → k_ ≠ g ∧ some k_ ≠ u6.ownBlock from fun k_ hk => ⟨by have := HL.out.rd.lt; omega, fun e_ => by obtain ⟨inner_, ho_⟩ := Kd.R_own HL.out.row; have := (ho_.lt k_ e_.symm).2; omega⟩)
          have HFR := Aside0.mk (show ∀ k_, w3.heap.size ≤ k_ → k_ ≠ g from fun k_ hk => by have := HR4.out.lt; omega)
          have HBS := Aside0.mk (show w.heap.size ≤ w3.heap.size from Nat.le_trans HL.out.keep.1 HK4.out.1)
          have HLN := Aside0.mk (show (l.length + 1) * 72 ≤ 140737488355328 from by have := HL.out.sum; have := HL.out.few' HS2.out HE.out; omega)
          clear hR4 hK4 hx d2 hb2 hb3
          go_wp2_with (at_builtin; refine Kd.R_append k77 w.heap.size rfl _ _ 30 77 (.agg #[(.string ⟨#[]⟩), (.bool false), (.bool false), (.int .i64 0), (.int .i64 0), (.int .i64 0), (.slice none 0 0)]) 72 rfl Try.underlying30 info77' rfl (by decide) (by decide) u6 l x [.string x.f0, .bool x.f1, .bool x.f2, .int .i64 x.f3, .int .i64 x.f4, .int .i64 x.f5, v6] (fun k_ => k_ ≠ g) (fun k_ => wr.heap.size ≤ k_) rfl rfl (k77_mkM w3 w.heap.size (fun k_ => wr.heap.size ≤ k_) x P6.out) HOK.out HFR.out HRW.out (Below.refl _ _) HBS.out HLN.out ?_; intro v9 w4 ho9 _ hg9 _)
          rw [← HX.out] at ho9
          have HN := Aside0.mk (HL.out.next HS2.out HE.out HGW.out HI.out HR4.out HK4.out ho9 hg9)
          clear ho9 hg9
          try go_wp2_with fail
          go_roundw
          case rel => exact ⟨m1, _, _, by first | rfl | go_num | (congr 1; omega), HN⟩
          case measure => simp [intOf] <;> omega
        · have hb2 : decide ((0 : Int) < (m : Int)) = true := decide_eq_true (by omega)
          have hm2 : 0 < m := by omega
          have hb3 : (er3 == 0) = false := by simp [he]
          have HE := Aside0.mk (show ¬ (⟨a3, er3, bd3⟩ : R3).err = 0 from he)
          clear he hm
          go_wp2_with fail
          go_ret
          rw [show listR b item s = listL item n s2 by unfold listR; rw [HH2.out]]
          exact HL.out.done (.inr HE.out))
theorem info82' : (Try.prog.info? 82).map (fun i => (i.zero, i.size, i.bytes)) = some (some (.agg #[(.string ⟨#[]⟩), (.bool false), (.int .i64 0), (.int .i64 0), (.int .i64 0), (.int .i64 0), (.int .i64 0), (.slice none 0 0), (.string ⟨#[]⟩)]), 9, 104) := by kernel_rfl
set_option maxHeartbeats 4000000 in
theorem list102 (w0 w : World) (g : Nat) (b : List Int) (s : R3) (I : World → Prop) (item : R3 → S82 × R3) (h : Rd w0 w g b s) (hI0 : I w) (hI : ∀ w1 w2 : World, I w1 → (∀ k, k < w.heap.size → k ≠ g → w2.heap[k]? = w1.heap[k]?) → I w2)
    (hit : ∀ (s2 : R3) (w2 : World), Rd w0 w2 g b s2 → I w2 → w.heap.size ≤ w2.heap.size → Calls Try.prog 103 #[.pointer (some ⟨g, 0, none⟩)] w2 (IP k82 w0 g b (item s2).1 (item s2).2 w2)) :
    Calls Try.prog 102 #[.pointer (some ⟨g, 0, none⟩), .func (.func 103) #[.pointer (some ⟨g, 0, none⟩)] #[]] w (MP k82 82 w0 g b (listR b item s).1 (listR b item s).2 w) := by
  have H0 := Aside0.mk h
  have HI0 := Aside0.mk hI0
  have HI := Aside0.mk hI
  have HIT := Aside0.mk hit
  have hr := numR_range h.byt h.good
  have hg := numR_good h.good
  have HSM := Aside0.mk (headR_small h.byt h.good)
  have HGW := Aside0.mk h.lt.1
  clear h hI0 hI hit
  go_enter Try.func102, Try.ntmps102
  go_wp2_with fail
  go_at_call 121
  with_reducible refine (number_r H0.out).mono ?_
  intro e w1 hp
  obtain ⟨rfl, hR, hK⟩ := hp
  obtain ⟨n, hn0⟩ : ∃ n : Nat, (numR b s).1 = (n : Int) := ⟨(numR b s).1.toNat, by omega⟩
  obtain ⟨s1, hs0⟩ : ∃ s1, (numR b s).2 = s1 := ⟨_, rfl⟩
  rw [hs0] at hg hR
  rw [hn0] at hr ⊢
  have HH := Aside0.mk (show headR b s = (n, if (n : Int) > b.length - s1.at_ then shortR b s1 else s1) by unfold headR; rw [hn0, hs0, Int.toNat_natCast])
  clear hn0 hs0
  obtain ⟨a, er, bd⟩ := s1
  have ha0 : 0 ≤ a := hg.lo
  have ha1 : a ≤ b.length := hg.hi
  have hlen := hR.len
  have HR := Aside0.mk hR
  have HK := Aside0.mk hK
  have HI1 := Aside0.mk (HI.out w w1 HI0.out (fun k hk hkg => hK.2 k hk hkg (by simp)))
  obtain ⟨A, c, hb, hge, hC, hcap⟩ := hR.is
  have c0 := cellS151_0 hb
  have c1 := cellS151_1 hb
  clear hR hK hb hge hC hcap hg
  have e1 : IntKind.i64.wrap ((b.length : Int) - a) = (b.length : Int) - a := by rw [IntKind.wrap_i64]; omega
  have e2 : IntKind.u64.wrap ((b.length : Int) - a) = (b.length : Int) - a := by rw [IntKind.wrap_u64]; omega
  by_cases hn : (n : Int) > b.length - a
  case' pos =>
    have hb1 : decide ((b.length : Int) - a < (n : Int)) = true := decide_eq_true hn
    have HH2 := Aside0.mk (HH.out.trans (by rw [if_pos hn] : _ = (n, shortR b ⟨a, er, bd⟩)))
    go_wp2_with fail
    go_quiet (fail)
    clear e1 e2
    go_wp2_with fail
    go_at_call 90
    with_reducible refine (short_r (HR.out.drewN nq)).mono ?_
    intro e w2 hp
    obtain ⟨rfl, hR2, hK2⟩ := hp
    have HI2 := Aside0.mk (HI.out w1 w2 HI1.out (fun k hk hkg => hK2.2 k (Nat.lt_of_lt_of_le hk HK.out.1) hkg (by simp)))
    have HK2 := Aside0.mk ((keep_drewN HK.out nq).trans hK2 (.inl rfl))
    have HR2 := Aside0.mk hR2
    clear hR2 hK2 c0 c1 hb1
    generalize shortR b ⟨a, er, bd⟩ = s2 at HH2 HR2
    clear HR HK HI1 HH hn
    go_wp2_with fail
  case' neg =>
    have hb1 : decide ((b.length : Int) - a < (n : Int)) = false := decide_eq_false hn
    have HH2 := Aside0.mk (HH.out.trans (by rw [if_neg hn] : _ = (n, (⟨a, er, bd⟩ : R3))))
    go_wp2_with fail
    go_quiet (fail)
    clear e1 e2
    have HI2 := Aside0.mk (HI.out w1 (w1.drewN nq) HI1.out (fun _ _ _ => rfl))
    have HK2 := Aside0.mk (keep_drewN HK.out nq)
    have HR2 := Aside0.mk (HR.out.drewN nq)
    clear c0 c1 hb1
    generalize (⟨a, er, bd⟩ : R3) = s2 at HH2 HR2
    clear HR HK HI1 HH hn
    generalize w1.drewN nq = w2 at HI2 HK2 HR2 ⊢
    go_wp2_with fail
  all_goals (
    rw [HH2.out] at HSM
    have HS2 := Aside0.mk (show s2.err = 0 → n ≤ 131072 from fun h => by have := HSM.out h; omega)
    go_loopw [5, 6] (fun v5 v6 wr => ∃ (m : Nat) (s3 : R3) (l : List S82), v5 = .int .u64 (m : Nat) ∧ Aside0 (LisR k82 82 w0 w g b I item n s2 m s3 l v6 wr)) (fun v5 _ _ => (intOf v5).toNat)
    case atStart => exact ⟨n, s2, [], rfl, ⟨LisR.start HR2.out HK2.out HI2.out⟩⟩
    case round =>
      obtain ⟨m, s3, l, rfl, HL⟩ := hrel
      have hmn : m ≤ n := by have := HL.out.sum; omega
      obtain ⟨A3, cc3, hb3, hge3, hC3, hcap3⟩ := HL.out.rd.is
      have d2 := cellS151_2 hb3
      clear hb3 hge3 hC3 hcap3
      obtain ⟨a3, er3, bd3⟩ := s3
      by_cases hm : m = 0
      · have hb2 : decide ((0 : Int) < (m : Int)) = false := decide_eq_false (by omega)
        have HM := Aside0.mk hm
        have hm2 : ¬ 0 < m := by omega
        clear hm
        go_wp2_with fail
        go_ret
        rw [show listR b item s = listL item n s2 by unfold listR; rw [HH2.out]]
        exact HL.out.done (.inl HM.out)
      · by_cases he : er3 = 0
        · obtain ⟨m1, rfl⟩ : ∃ m1, m = m1 + 1 := ⟨m - 1, by omega⟩
          have hb2 : decide ((0 : Int) < ((m1 + 1 : Nat) : Int)) = true := decide_eq_true (by omega)
          have hm2 : 0 < m1 + 1 := by omega
          have hb3 : (er3 == 0) = true := by simp [he]
          have HE := Aside0.mk (show (⟨a3, er3, bd3⟩ : R3).err = 0 from he)
          clear he hm
          go_wp2_with fail
          go_at_call 103
          with_reducible refine (HIT.out ⟨a3, er3, bd3⟩ wr HL.out.rd HL.out.inv (keep_size HL.out.keep)).mono ?_
          intro e w3 hp
          obtain ⟨cs, rfl, hM, hR4, hK4⟩ := hp
          obtain ⟨x, hx⟩ : ∃ x, (item ⟨a3, er3, bd3⟩).1 = x := ⟨_, rfl⟩
          rw [hx] at hM
          have HX := Aside0.mk hx
          have HR4 := Aside0.mk hR4
          have HK4 := Aside0.mk hK4
          obtain ⟨v7, rfl, hq7⟩ := k82_openM hM
          have Q7 := Aside0.mk hq7
          clear hM hq7
          have P7 := Aside0.mk (Kd.R_lower (Kd.R_mono (Kd.R_bound Q7.out) (fun k_ (hk : _ ∧ wr.heap.size ≤ k_ ∧ _) => hk.2.1)) HL.out.keep.1)
          have HRW := Aside0.mk (Kd.R_keep HL.out.row HK4.out (fun _ hk => hk))
          have HOK := Aside0.mk (show ∀ k_, wr.heap.size ≤ k_ → k_ ≠ g ∧ some k_ ≠ u6.ownBlock from fun k_ hk => ⟨by have := HL.out.rd.lt; omega, fun e_ => by obtain ⟨inner_, ho_⟩ := Kd.R_own HL.out.row; have := (ho_.lt k_ e_.symm).2; omega⟩)
          have HFR := Aside0.mk (show ∀ k_, w3.heap.size ≤ k_ → k_ ≠ g from fun k_ hk => by have := HR4.out.lt; omega)
          have HBS := Aside0.mk (show w.heap.size ≤ w3.heap.size from Nat.le_trans HL.out.keep.1 HK4.out.1)
          have HLN := Aside0.mk (show (l.length + 1) * 104 ≤ 140737488355328 from by have := HL.out.sum; have := HL.out.few' HS2.out HE.out; omega)
          clear hR4 hK4 hx d2 hb2 hb3
          go_wp2_with (at_builtin; refine Kd.R_append k82 w.heap.size rfl _ _ 31 82 (.agg #[(.string ⟨#[]⟩), (.bool false), (.int .i64 0), (.int .i64 0), (.int .i64 0), (.int .i64 0), (.int .i64 0), (.slice none 0 0), (.string ⟨#[]⟩)]) 104 rfl Try.underlying31 info82' rfl (by decide) (by decide) u6 l x [.string x.f0, .bool x.f1, .int .i64 x.f2, .int .i64 x.f3.f0, .int .i64 x.f3.f1, .int .i64 x.f3.f2, .int .i64 x.f3.f3, v7, .string x.f4] (fun k_ => k_ ≠ g) (fun k_ => wr.heap.size ≤ k_) rfl rfl (k82_mkM w3 w.heap.size (fun k_ => wr.heap.size ≤ k_) x P7.out) HOK.out HFR.out HRW.out (Below.refl _ _) HBS.out HLN.out ?_; intro v9 w4 ho9 _ hg9 _)
          rw [← HX.out] at ho9
          have HN := Aside0.mk (HL.out.next HS2.out HE.out HGW.out HI.out HR4.out HK4.out ho9 hg9)
          clear ho9 hg9
          try go_wp2_with fail
          go_roundw
          case rel => exact ⟨m1, _, _, by first | rfl | go_num | (congr 1; omega), HN⟩
          case measure => simp [intOf] <;> omega
        · have hb2 : decide ((0 : Int) < (m : Int)) = true := decide_eq_true (by omega)
          have hm2 : 0 < m := by omega
          have hb3 : (er3 == 0) = false := by simp [he]
          have HE := Aside0.mk (show ¬ (⟨a3, er3, bd3⟩ : R3).err = 0 from he)
          clear he hm
          go_wp2_with fail
          go_ret
          rw [show listR b item s = listL item n s2 by unfold listR; rw [HH2.out]]
          exact HL.out.done (.inr HE.out))
theorem info80' : (Try.prog.info? 80).map (fun i => (i.zero, i.size, i.bytes)) = some (some (.agg #[(.int .i64 0), (.int .i64 0), (.int .i64 0), (.int .i64 0), (.slice none 0 0)]), 5, 56) := by kernel_rfl
set_option maxHeartbeats 4000000 in
theorem list145 (w0 w : World) (g : Nat) (cw cd : Nat) (b : List Int) (s : R3) (I : World → Prop) (item : R3 → S80 × R3) (h : Rd w0 w g b s) (hI0 : I w) (hI : ∀ w1 w2 : World, I w1 → (∀ k, k < w.heap.size → k ≠ g → w2.heap[k]? = w1.heap[k]?) → I w2)
    (hit : ∀ (s2 : R3) (w2 : World), Rd w0 w2 g b s2 → I w2 → w.heap.size ≤ w2.heap.size → Calls Try.prog 146 #[.pointer (some ⟨cw, 0, none⟩), .pointer (some ⟨cd, 0, none⟩)] w2 (IP k80 w0 g b (item s2).1 (item s2).2 w2)) :
    Calls Try.prog 145 #[.pointer (some ⟨g, 0, none⟩), .func (.func 146) #[] #[.pointer (some ⟨cw, 0, none⟩), .pointer (some ⟨cd, 0, none⟩)]] w (MP k80 80 w0 g b (listR b item s).1 (listR b item s).2 w) := by
  have H0 := Aside0.mk h
  have HI0 := Aside0.mk hI0
  have HI := Aside0.mk hI
  have HIT := Aside0.mk hit
  have hr := numR_range h.byt h.good
  have hg := numR_good h.good
  have HSM := Aside0.mk (headR_small h.byt h.good)
  have HGW := Aside0.mk h.lt.1
  clear h hI0 hI hit
  go_enter Try.func145, Try.ntmps145
  go_wp2_with fail
  go_at_call 121
  with_reducible refine (number_r H0.out).mono ?_
  intro e w1 hp
  obtain ⟨rfl, hR, hK⟩ := hp
  obtain ⟨n, hn0⟩ : ∃ n : Nat, (numR b s).1 = (n : Int) := ⟨(numR b s).1.toNat, by omega⟩
  obtain ⟨s1, hs0⟩ : ∃ s1, (numR b s).2 = s1 := ⟨_, rfl⟩
  rw [hs0] at hg hR
  rw [hn0] at hr ⊢
  have HH := Aside0.mk (show headR b s = (n, if (n : Int) > b.length - s1.at_ then shortR b s1 else s1) by unfold headR; rw [hn0, hs0, Int.toNat_natCast])
  clear hn0 hs0
  obtain ⟨a, er, bd⟩ := s1
  have ha0 : 0 ≤ a := hg.lo
  have ha1 : a ≤ b.length := hg.hi
  have hlen := hR.len
  have HR := Aside0.mk hR
  have HK := Aside0.mk hK
  have HI1 := Aside0.mk (HI.out w w1 HI0.out (fun k hk hkg => hK.2 k hk hkg (by simp)))
  obtain ⟨A, c, hb, hge, hC, hcap⟩ := hR.is
  have c0 := cellS151_0 hb
  have c1 := cellS151_1 hb
  clear hR hK hb hge hC hcap hg
  have e1 : IntKind.i64.wrap ((b.length : Int) - a) = (b.length : Int) - a := by rw [IntKind.wrap_i64]; omega
  have e2 : IntKind.u64.wrap ((b.length : Int) - a) = (b.length : Int) - a := by rw [IntKind.wrap_u64]; omega
  by_cases hn : (n : Int) > b.length - a
  case' pos =>
    have hb1 : decide ((b.length : Int) - a < (n : Int)) = true := decide_eq_true hn
    have HH2 := Aside0.mk (HH.out.trans (by rw [if_pos hn] : _ = (n, shortR b ⟨a, er, bd⟩)))
    go_wp2_with fail
    go_quiet (fail)
    clear e1 e2
    go_wp2_with fail
    go_at_call 90
    with_reducible refine (short_r (HR.out.drewN nq)).mono ?_
    intro e w2 hp
    obtain ⟨rfl, hR2, hK2⟩ := hp
    have HI2 := Aside0.mk (HI.out w1 w2 HI1.out (fun k hk hkg => hK2.2 k (Nat.lt_of_lt_of_le hk HK.out.1) hkg (by simp)))
    have HK2 := Aside0.mk ((keep_drewN HK.out nq).trans hK2 (.inl rfl))
    have HR2 := Aside0.mk hR2
    clear hR2 hK2 c0 c1 hb1
    generalize shortR b ⟨a, er, bd⟩ = s2 at HH2 HR2
    clear HR HK HI1 HH hn
    go_wp2_with fail
  case' neg =>
    have hb1 : decide ((b.length : Int) - a < (n : Int)) = false := decide_eq_false hn
    have HH2 := Aside0.mk (HH.out.trans (by rw [if_neg hn] : _ = (n, (⟨a, er, bd⟩ : R3))))
    go_wp2_with fail
    go_quiet (fail)
    clear e1 e2
    have HI2 := Aside0.mk (HI.out w1 (w1.drewN nq) HI1.out (fun _ _ _ => rfl))
    have HK2 := Aside0.mk (keep_drewN HK.out nq)
    have HR2 := Aside0.mk (HR.out.drewN nq)
    clear c0 c1 hb1
    generalize (⟨a, er, bd⟩ : R3) = s2 at HH2 HR2
    clear HR HK HI1 HH hn
    generalize w1.drewN nq = w2 at HI2 HK2 HR2 ⊢
    go_wp2_with fail
  all_goals (
    rw [HH2.out] at HSM
    have HS2 := Aside0.mk (show s2.err = 0 → n ≤ 131072 from fun h => by have := HSM.out h; omega)
    go_loopw [5, 6] (fun v5 v6 wr => ∃ (m : Nat) (s3 : R3) (l : List S80), v5 = .int .u64 (m : Nat) ∧ Aside0 (LisR k80 80 w0 w g b I item n s2 m s3 l v6 wr)) (fun v5 _ _ => (intOf v5).toNat)
    case atStart => exact ⟨n, s2, [], rfl, ⟨LisR.start HR2.out HK2.out HI2.out⟩⟩
    case round =>
      obtain ⟨m, s3, l, rfl, HL⟩ := hrel
      have hmn : m ≤ n := by have := HL.out.sum; omega
      obtain ⟨A3, cc3, hb3, hge3, hC3, hcap3⟩ := HL.out.rd.is
      have d2 := cellS151_2 hb3
      clear hb3 hge3 hC3 hcap3
      obtain ⟨a3, er3, bd3⟩ := s3
      by_cases hm : m = 0
      · have hb2 : decide ((0 : Int) < (m : Int)) = false := decide_eq_false (by omega)
        have HM := Aside0.mk hm
        have hm2 : ¬ 0 < m := by omega
        clear hm
        go_wp2_with fail
        go_ret
        rw [show listR b item s = listL item n s2 by unfold listR; rw [HH2.out]]
        exact HL.out.done (.inl HM.out)
      · by_cases he : er3 = 0
        · obtain ⟨m1, rfl⟩ : ∃ m1, m = m1 + 1 := ⟨m - 1, by omega⟩
          have hb2 : decide ((0 : Int) < ((m1 + 1 : Nat) : Int)) = true := decide_eq_true (by omega)
          have hm2 : 0 < m1 + 1 := by omega
          have hb3 : (er3 == 0) = true := by simp [he]
          have HE := Aside0.mk (show (⟨a3, er3, bd3⟩ : R3).err = 0 from he)
          clear he hm
          go_wp2_with fail
          go_at_call 146
          with_reducible refine (HIT.out ⟨a3, er3, bd3⟩ wr HL.out.rd HL.out.inv (keep_size HL.out.keep)).mono ?_
          intro e w3 hp
          obtain ⟨cs, rfl, hM, hR4, hK4⟩ := hp
          obtain ⟨x, hx⟩ : ∃ x, (item ⟨a3, er3, bd3⟩).1 = x := ⟨_, rfl⟩
          rw [hx] at hM
          have HX := Aside0.mk hx
          have HR4 := Aside0.mk hR4
          have HK4 := Aside0.mk hK4
          obtain ⟨v4, rfl, hq4⟩ := k80_openM hM
          have Q4 := Aside0.mk hq4
          clear hM hq4
          have P4 := Aside0.mk (Kd.R_lower (Kd.R_mono (Kd.R_bound Q4.out) (fun k_ (hk : _ ∧ wr.heap.size ≤ k_ ∧ _) => hk.2.1)) HL.out.keep.1)
          have HRW := Aside0.mk (Kd.R_keep HL.out.row HK4.out (fun _ hk => hk))
          have HOK := Aside0.mk (show ∀ k_, wr.heap.size ≤ k_ → k_ ≠ g ∧ some k_ ≠ u6.ownBlock from fun k_ hk => ⟨by have := HL.out.rd.lt; omega, fun e_ => by obtain ⟨inner_, ho_⟩ := Kd.R_own HL.out.row; have := (ho_.lt k_ e_.symm).2; omega⟩)
          have HFR := Aside0.mk (show ∀ k_, w3.heap.size ≤ k_ → k_ ≠ g from fun k_ hk => by have := HR4.out.lt; omega)
          have HBS := Aside0.mk (show w.heap.size ≤ w3.heap.size from Nat.le_trans HL.out.keep.1 HK4.out.1)
          have HLN := Aside0.mk (show (l.length + 1) * 56 ≤ 140737488355328 from by have := HL.out.sum; have := HL.out.few' HS2.out HE.out; omega)
          clear hR4 hK4 hx d2 hb2 hb3
          go_wp2_with (at_builtin; refine Kd.R_append k80 w.heap.size rfl _ _ 78 80 (.agg #[(.int .i64 0), (.int .i64 0), (.int .i64 0), (.int .i64 0), (.slice none 0 0)]) 56 rfl Try.underlying78 info80' rfl (by decide) (by decide) u6 l x [.int .i64 x.f0, .int .i64 x.f1, .int .i64 x.f2, .int .i64 x.f3, v4] (fun k_ => k_ ≠ g) (fun k_ => wr.heap.size ≤ k_) rfl rfl (k80_mkM w3 w.heap.size (fun k_ => wr.heap.size ≤ k_) x P4.out) HOK.out HFR.out HRW.out (Below.refl _ _) HBS.out HLN.out ?_; intro v9 w4 ho9 _ hg9 _)
          rw [← HX.out] at ho9
          have HN := Aside0.mk (HL.out.next HS2.out HE.out HGW.out HI.out HR4.out HK4.out ho9 hg9)
          clear ho9 hg9
          try go_wp2_with fail
          go_roundw
          case rel => exact ⟨m1, _, _, by first | rfl | go_num | (congr 1; omega), HN⟩
          case measure => simp [intOf] <;> omega
        · have hb2 : decide ((0 : Int) < (m : Int)) = true := decide_eq_true (by omega)
          have hm2 : 0 < m := by omega
          have hb3 : (er3 == 0) = false := by simp [he]
          have HE := Aside0.mk (show ¬ (⟨a3, er3, bd3⟩ : R3).err = 0 from he)
          clear he hm
          go_wp2_with fail
          go_ret
          rw [show listR b item s = listL item n s2 by unfold listR; rw [HH2.out]]
          exact HL.out.done (.inr HE.out))
end Go.Proofs.Ytpbdkkahodaloaa.V
end

section
set_option linter.unusedVariables false
namespace Go.Proofs.Ytpbdkkahodaloaa.V
open Go.RowKit Go.Proofs.Ytpbdkkahodaloaa.PS Go.Proofs.YtpbdkkahodaloaaW.PrintWords Go.Proofs.YtpbdkkahodaloaaW.PrintMore
set_option maxRecDepth 100000
def sets (w : World) (q : Nat) : Nat → List Value → World
  | _, [] => w
  | i, c :: cs => sets (w.setCell ⟨q, i, none⟩ c) q (i + 1) cs
theorem sets_far (q : Nat) : ∀ (cs : List Value) (w : World) (i k : Nat), k ≠ q → (sets w q i cs).heap[k]? = w.heap[k]?
  | [], w, i, k, h => rfl
  | c :: cs, w, i, k, h => by
    show (sets (w.setCell ⟨q, i, none⟩ c) q (i + 1) cs).heap[k]? = _
    rw [sets_far q cs _ _ k h, Below.heap_setCell w ⟨q, i, none⟩ c k h]
theorem sets_size (q : Nat) : ∀ (cs : List Value) (w : World) (i : Nat), (sets w q i cs).heap.size = w.heap.size
  | [], w, i => rfl
  | c :: cs, w, i => by
    show (sets (w.setCell ⟨q, i, none⟩ c) q (i + 1) cs).heap.size = _
    rw [sets_size q cs]; simp [World.setCell]
theorem sets_os (q : Nat) : ∀ (cs : List Value) (w : World) (i : Nat), (sets w q i cs).os = w.os ∧ (sets w q i cs).tape = w.tape ∧ (sets w q i cs).output = w.output
  | [], w, i => ⟨rfl, rfl, rfl⟩
  | c :: cs, w, i => sets_os q cs (w.setCell ⟨q, i, none⟩ c) (i + 1)
theorem sets_blk (q : Nat) (t : TypeId) : ∀ (cs : List Value) (w : World) (i : Nat) (cs0 : Array Value), w.heap[q]? = some (.cells cs0 t (0, 0)) → cs0.size = i + cs.length → (sets w q i cs).heap[q]? = some (.cells (cs0.toList.take i ++ cs).toArray t (0, 0))
  | [], w, i, cs0, h, hs => by
    show w.heap[q]? = _
    rw [h, List.append_nil, List.take_of_length_le (by simp at hs; simp; omega)]
  | c :: cs, w, i, cs0, h, hs => by
    have hlt : i < cs0.size := by simp at hs; omega
    have ih := sets_blk q t cs (w.setCell ⟨q, i, none⟩ c) (i + 1) (cs0.setIfInBounds i c) (blk_set h i c) (by simp at hs ⊢; omega)
    show (sets (w.setCell ⟨q, i, none⟩ c) q (i + 1) cs).heap[q]? = _
    rw [ih]
    congr 3
    rw [Array.toList_setIfInBounds, List.take_add_one, List.take_set_of_le (by omega)]
    rw [List.getElem?_set_self (by simpa using hlt)]
    simp
theorem sets_all {q : Nat} {t : TypeId} {w : World} {cs0 : Array Value} {cs : List Value} (h : w.heap[q]? = some (.cells cs0 t (0, 0))) (hs : cs0.size = cs.length) : (sets w q 0 cs).heap[q]? = some (.cells cs.toArray t (0, 0)) := by
  have := sets_blk q t cs w 0 cs0 h (by omega)
  simpa using this
theorem Rd.alloc {w0 w : World} {g : Nat} {b : List Int} {s : R3} (h : Rd w0 w g b s) (o : Obj) : Rd w0 (w.alloc o) g b s := ⟨h.is.alloc o, below_alloc h.dat o, h.good, h.byt, h.len⟩
theorem Rd.sets {w0 w : World} {g : Nat} {b : List Int} {s : R3} (h : Rd w0 w g b s) {q : Nat} (hq : q ≠ g) (hq0 : w0.heap.size ≤ q) (cs : List Value) (i : Nat) : Rd w0 (sets w q i cs) g b s := by
  obtain ⟨A0, c0, hb, hg, hr0⟩ := h.is
  obtain ⟨o1, o2, o3⟩ := sets_os q cs w i
  exact ⟨⟨A0, c0, (sets_far q cs w i g hq.symm).trans hb, hg, hr0⟩, ⟨o1.trans h.dat.os, o2.trans h.dat.tape, o3.trans h.dat.output, by rw [sets_size]; exact h.dat.size, fun k hk => (sets_far q cs w i k (by omega)).trans (h.dat.block k hk)⟩, h.good, h.byt, h.len⟩
theorem keep_sets {w w1 : World} {g q : Nat} (h : KeepBut w w1 g none) (hq : w.heap.size ≤ q) (cs : List Value) (i : Nat) : KeepBut w (sets w1 q i cs) g none :=
  ⟨by rw [sets_size]; exact h.1, fun k hk hg hn => (sets_far q cs w1 i k (by omega)).trans (h.2 k hk hg hn)⟩
theorem item_end {α : Type} {d : Kd α} {fn : Func} {r : Tmp} {t : TypeId} {a : Act} {w0 w wn : World} {g q : Nat} {b : List Int} {x : α} {s' : R3} {cs0 : Array Value} {cs : List Value} {fs : Array Field} (hres : fn.results = #[.cell r t]) (hp : a.tmps.getD r undef = .pointer (some ⟨q, 0, none⟩)) (hd : a.defers = []) (hu : Try.prog.underlying t = some (.struct fs)) (hce : (Try.prog.info? t).map (·.size) = some cs.length)
    (hb : wn.heap[q]? = some (.cells cs0 t (0, 0))) (hs : cs0.size = cs.length) (hr : Rd w0 wn g b s') (hk : KeepBut w wn g none) (hq : w.heap.size ≤ q) (hg : g < w.heap.size) (hM : d.M wn w.heap.size (fun k => k ≠ q) x cs) :
    bodyPost Try.prog fn (IP d w0 g b x s' w) .ret a (sets wn q 0 cs) := by
  have hq0 : w0.heap.size ≤ q := Nat.le_trans hr.lt.2 (by omega)
  refine bodyPost_ret (results_cell_row hres _ _ q t cs.toArray (0, 0) (.struct fs) hp (sets_all hb hs) hu rfl (by rw [hce, List.size_toArray])) hd ⟨cs, rfl, ?_, hr.sets (by omega) hq0 cs 0, keep_sets hk hq cs 0⟩
  exact d.M_mono (fun _ _ => trivial) (Kd.M_step hM (fun k hk' hlt => sets_far q cs wn 0 k hk'))
def sayR (b : List Int) (s : R3) : Int × R3 := ((byteR b s).1, if (byteR b s).1 > 15 then failR 71 s.at_ (byteR b s).2 else (byteR b s).2)
def numsR (b : List Int) (y : Int) (s : R3) : (Int × Int × Int) × R3 :=
  (((givenR b y 1 s).1, (givenR b y 2 (givenR b y 1 s).2).1, (givenR b y 4 (givenR b y 2 (givenR b y 1 s).2).2).1), (givenR b y 4 (givenR b y 2 (givenR b y 1 s).2).2).2)
def argsR (b : List Int) (item : R3 → S80 × R3) (y : Int) (s : R3) : List S80 × R3 :=
  if bits .and .u8 y 8 = 0 ∨ ¬ s.err = 0 then ([], s) else ((listR b item s).1, if (listR b item s).1.length = 0 then failR 71 s.at_ (listR b item s).2 else (listR b item s).2)
def bodyR (b : List Int) (item : R3 → S80 × R3) (o : Int) (s : R3) : S80 × R3 :=
  (⟨o, (numsR b (sayR b s).1 (sayR b s).2).1.1, (numsR b (sayR b s).1 (sayR b s).2).1.2.1, (numsR b (sayR b s).1 (sayR b s).2).1.2.2, (argsR b item (sayR b s).1 (numsR b (sayR b s).1 (sayR b s).2).2).1⟩, (argsR b item (sayR b s).1 (numsR b (sayR b s).1 (sayR b s).2).2).2)
def exprR (b : List Int) : Nat → R3 → S80 × R3
  | 0, s => if s.err = 0 then (z80, failR 72 s.at_ s) else (z80, s)
  | f + 1, s => if s.err = 0 then bodyR b (exprR b f) (intR b s).1 (intR b s).2 else (z80, s)
def ExprRC (f : Nat) : Prop := ∀ (w0 w : World) (g k : Nat) (b : List Int) (s : R3), k + f = 65 → Rd w0 w g b s → Calls Try.prog 128 #[.pointer (some ⟨g, 0, none⟩), .int .i64 k] w (IP k80 w0 g b (exprR b f s).1 (exprR b f s).2 w)
structure Box3 (w0 w W : World) (g k : Nat) (b : List Int) (s : R3) : Prop where
  rd : Rd w0 W g b s
  b0 : W.heap[w.heap.size]? = some (.cells #[.pointer (some ⟨g, 0, none⟩)] 149 (0, 0))
  b1 : W.heap[w.heap.size + 1]? = some (.cells #[.int .i64 k] 3 (0, 0))
  b2 : W.heap[w.heap.size + 1 + 1]? = some (.cells #[.int .i64 0, .int .i64 0, .int .i64 0, .int .i64 0, .slice none 0 0] 80 (0, 0))
  keep : KeepBut w W g none
  lt : g < w.heap.size
theorem Box3.of {w0 w : World} {g : Nat} {b : List Int} {s : R3} (h : Rd w0 w g b s) (k : Nat) : Box3 w0 w (((w.alloc (.cells #[.pointer (some ⟨g, 0, none⟩)] 149)).alloc (.cells #[.int .i64 k] 3)).alloc (.cells #[.int .i64 0, .int .i64 0, .int .i64 0, .int .i64 0, .slice none 0 0] 80)) g k b s := by
  refine ⟨((h.alloc _).alloc _).alloc _, blk_alloc (blk_alloc (blk_new w _) _) _, ?_, ?_, keep_alloc (keep_alloc (keep_alloc (KeepBut.refl w g none) _) _) _, h.lt.1⟩
  · have := blk_alloc (blk_new (w.alloc (.cells #[.pointer (some ⟨g, 0, none⟩)] 149)) (.cells #[.int .i64 k] 3)) (.cells #[.int .i64 0, .int .i64 0, .int .i64 0, .int .i64 0, .slice none 0 0] 80)
    rwa [World.size_alloc] at this
  · have := blk_new ((w.alloc (.cells #[.pointer (some ⟨g, 0, none⟩)] 149)).alloc (.cells #[.int .i64 k] 3)) (.cells #[.int .i64 0, .int .i64 0, .int .i64 0, .int .i64 0, .slice none 0 0] 80)
    rwa [World.size_alloc, World.size_alloc] at this
theorem Box3.next {w0 w W W1 : World} {g k : Nat} {b : List Int} {s s1 : R3} (h : Box3 w0 w W g k b s) (hr : Rd w0 W1 g b s1) (hk : KeepBut W W1 g none) : Box3 w0 w W1 g k b s1 :=
  ⟨hr, hk.blk h.b0 (by have := h.lt; omega) (by simp), hk.blk h.b1 (by have := h.lt; omega) (by simp), hk.blk h.b2 (by have := h.lt; omega) (by simp), h.keep.trans hk (.inl rfl), h.lt⟩
theorem Box3.drewN {w0 w W : World} {g k : Nat} {b : List Int} {s : R3} (h : Box3 w0 w W g k b s) (n : Nat) : Box3 w0 w (W.drewN n) g k b s := h.next (h.rd.drewN n) (keep_drewN (KeepBut.refl _ _ _) n)
theorem Box3.alloc {w0 w W : World} {g k : Nat} {b : List Int} {s : R3} (h : Box3 w0 w W g k b s) (o : Obj) : Box3 w0 w (W.alloc o) g k b s := h.next (h.rd.alloc o) (keep_alloc (KeepBut.refl _ _ _) o)
theorem c5_ {w : World} {g : Nat} {v0 v1 v2 v3 v4 : Value} {t : TypeId} (h : Aside0 (w.heap[g]? = some (.cells #[v0, v1, v2, v3, v4] t (0, 0)))) : w.cell? ⟨g, 0, none⟩ = some v0 ∧ w.cell? ⟨g, 1, none⟩ = some v1 ∧ w.cell? ⟨g, 2, none⟩ = some v2 ∧ w.cell? ⟨g, 3, none⟩ = some v3 ∧ w.cell? ⟨g, 4, none⟩ = some v4 ∧ w.frozen? ⟨g, 0, none⟩ = false ∧ w.frozen? ⟨g, 1, none⟩ = false ∧ w.frozen? ⟨g, 2, none⟩ = false ∧ w.frozen? ⟨g, 3, none⟩ = false ∧ w.frozen? ⟨g, 4, none⟩ = false :=
  ⟨(blk_cell h.out 0).trans rfl, (blk_cell h.out 1).trans rfl, (blk_cell h.out 2).trans rfl, (blk_cell h.out 3).trans rfl, (blk_cell h.out 4).trans rfl, blk_frozen h.out 0, blk_frozen h.out 1, blk_frozen h.out 2, blk_frozen h.out 3, blk_frozen h.out 4⟩
theorem z80_M (w : World) (base : Nat) (ok : Nat → Prop) : k80.M w base ok z80 [.int .i64 0, .int .i64 0, .int .i64 0, .int .i64 0, .slice none 0 0] := k80_mkM w base ok z80 (Kd.R_nil _ _ _ _ _)
theorem Box3.end_ {w0 w W : World} {g k : Nat} {b : List Int} {s : R3} {a : Act} {x : S80} {cs : List Value} (h : Box3 w0 w W g k b s) (hp : a.tmps.getD 4 undef = .pointer (some ⟨w.heap.size + 1 + 1, 0, none⟩)) (hd : a.defers = []) (hc : cs.length = 5) (hM : k80.M W w.heap.size (fun k => k ≠ w.heap.size + 1 + 1) x cs) :
    bodyPost Try.prog Try.f128 (IP k80 w0 g b x s w) .ret a (sets W (w.heap.size + 1 + 1) 0 cs) :=
  item_end rfl hp hd Try.underlying80 (by rw [hc]; kernel_rfl) h.b2 (by rw [hc]; rfl) h.rd h.keep (by omega) h.lt hM
set_option maxHeartbeats 4000000 in
theorem expr_r0 : ExprRC 0 := by
  intro w0 w g k b s hk h
  have H0 := Aside0.mk (Box3.of h k)
  have hb64 : decide ((64 : Int) < (k : Int)) = true := decide_eq_true (by omega)
  obtain ⟨a, er, bd⟩ := s
  obtain ⟨A, c, hb, hge, hC, hcap⟩ := H0.out.rd.is
  have c1 := cellS151_1 hb
  have c2 := cellS151_2 hb
  have hlt := h.lt.1
  clear hb hge hC hcap h hk
  by_cases he : er = 0
  · have hb3 : (er != 0) = false := by simp [he]
    have HX := Aside0.mk (show exprR b 0 ⟨a, er, bd⟩ = (z80, failR 72 a ⟨a, er, bd⟩) by unfold exprR; rw [if_pos he])
    clear he
    go_enter Try.func128, Try.ntmps128
    go_wp2_with fail
    generalize ((w.alloc (.cells #[.pointer (some ⟨g, 0, none⟩)] 149)).alloc (.cells #[.int .i64 k] 3)).alloc (.cells #[.int .i64 0, .int .i64 0, .int .i64 0, .int .i64 0, .slice none 0 0] 80) = W at H0 c1 c2 ⊢
    have a0 := (blk_cell H0.out.b0 0).trans rfl
    go_still_tail 5, (by kernel_rfl)
    have hw5 : ({ W with drawn := W.drawn + 1 } : World) = W.drew := rfl
    rw [hw5]
    have H1 := Aside0.mk (H0.out.drewN 1)
    have hw6 : W.drewN 1 = W.drew := rfl
    rw [hw6] at H1
    generalize W.drew = W1 at H1 ⊢
    clear hw5 hw6 a0 c1 c2 hb3 hb64
    go_wp2_with fail
    go_at_call 91
    with_reducible refine (fail_r H1.out.rd 72 a).mono ?_
    intro e w2 hp
    obtain ⟨rfl, hR, hK⟩ := hp
    have H2 := Aside0.mk (H1.out.next hR hK)
    obtain ⟨k0, k1, k2, k3, k4, f0, f1, f2, f3, f4⟩ := c5_ ⟨H2.out.b2⟩
    have hq := blk_lt H2.out.b2
    clear hR hK
    go_wp2_with fail
    rw [HX.out]
    have hE := @Box3.end_ (cs := [.int .i64 0, .int .i64 0, .int .i64 0, .int .i64 0, .slice none 0 0]) (x := z80) (h := H2.out)
    simp only [sets, Nat.zero_add, Nat.reduceAdd] at hE
    exact hE _ rfl rfl rfl (z80_M _ _ _)
  · have hb3 : (er != 0) = true := by simp [he]
    have HX := Aside0.mk (show exprR b 0 ⟨a, er, bd⟩ = (z80, ⟨a, er, bd⟩) by unfold exprR; rw [if_neg he])
    clear he
    go_enter Try.func128, Try.ntmps128
    go_upto_region 2 with (fail)
    generalize ((w.alloc (.cells #[.pointer (some ⟨g, 0, none⟩)] 149)).alloc (.cells #[.int .i64 k] 3)).alloc (.cells #[.int .i64 0, .int .i64 0, .int .i64 0, .int .i64 0, .slice none 0 0] 80) = W at H0 c1 c2 ⊢
    obtain ⟨k0, k1, k2, k3, k4, f0, f1, f2, f3, f4⟩ := c5_ ⟨H0.out.b2⟩
    have hq := blk_lt H0.out.b2
    go_wp2_with fail
    rw [HX.out]
    have hE := @Box3.end_ (cs := [.int .i64 0, .int .i64 0, .int .i64 0, .int .i64 0, .slice none 0 0]) (x := z80) (h := H0.out)
    simp only [sets, Nat.zero_add, Nat.reduceAdd] at hE
    exact hE _ rfl rfl rfl (z80_M _ _ _)
structure BoxE (w0 w W : World) (g k : Nat) (b : List Int) (s : R3) (q : Nat) (o n1 n2 n3 : Int) (v : Value) : Prop where
  bx : Box3 w0 w W g k b s
  eb : W.heap[q]? = some (.cells #[.int .i64 o, .int .i64 n1, .int .i64 n2, .int .i64 n3, v] 80 (0, 0))
  lo : w.heap.size + 1 + 1 < q
section
variable {w0 w W W1 : World} {g k : Nat} {b : List Int} {s s1 : R3} {q : Nat} {o n1 n2 n3 : Int} {v : Value}
theorem BoxE.new (h : Box3 w0 w W g k b s) (o : Int) : BoxE w0 w (W.alloc (.cells #[.int .i64 o, .int .i64 0, .int .i64 0, .int .i64 0, .slice none 0 0] 80)) g k b s W.heap.size o 0 0 0 (.slice none 0 0) :=
  ⟨h.alloc _, blk_new W _, blk_lt h.b2⟩
theorem BoxE.next (h : BoxE w0 w W g k b s q o n1 n2 n3 v) (hr : Rd w0 W1 g b s1) (hk : KeepBut W W1 g none) : BoxE w0 w W1 g k b s1 q o n1 n2 n3 v :=
  ⟨h.bx.next hr hk, hk.blk h.eb (by have := h.lo; have := h.bx.lt; omega) (by simp), h.lo⟩
theorem BoxE.drewN (h : BoxE w0 w W g k b s q o n1 n2 n3 v) (n : Nat) : BoxE w0 w (W.drewN n) g k b s q o n1 n2 n3 v := ⟨h.bx.drewN n, h.eb, h.lo⟩
theorem BoxE.set (h : BoxE w0 w W g k b s q o n1 n2 n3 v) (i : Nat) (u : Value) : Box3 w0 w (W.setCell ⟨q, i, none⟩ u) g k b s := by
  have hl := h.lo
  have hlt := h.bx.lt
  have hne : ∀ j, j ≠ q → (W.setCell ⟨q, i, none⟩ u).heap[j]? = W.heap[j]? := fun j hj => Below.heap_setCell W ⟨q, i, none⟩ u j hj
  exact ⟨h.bx.rd.sets (by omega) (by have := h.bx.rd.lt; omega) [u] i, (hne _ (by omega)).trans h.bx.b0, (hne _ (by omega)).trans h.bx.b1, (hne _ (by omega)).trans h.bx.b2, keep_sets h.bx.keep (by omega) [u] i, hlt⟩
theorem BoxE.set1 (h : BoxE w0 w W g k b s q o n1 n2 n3 v) (x : Int) : BoxE w0 w (W.setCell ⟨q, 1, none⟩ (.int .i64 x)) g k b s q o x n2 n3 v := ⟨h.set _ _, by simpa using blk_set h.eb 1 (.int .i64 x), h.lo⟩
theorem BoxE.set2 (h : BoxE w0 w W g k b s q o n1 n2 n3 v) (x : Int) : BoxE w0 w (W.setCell ⟨q, 2, none⟩ (.int .i64 x)) g k b s q o n1 x n3 v := ⟨h.set _ _, by simpa using blk_set h.eb 2 (.int .i64 x), h.lo⟩
theorem BoxE.set3 (h : BoxE w0 w W g k b s q o n1 n2 n3 v) (x : Int) : BoxE w0 w (W.setCell ⟨q, 3, none⟩ (.int .i64 x)) g k b s q o n1 n2 x v := ⟨h.set _ _, by simpa using blk_set h.eb 3 (.int .i64 x), h.lo⟩
theorem BoxE.set4 (h : BoxE w0 w W g k b s q o n1 n2 n3 v) (x : Value) : BoxE w0 w (W.setCell ⟨q, 4, none⟩ x) g k b s q o n1 n2 n3 x := ⟨h.set _ _, by simpa using blk_set h.eb 4 x, h.lo⟩
end
set_option maxHeartbeats 4000000 in
theorem clos_r (f : Nat) (ih : ExprRC f) (w0 w : World) (g k cw cd : Nat) (b : List Int) (s : R3) (hk : k + (f + 1) = 65) (h : Rd w0 w g b s) (hcw : w.heap[cw]? = some (.cells #[.pointer (some ⟨g, 0, none⟩)] 149 (0, 0))) (hcd : w.heap[cd]? = some (.cells #[.int .i64 k] 3 (0, 0))) :
    Calls Try.prog 146 #[.pointer (some ⟨cw, 0, none⟩), .pointer (some ⟨cd, 0, none⟩)] w (IP k80 w0 g b (exprR b f s).1 (exprR b f s).2 w) := by
  have H0 := Aside0.mk (h.alloc (.cells #[.int .i64 0, .int .i64 0, .int .i64 0, .int .i64 0, .slice none 0 0] 80))
  have a0 := (blk_cell hcw 0).trans rfl
  have k0 := (blk_cell hcd 0).trans rfl
  have l0 := blk_lt hcw
  have l1 := blk_lt hcd
  have HB := Aside0.mk (blk_new w (.cells #[.int .i64 0, .int .i64 0, .int .i64 0, .int .i64 0, .slice none 0 0] 80))
  have HKA := Aside0.mk (keep_alloc (KeepBut.refl w g none) (.cells #[.int .i64 0, .int .i64 0, .int .i64 0, .int .i64 0, .slice none 0 0] 80))
  have HG := Aside0.mk h.lt.1
  have HSZ := Aside0.mk (show w.heap.size < (w.alloc (.cells #[.int .i64 0, .int .i64 0, .int .i64 0, .int .i64 0, .slice none 0 0] 80)).heap.size by simp)
  have HK := Aside0.mk (show (k + 1) + f = 65 by omega)
  have hk64 : k ≤ 64 := by omega
  clear h hcw hcd hk
  go_enter Try.func146, Try.ntmps146
  go_wp2_with fail
  go_at_call 128
  have hkk : ((k : Int) + 1) = ((k + 1 : Nat) : Int) := by omega
  rw [hkk]
  have IH := ih
  unfold ExprRC at IH
  generalize w.alloc (.cells #[.int .i64 0, .int .i64 0, .int .i64 0, .int .i64 0, .slice none 0 0] 80) = W at H0 HB HKA HSZ ⊢
  with_reducible refine (IH w0 W g (k + 1) b s HK.out H0.out).mono ?_
  intro e W1 hp
  obtain ⟨cs, rfl, hM, hR, hKp⟩ := hp
  obtain ⟨v4, rfl, hv4⟩ := k80_openM hM
  obtain ⟨A4, c4, rfl⟩ := Kd.R_slice hv4
  have HR := Aside0.mk hR
  have HKW := Aside0.mk (HKA.out.trans hKp (.inl rfl))
  have HB1 := Aside0.mk (hKp.blk HB.out (by have := HG.out; omega) (by simp))
  have HV := Aside0.mk (Kd.R_lower (Kd.R_mono (Kd.R_bound hv4) (fun k_ (hk : _ ∧ W.heap.size ≤ k_ ∧ _) => (show k_ ≠ w.heap.size from by have := HSZ.out; have := hk.2.1; omega))) (show w.heap.size ≤ W.heap.size from HKA.out.1))
  obtain ⟨k0, k1, k2, k3, k4, f0, f1, f2, f3, f4⟩ := c5_ ⟨HB1.out⟩
  have hq := blk_lt HB1.out
  obtain ⟨x, hx⟩ : ∃ x, (exprR b f s).1 = x := ⟨_, rfl⟩
  rw [hx] at HV ⊢
  have HXX := Aside0.mk hx
  clear hM hR hKp hv4 hkk a0 hx
  go_wp2_with fail
  have hE := @item_end _ k80 Try.f146 2 80 (w0 := w0) (w := w) (wn := W1) (g := g) (q := w.heap.size) (b := b) (x := x) (s' := (exprR b f s).2) (cs0 := #[.int .i64 0, .int .i64 0, .int .i64 0, .int .i64 0, .slice none 0 0]) (cs := [.int .i64 x.f0, .int .i64 x.f1, .int .i64 x.f2, .int .i64 x.f3, .slice A4 x.f4.length c4])
  simp only [sets, Nat.zero_add, Nat.reduceAdd] at hE
  rw [HXX.out]
  exact hE _ rfl (by rfl) (by rfl) Try.underlying80 (by kernel_rfl) HB1.out rfl HR.out HKW.out (Nat.le_refl _) HG.out (k80_mkM _ _ _ x HV.out)
set_option maxHeartbeats 8000000 in
theorem expr_rs (f : Nat) (ih : ExprRC f) : ExprRC (f + 1) := by
  intro w0 w g k b s hk h
  have H0 := Aside0.mk (Box3.of h k)
  have HKF := Aside0.mk hk
  have hb64 : decide ((64 : Int) < (k : Int)) = false := decide_eq_false (by omega)
  obtain ⟨a, er, bd⟩ := s
  obtain ⟨A, c, hb, hge, hC, hcap⟩ := H0.out.rd.is
  have c1 := cellS151_1 hb
  have c2 := cellS151_2 hb
  have hlt := h.lt.1
  clear hb hge hC hcap h hk
  by_cases he : er = 0
  · have hb3 : (er != 0) = false := by simp [he]
    have HX := Aside0.mk (show exprR b (f + 1) ⟨a, er, bd⟩ = bodyR b (exprR b f) (intR b ⟨a, er, bd⟩).1 (intR b ⟨a, er, bd⟩).2 by rw [exprR]; rw [if_pos he])
    clear he
    go_enter Try.func128, Try.ntmps128
    go_upto_region 6 with (fail)
    generalize ((w.alloc (.cells #[.pointer (some ⟨g, 0, none⟩)] 149)).alloc (.cells #[.int .i64 k] 3)).alloc (.cells #[.int .i64 0, .int .i64 0, .int .i64 0, .int .i64 0, .slice none 0 0] 80) = W at H0 c1 c2 ⊢
    have a0 := (blk_cell H0.out.b0 0).trans rfl
    go_wp2_with fail
    go_at_call 93
    with_reducible refine (int_r H0.out.rd).mono ?_
    intro e W1 hp
    obtain ⟨rfl, hR, hK⟩ := hp
    obtain ⟨o, ho⟩ : ∃ o, (intR b ⟨a, er, bd⟩).1 = o := ⟨_, rfl⟩
    obtain ⟨s1, hs1⟩ : ∃ s1, (intR b ⟨a, er, bd⟩).2 = s1 := ⟨_, rfl⟩
    rw [ho]
    rw [hs1] at hR
    have HX1 := Aside0.mk (show exprR b (f + 1) ⟨a, er, bd⟩ = bodyR b (exprR b f) o s1 by rw [HX.out, ho, hs1])
    have HE := Aside0.mk (BoxE.new (H0.out.next hR hK) o)
    clear HX a0 c1 c2 hb3 hb64 hR hK ho hs1 H0
    go_upto_region 7 with (fail)
    generalize W1.alloc (.cells #[.int .i64 o, .int .i64 0, .int .i64 0, .int .i64 0, .slice none 0 0] 80) = W2 at HE ⊢
    generalize W1.heap.size = q at HE ⊢
    obtain ⟨a1, er1, bd1⟩ := s1
    obtain ⟨A, c, hb, hge, hC, hcap⟩ := HE.out.bx.rd.is
    have c1 := cellS151_1 hb
    clear hb hge hC hcap
    have a0 := (blk_cell HE.out.bx.b0 0).trans rfl
    go_wp2_with fail
    go_at_call 143
    with_reducible refine (byte_r HE.out.bx.rd).mono ?_
    intro e W3 hp
    obtain ⟨rfl, hR, hK⟩ := hp
    obtain ⟨y, hy⟩ : ∃ y, (byteR b ⟨a1, er1, bd1⟩).1 = y := ⟨_, rfl⟩
    obtain ⟨s2, hs2⟩ : ∃ s2, (byteR b ⟨a1, er1, bd1⟩).2 = s2 := ⟨_, rfl⟩
    rw [hy]
    rw [hs2] at hR
    have HSAY := Aside0.mk (show sayR b ⟨a1, er1, bd1⟩ = (y, if y > 15 then failR 71 a1 s2 else s2) by unfold sayR; rw [hy, hs2])
    have HE3 := Aside0.mk (HE.out.next hR hK)
    clear HE a0 c1 hR hK hy hs2
    have a0 := (blk_cell HE3.out.bx.b0 0).trans rfl
    go_upto_if 34 with (fail)
    go_cut [7] (fun s7 wc => s7 = .int .u8 y ∧ Aside0 (BoxE w0 w wc g k b (if y > 15 then failR 71 a1 s2 else s2) q o 0 0 0 (.slice none 0 0)))
    case first =>
      by_cases hy : y > 15
      · have hb1 : decide (15 < y) = true := decide_eq_true hy
        have HY := Aside0.mk (if_pos hy : (if y > 15 then failR 71 a1 s2 else s2) = _)
        have hy2 : 15 < y := hy
        clear hy
        go_wp2_with fail
        go_at_call 91
        with_reducible refine (fail_r HE3.out.bx.rd 71 a1).mono ?_
        intro e W4 hp
        obtain ⟨rfl, hR, hK⟩ := hp
        have HE4 := Aside0.mk (HE3.out.next hR hK)
        clear hR hK
        go_wp2_with fail
        go_meet
        exact ⟨rfl, ⟨by rw [HY.out]; exact HE4.out⟩⟩
      · have hb1 : decide (15 < y) = false := decide_eq_false hy
        have HY := Aside0.mk (if_neg hy : (if y > 15 then failR 71 a1 s2 else s2) = _)
        have hy2 : ¬ 15 < y := hy
        clear hy
        go_wp2_with fail
        go_meet
        exact ⟨rfl, ⟨by rw [HY.out]; exact HE3.out⟩⟩
    case rest =>
    obtain ⟨rfl, HE4⟩ := hcut
    clear HE3 a0
    obtain ⟨s3, hs3⟩ : ∃ s3, (if y > 15 then failR 71 a1 s2 else s2) = s3 := ⟨_, rfl⟩
    rw [hs3] at HE4 HSAY
    clear hs3
    have a0 := (blk_cell HE4.out.bx.b0 0).trans rfl
    go_wp2_with fail
    go_at_call 144
    with_reducible refine (given_r HE4.out.bx.rd y 1).mono ?_
    intro e V0 hp
    obtain ⟨rfl, hR, hK⟩ := hp
    obtain ⟨m0, hm⟩ : ∃ m, (givenR b y 1 s3).1 = m := ⟨_, rfl⟩
    obtain ⟨t0, ht⟩ : ∃ t, (givenR b y 1 s3).2 = t := ⟨_, rfl⟩
    rw [hm]
    rw [ht] at hR
    have HM0 := Aside0.mk hm
    have HT0 := Aside0.mk ht
    have G0 := Aside0.mk (HE4.out.next hR hK)
    clear a0 hR hK hm ht
    have a0 := (blk_cell G0.out.bx.b0 0).trans rfl
    have fe := (blk_cell G0.out.eb 1).trans rfl
    have ff_ := blk_frozen G0.out.eb 1
    have fl := blk_lt G0.out.eb
    go_upto_region 12 with (fail)
    have F0 := Aside0.mk (G0.out.set1 m0)
    clear a0 fe ff_ fl
    generalize V0.setCell ⟨q, 1, none⟩ (.int .i64 m0) = X0 at F0 ⊢
    have a0 := (blk_cell F0.out.bx.b0 0).trans rfl
    go_wp2_with fail
    go_at_call 144
    with_reducible refine (given_r F0.out.bx.rd y 2).mono ?_
    intro e V1 hp
    obtain ⟨rfl, hR, hK⟩ := hp
    obtain ⟨m1, hm⟩ : ∃ m, (givenR b y 2 t0).1 = m := ⟨_, rfl⟩
    obtain ⟨t1, ht⟩ : ∃ t, (givenR b y 2 t0).2 = t := ⟨_, rfl⟩
    rw [hm]
    rw [ht] at hR
    have HM1 := Aside0.mk hm
    have HT1 := Aside0.mk ht
    have G1 := Aside0.mk (F0.out.next hR hK)
    clear a0 hR hK hm ht
    have a0 := (blk_cell G1.out.bx.b0 0).trans rfl
    have fe := (blk_cell G1.out.eb 2).trans rfl
    have ff_ := blk_frozen G1.out.eb 2
    have fl := blk_lt G1.out.eb
    go_upto_region 13 with (fail)
    have F1 := Aside0.mk (G1.out.set2 m1)
    clear a0 fe ff_ fl
    generalize V1.setCell ⟨q, 2, none⟩ (.int .i64 m1) = X1 at F1 ⊢
    have a0 := (blk_cell F1.out.bx.b0 0).trans rfl
    go_wp2_with fail
    go_at_call 144
    with_reducible refine (given_r F1.out.bx.rd y 4).mono ?_
    intro e V2 hp
    obtain ⟨rfl, hR, hK⟩ := hp
    obtain ⟨m2, hm⟩ : ∃ m, (givenR b y 4 t1).1 = m := ⟨_, rfl⟩
    obtain ⟨t2, ht⟩ : ∃ t, (givenR b y 4 t1).2 = t := ⟨_, rfl⟩
    rw [hm]
    rw [ht] at hR
    have HM2 := Aside0.mk hm
    have HT2 := Aside0.mk ht
    have G2 := Aside0.mk (F1.out.next hR hK)
    clear a0 hR hK hm ht
    have a0 := (blk_cell G2.out.bx.b0 0).trans rfl
    have fe := (blk_cell G2.out.eb 3).trans rfl
    have ff_ := blk_frozen G2.out.eb 3
    have fl := blk_lt G2.out.eb
    go_upto_region 14 with (fail)
    have F2 := Aside0.mk (G2.out.set3 m2)
    clear a0 fe ff_ fl
    generalize V2.setCell ⟨q, 3, none⟩ (.int .i64 m2) = X2 at F2 ⊢
    obtain ⟨a4, er4, bd4⟩ := t2
    have HN := Aside0.mk (show numsR b y s3 = ((m0, m1, m2), ⟨a4, er4, bd4⟩) by unfold numsR; rw [HM0.out, HT0.out, HM1.out, HT1.out, HM2.out, HT2.out])
    have HX2 := Aside0.mk (show exprR b (f + 1) ⟨a, er, bd⟩ = (⟨o, m0, m1, m2, (argsR b (exprR b f) y ⟨a4, er4, bd4⟩).1⟩, (argsR b (exprR b f) y ⟨a4, er4, bd4⟩).2) by rw [HX1.out]; unfold bodyR; rw [HSAY.out]; simp only [HN.out])
    clear HX1 HSAY HN HM0 HT0 HM1 HT1 HM2 HT2 HE4 G0 G1 G2 F0 F1
    obtain ⟨A, c, hb, hge, hC, hcap⟩ := F2.out.bx.rd.is
    have c1 := cellS151_1 hb
    have c2 := cellS151_2 hb
    clear hb hge hC hcap
    have a0 := (blk_cell F2.out.bx.b0 0).trans rfl
    by_cases hz : bits .and .u8 y 8 = 0 ∨ ¬ er4 = 0
    · have HX3 := Aside0.mk (HX2.out.trans (by rw [show argsR b (exprR b f) y ⟨a4, er4, bd4⟩ = ([], ⟨a4, er4, bd4⟩) by unfold argsR; rw [if_pos hz]] : _ = ((⟨o, m0, m1, m2, []⟩ : S80), (⟨a4, er4, bd4⟩ : R3))))
      have hcase : ((bits BinOp.and IntKind.u8 y 8 != 0) = false) ∨ ((bits BinOp.and IntKind.u8 y 8 != 0) = true ∧ (er4 == 0) = false) := by
        by_cases h8 : bits .and .u8 y 8 = 0
        · exact .inl (by simp [h8])
        · exact .inr ⟨by simp [h8], by simpa using hz.resolve_left h8⟩
      clear hz HX2
      obtain ⟨ge0, ge1, ge2, ge3, ge4, _, _, _, _, _⟩ := c5_ ⟨F2.out.eb⟩
      obtain ⟨k0, k1, k2, k3, k4, f0, f1, f2, f3, f4⟩ := c5_ ⟨F2.out.bx.b2⟩
      have hq := blk_lt F2.out.bx.b2
      have hE := @Box3.end_ (cs := [.int .i64 o, .int .i64 m0, .int .i64 m1, .int .i64 m2, .slice none 0 0]) (x := (⟨o, m0, m1, m2, []⟩ : S80)) (h := F2.out.bx)
      simp only [sets, Nat.zero_add, Nat.reduceAdd] at hE
      have HEE := Aside0.mk hE
      clear hE
      rcases hcase with h8 | ⟨h8, h9⟩
      · go_wp2_with fail
        rw [HX3.out]
        exact HEE.out _ rfl rfl rfl (k80_mkM _ _ _ (⟨o, m0, m1, m2, []⟩ : S80) (Kd.R_nil _ _ _ _ _))
      · go_wp2_with fail
        rw [HX3.out]
        exact HEE.out _ rfl rfl rfl (k80_mkM _ _ _ (⟨o, m0, m1, m2, []⟩ : S80) (Kd.R_nil _ _ _ _ _))
    · have h8 : (bits BinOp.and IntKind.u8 y 8 != 0) = true := by
        by_cases h8 : bits .and .u8 y 8 = 0
        · exact absurd (.inl h8) hz
        · simp [h8]
      have h9 : (er4 == 0) = true := by
        by_cases h9 : er4 = 0
        · simp [h9]
        · exact absurd (.inr h9) hz
      obtain ⟨l, hl⟩ : ∃ l, listR b (exprR b f) ⟨a4, er4, bd4⟩ = l := ⟨_, rfl⟩
      have HX3 := Aside0.mk (HX2.out.trans (by rw [show argsR b (exprR b f) y ⟨a4, er4, bd4⟩ = (l.1, if l.1.length = 0 then failR 71 a4 l.2 else l.2) by unfold argsR; rw [if_neg hz, hl]] : _ = ((⟨o, m0, m1, m2, l.1⟩ : S80), (if l.1.length = 0 then failR 71 a4 l.2 else l.2))))
      clear hz HX2
      have HLI := Aside0.mk (list145 w0 X2 g w.heap.size (w.heap.size + 1) b ⟨a4, er4, bd4⟩ (fun w1 => w1.heap[w.heap.size]? = some (.cells #[.pointer (some ⟨g, 0, none⟩)] 149 (0, 0)) ∧ w1.heap[w.heap.size + 1]? = some (.cells #[.int .i64 k] 3 (0, 0))) (exprR b f) F2.out.bx.rd ⟨F2.out.bx.b0, F2.out.bx.b1⟩
        (fun w1 w2 h hk => ⟨(hk _ (blk_lt F2.out.bx.b0) (by have := F2.out.bx.lt; omega)).trans h.1, (hk _ (blk_lt F2.out.bx.b1) (by have := F2.out.bx.lt; omega)).trans h.2⟩)
        (fun s2 w2 hr hi _ => clos_r f ih w0 w2 g k _ _ b s2 HKF.out hr hi.1 hi.2))
      rw [hl] at HLI
      clear hl
      go_wp2_with fail
      go_at_call 145
      with_reducible refine HLI.out.mono ?_
      intro e Y hp
      obtain ⟨v, rfl, hv, hR, hK⟩ := hp
      have HLO := Aside0.mk (F2.out.lo)
      have HQS := Aside0.mk (blk_lt F2.out.eb)
      have HV := Aside0.mk (Kd.R_lower (Kd.R_mono (Kd.R_bound hv) (fun k_ (hk : _ ∧ X2.heap.size ≤ k_ ∧ _) => (show q < k_ from by have := HQS.out; have := hk.2.1; omega))) (show w.heap.size ≤ X2.heap.size from F2.out.bx.keep.1))
      obtain ⟨l1, l2⟩ := l
      obtain ⟨AL, cl, rfl⟩ := Kd.R_slice hv
      have Y0 := Aside0.mk (F2.out.next hR hK)
      have gf4 := blk_frozen Y0.out.eb 4
      have ge4 := (blk_cell Y0.out.eb 4).trans rfl
      have hql := blk_lt Y0.out.eb
      clear a0 c1 c2 hv hR hK HLI h8 h9
      go_upto_region 17 with (fail)
      have Y1 := Aside0.mk (Y0.out.set4 (.slice AL l1.length cl))
      have HV1 := Aside0.mk (Kd.R_far (p := ⟨q, 4, none⟩) HV.out (fun k_ hk => by show k_ ≠ q; omega) (.slice AL l1.length cl))
      clear gf4 ge4 hql HV Y0
      generalize Y.setCell ⟨q, 4, none⟩ (.slice AL l1.length cl) = Z at Y1 HV1 ⊢
      have ge4 := (blk_cell Y1.out.eb 4).trans rfl
      by_cases h0 : l1.length = 0
      · have hb0 : (l1.length == 0) = true := by simp [h0]
        have HX4 := Aside0.mk (HX3.out.trans (by rw [if_pos h0] : _ = ((⟨o, m0, m1, m2, l1⟩ : S80), failR 71 a4 l2)))
        have H0L := Aside0.mk h0
        clear h0 HX3
        have a0 := (blk_cell Y1.out.bx.b0 0).trans rfl
        go_wp2_with fail
        go_at_call 91
        with_reducible refine (fail_r Y1.out.bx.rd 71 a4).mono ?_
        intro e Z2 hp
        obtain ⟨rfl, hR, hK⟩ := hp
        have Y2 := Aside0.mk (Y1.out.next hR hK)
        have HV2 := Aside0.mk (Kd.R_keep HV1.out hK (fun k_ hk => by have := HLO.out; have := Y1.out.bx.lt; omega))
        clear hR hK a0 ge4 hb0
        obtain ⟨ge0, ge1, ge2, ge3, ge4, _, _, _, _, _⟩ := c5_ ⟨Y2.out.eb⟩
        obtain ⟨k0, k1, k2, k3, k4, f0, f1, f2, f3, f4⟩ := c5_ ⟨Y2.out.bx.b2⟩
        have hq := blk_lt Y2.out.bx.b2
        have hE := @Box3.end_ (cs := [.int .i64 o, .int .i64 m0, .int .i64 m1, .int .i64 m2, .slice AL l1.length cl]) (x := (⟨o, m0, m1, m2, l1⟩ : S80)) (h := Y2.out.bx)
        simp only [sets, Nat.zero_add, Nat.reduceAdd] at hE
        have HEE := Aside0.mk hE
        clear hE
        go_wp2_with fail
        rw [HX4.out]
        exact HEE.out _ rfl rfl rfl (k80_mkM _ _ _ (⟨o, m0, m1, m2, l1⟩ : S80) (Kd.R_mono HV2.out (fun k_ hk => by have := HLO.out; omega)))
      · have hb0 : (l1.length == 0) = false := by simp [h0]
        have HX4 := Aside0.mk (HX3.out.trans (by rw [if_neg h0] : _ = ((⟨o, m0, m1, m2, l1⟩ : S80), l2)))
        have H0L := Aside0.mk h0
        clear h0 HX3 ge4
        obtain ⟨ge0, ge1, ge2, ge3, ge4, _, _, _, _, _⟩ := c5_ ⟨Y1.out.eb⟩
        obtain ⟨k0, k1, k2, k3, k4, f0, f1, f2, f3, f4⟩ := c5_ ⟨Y1.out.bx.b2⟩
        have hq := blk_lt Y1.out.bx.b2
        have hE := @Box3.end_ (cs := [.int .i64 o, .int .i64 m0, .int .i64 m1, .int .i64 m2, .slice AL l1.length cl]) (x := (⟨o, m0, m1, m2, l1⟩ : S80)) (h := Y1.out.bx)
        simp only [sets, Nat.zero_add, Nat.reduceAdd] at hE
        have HEE := Aside0.mk hE
        clear hE
        go_wp2_with fail
        rw [HX4.out]
        exact HEE.out _ rfl rfl rfl (k80_mkM _ _ _ (⟨o, m0, m1, m2, l1⟩ : S80) (Kd.R_mono HV1.out (fun k_ hk => by have := HLO.out; omega)))
  · have hb3 : (er != 0) = true := by simp [he]
    have HX := Aside0.mk (show exprR b (f + 1) ⟨a, er, bd⟩ = (z80, ⟨a, er, bd⟩) by rw [exprR]; rw [if_neg he])
    clear he
    go_enter Try.func128, Try.ntmps128
    go_upto_region 2 with (fail)
    generalize ((w.alloc (.cells #[.pointer (some ⟨g, 0, none⟩)] 149)).alloc (.cells #[.int .i64 k] 3)).alloc (.cells #[.int .i64 0, .int .i64 0, .int .i64 0, .int .i64 0, .slice none 0 0] 80) = W at H0 c1 c2 ⊢
    obtain ⟨k0, k1, k2, k3, k4, f0, f1, f2, f3, f4⟩ := c5_ ⟨H0.out.b2⟩
    have hq := blk_lt H0.out.b2
    go_wp2_with fail
    rw [HX.out]
    have hE := @Box3.end_ (cs := [.int .i64 0, .int .i64 0, .int .i64 0, .int .i64 0, .slice none 0 0]) (x := z80) (h := H0.out)
    simp only [sets, Nat.zero_add, Nat.reduceAdd] at hE
    exact hE _ rfl rfl rfl (z80_M _ _ _)
theorem expr_rc : ∀ f, ExprRC f
  | 0 => expr_r0
  | f + 1 => expr_rs f (expr_rc f)
theorem expr_r {w0 w : World} {g : Nat} {b : List Int} {s : R3} (h : Rd w0 w g b s) : Calls Try.prog 128 #[.pointer (some ⟨g, 0, none⟩), .int .i64 1] w (IP k80 w0 g b (exprR b 64 s).1 (exprR b 64 s).2 w) := expr_rc 64 w0 w g 1 b s rfl h
end Go.Proofs.Ytpbdkkahodaloaa.V
end

section
namespace Go.Proofs.Ytpbdkkahodaloaa.J
open Go.RowKit Go.Proofs.Ytpbdkkahodaloaa.PS Go.Proofs.Ytpbdkkahodaloaa.U Go.Proofs.Ytpbdkkahodaloaa.T Go.Proofs.YtpbdkkahodaloaaW.PrintWords Go.Proofs.YtpbdkkahodaloaaW.PrintMore
set_option linter.unusedVariables false
set_option maxRecDepth 100000
theorem results_spot1 {fn : Func} (h : fn.results = #[.cell 6 91]) (tmps : Array Value) (w : World) (g : Nat) (cs : Array Value) (h2 : tmps.getD 6 undef = .pointer (some ⟨g, 0, none⟩))
    (hg : w.heap[g]? = some (.cells cs 91 (0, 0))) (hi : (Try.prog.info? 91).map (·.size) = some cs.size) : (results fn tmps).run Try.prog w = .ok (.agg cs) w := by
  have h2' : tmps[6]?.getD undef = .pointer (some ⟨g, 0, none⟩) := by simpa using h2
  simp [results, h, h2', asAddr, run_loadVar_row w g 91 91 cs (0, 0) _ hg Try.underlying91 rfl hi]
theorem results_spot {fn : Func} (h : fn.results = #[.cell 2 91, .tmp 3]) (tmps : Array Value) (w : World) (g : Nat) (cs : Array Value) (x : Value) (h2 : tmps.getD 2 undef = .pointer (some ⟨g, 0, none⟩)) (h3 : tmps.getD 3 undef = x)
    (hg : w.heap[g]? = some (.cells cs 91 (0, 0))) (hi : (Try.prog.info? 91).map (·.size) = some cs.size) : (results fn tmps).run Try.prog w = .ok (.tuple #[.agg cs, x]) w := by
  have h2' : tmps[2]?.getD undef = .pointer (some ⟨g, 0, none⟩) := by simpa using h2
  have h3' : tmps[3]?.getD undef = x := by simpa using h3
  simp [results, h, h2', h3', asAddr, run_loadVar_row w g 91 91 cs (0, 0) _ hg Try.underlying91 rfl hi]
theorem at_c (a b c : Int) (w : World) : Calls Try.prog 106 #[.int .i64 a, .int .i64 b, .int .i64 c] w (fun e w' => e = .returned (.agg #[.int .i64 a, .int .i64 b, .int .i64 c, .slice none 0 0]) ∧ Below w.heap.size w w') := by
  go_enter Try.func106, Try.ntmps106
  go_wp2_with fail
  refine bodyPost_ret (results_spot1 rfl _ _ w.heap.size #[.int .i64 a, .int .i64 b, .int .i64 c, .slice none 0 0] rfl (blk_new w _) (by kernel_rfl)) rfl ?_
  exact ⟨rfl, bel⟩
theorem spot_cells {w : World} {g : Nat} {u0 u1 u2 u3 : Value} {t : TypeId} (h : w.heap[g]? = some (.cells #[u0, u1, u2, u3] t (0, 0))) :
    w.cell? ⟨g, 0, none⟩ = some u0 ∧ w.cell? ⟨g, 1, none⟩ = some u1 ∧ w.cell? ⟨g, 2, none⟩ = some u2 ∧ w.cell? ⟨g, 3, none⟩ = some u3 ∧ w.frozen? ⟨g, 0, none⟩ = false ∧ w.frozen? ⟨g, 1, none⟩ = false ∧ w.frozen? ⟨g, 2, none⟩ = false ∧ w.frozen? ⟨g, 3, none⟩ = false :=
  ⟨(blk_cell h 0).trans rfl, (blk_cell h 1).trans rfl, (blk_cell h 2).trans rfl, (blk_cell h 3).trans rfl, blk_frozen h 0, blk_frozen h 1, blk_frozen h 2, blk_frozen h 3⟩
theorem spot_set {w : World} {g : Nat} {u0 u1 u2 u3 v0 v1 v2 v3 : Value} {t : TypeId} (h : w.heap[g]? = some (.cells #[u0, u1, u2, u3] t (0, 0))) :
    ((((w.setCell ⟨g, 0, none⟩ v0).setCell ⟨g, 1, none⟩ v1).setCell ⟨g, 2, none⟩ v2).setCell ⟨g, 3, none⟩ v3).heap[g]? = some (.cells #[v0, v1, v2, v3] t (0, 0)) :=
  V.sets_all (cs := [v0, v1, v2, v3]) h rfl
theorem spot_below {w W : World} {v0 v1 v2 v3 : Value} (h : Below w.heap.size w W) : Below w.heap.size w ((((W.setCell ⟨w.heap.size + 1, 0, none⟩ v0).setCell ⟨w.heap.size + 1, 1, none⟩ v1).setCell ⟨w.heap.size + 1, 2, none⟩ v2).setCell ⟨w.heap.size + 1, 3, none⟩ v3) :=
  below_set (below_set (below_set (below_set h (by omega)) (by omega)) (by omega)) (by omega)
abbrev spot0 : Array Value := #[.int .i64 0, .int .i64 0, .int .i64 0, .slice none 0 0]
def SpotPost (φ : Int → Prop) (w : World) (e : Ending) (w' : World) : Prop := ∃ a b c A n cc k, e = .returned (.tuple #[.agg #[.int .i64 a, .int .i64 b, .int .i64 c, .slice A n cc], .int .i64 k]) ∧ φ k ∧ Below w.heap.size w w'
theorem spot_post {φ : Int → Prop} {a b c k : Int} {A : Option Addr} {n cc : Nat} {w w' : World} (h : φ k) (hb : Below w.heap.size w w') : SpotPost φ w (.returned (.tuple #[.agg #[.int .i64 a, .int .i64 b, .int .i64 c, .slice A n cc], .int .i64 k])) w' := ⟨a, b, c, A, n, cc, k, rfl, h, hb⟩
structure PR (w : World) (cs : Array Value) (l : List ByteArray) (v : Value) (w' : World) : Prop where
  below : Below w.heap.size w w'
  one : w'.heap[w.heap.size]? = some (.cells cs 33 (0, 0))
  two : w'.heap[w.heap.size + 1]? = some (.cells spot0 91 (0, 0))
  row : Kd.R Kd.string 9 w' (w.heap.size + 2) (fun _ => True) v l
  big : w.heap.size + 2 ≤ w'.heap.size
theorem PR.next {w w' w2 : World} {cs : Array Value} {l : List ByteArray} {v : Value} (h : PR w cs l v w') (hb : Below w'.heap.size w' w2) : PR w cs l v w2 :=
  ⟨below_then h.below h.below.size hb, blk_below h.one hb, blk_below h.two hb, Kd.R_below h.row hb, Nat.le_trans h.big hb.size⟩
theorem PR.push {w w' w2 : World} {cs : Array Value} {l l2 : List ByteArray} {v v2 : Value} (h : PR w cs l v w') (ho : Kd.R Kd.string 9 w2 (w.heap.size + 2) (fun _ => True) v2 l2) (hb : Below (w.heap.size + 2) w' w2) : PR w cs l2 v2 w2 :=
  ⟨⟨hb.os.trans h.below.os, hb.tape.trans h.below.tape, hb.output.trans h.below.output, Nat.le_trans h.below.size hb.size, fun k hk => (hb.block k (by omega)).trans (h.below.block k hk)⟩, (hb.block _ (by omega)).trans h.one, (hb.block _ (by omega)).trans h.two, ho, Nat.le_trans h.big hb.size⟩
structure OkG (x : S69) : Prop where
  name : x.f0.size ≤ 12
structure OkP (p : Pk) : Prop where
  name : p.name.size ≤ 12
  options : ∀ x ∈ p.options, OkO x
  tables : ∀ x ∈ p.tables, OkT x
  groups : ∀ x ∈ p.groups, OkG x
  lines : ∀ x ∈ p.lines, OkL x
  checks : ∀ x ∈ p.checks, OkC x
theorem all_of {α : Type} {φ : α → Prop} {l : List α} {i : Nat} (hi : ¬ i < l.length) (h : ∀ x ∈ l.take i, φ x) : ∀ x ∈ l, φ x := by rwa [List.take_of_length_le (by omega)] at h
set_option maxHeartbeats 8000000 in
theorem parts_c (w : World) (u : Value) (p : Pk) (hp : Lies w u p) (hf : Few p) : Calls Try.prog 107 #[u] w (SpotPost (fun v => v = 0 → OkP p) w) := by
  have HL := Aside0.mk hp
  obtain ⟨A2, c2, A3, c3, A4, c4, A5, c5, A6, c6, rfl, hx2, hx3, hx4, hx5, hx6, _⟩ := hp
  have HX2 := Aside0.mk hx2
  have HX3 := Aside0.mk hx3
  have HX4 := Aside0.mk hx4
  have HX5 := Aside0.mk hx5
  have HX6 := Aside0.mk hx6
  have HF := Aside0.mk hf
  have B0 := Aside0.mk (show PR w #[.string p.name, .int .i64 p.year, .slice A2 p.options.length c2, .slice A3 p.tables.length c3, .slice A4 p.groups.length c4, .slice A5 p.lines.length c5, .slice A6 p.checks.length c6] [] (.slice none 0 0) ((w.alloc (.cells #[.string p.name, .int .i64 p.year, .slice A2 p.options.length c2, .slice A3 p.tables.length c3, .slice A4 p.groups.length c4, .slice A5 p.lines.length c5, .slice A6 p.checks.length c6] 33)).alloc (.cells spot0 91)) from by
    have h := Boxes2.new w #[.string p.name, .int .i64 p.year, .slice A2 p.options.length c2, .slice A3 p.tables.length c3, .slice A4 p.groups.length c4, .slice A5 p.lines.length c5, .slice A6 p.checks.length c6] spot0 33 91 rfl
    exact ⟨h.below, h.one, h.two, Kd.R_nil _ _ _ _ _, by rw [World.size_alloc, World.size_alloc]; omega⟩)
  clear hx2 hx3 hx4 hx5 hx6 hf
  go_enter Try.func107, Try.ntmps107
  go_wp2_with fail
  with_reducible refine (named_c p.name _).mono ?_
  rintro e w1 ⟨v, rfl, hv, hb⟩
  have HP0 := Aside0.mk (B0.out.next hb)
  have HV := Aside0.mk hv
  clear hv hb B0
  cases v with
  | false =>
    go_wp2_with fail
    with_reducible refine (at_c _ _ _ _).mono ?_
    rintro e w9 ⟨rfl, hb9⟩
    have HQ9 := Aside0.mk (HP0.out.next hb9)
    clear hb9
    obtain ⟨z0, z1, z2, z3, f0, f1, f2, f3⟩ := spot_cells HQ9.out.two
    have zl := blk_lt HQ9.out.two
    go_wp2_with fail
    refine bodyPost_ret (results_spot rfl _ _ _ #[_, _, _, _] _ rfl rfl (spot_set HQ9.out.two) (by kernel_rfl)) rfl ?_
    exact spot_post (fun h => absurd h (by decide)) (spot_below HQ9.out.below)
  | true =>
  have HN := Aside0.mk (HV.out rfl)
  clear HV
  have a1 := (blk_cell HP0.out.one 1).trans (show _ = some (Value.int .i64 p.year) from rfl)
  go_upto_region 3 with (fail)
  go_cut [28] (fun s wd => ∃ b : Bool, s = .bool b ∧ wd = w1)
  case first =>
    go_wp2_with fail
    all_goals (go_meet; exact ⟨_, rfl, rfl⟩)
  case rest =>
  obtain ⟨t28, rfl, hw⟩ := hcut
  subst hw
  clear a1
  cases t28 with
  | true =>
    go_wp2_with fail
    with_reducible refine (at_c _ _ _ _).mono ?_
    rintro e w9 ⟨rfl, hb9⟩
    have HQ9 := Aside0.mk (HP0.out.next hb9)
    clear hb9
    obtain ⟨z0, z1, z2, z3, f0, f1, f2, f3⟩ := spot_cells HQ9.out.two
    have zl := blk_lt HQ9.out.two
    go_wp2_with fail
    refine bodyPost_ret (results_spot rfl _ _ _ #[_, _, _, _] _ rfl rfl (spot_set HQ9.out.two) (by kernel_rfl)) rfl ?_
    exact spot_post (fun h => absurd h (by decide)) (spot_below HQ9.out.below)
  | false =>
  go_wp2_with fail
  have hmax2 : p.options.length ≤ 4 := HF.out.o
  go_loopg [4, 5] (p.options.length + 1) (fun kq v4 v5 w' => ∃ (i : Nat) (A : Option Addr) (c : Nat) (l : List ByteArray), v4 = .slice A l.length c ∧ v5 = .int .i64 (i : Int) ∧ Aside0 (kq + i = p.options.length + 1) ∧ Aside0 (i ≤ p.options.length) ∧ Aside0 (l.length ≤ 0 + i) ∧ Aside0 (∀ y ∈ p.options.take i, OkO y) ∧ Aside0 (PR w #[.string p.name, .int .i64 p.year, .slice A2 p.options.length c2, .slice A3 p.tables.length c3, .slice A4 p.groups.length c4, .slice A5 p.lines.length c5, .slice A6 p.checks.length c6] l (.slice A l.length c) w'))
  case atStart => exact ⟨0, none, 0, [], rfl, rfl, ⟨by omega⟩, ⟨by omega⟩, ⟨by simp⟩, ⟨by simp⟩, HP0⟩
  case round =>
    obtain ⟨i, A, c, l, rfl, rfl, HK, HI, HLL, HT, HW⟩ := hrel
    cases gk with
    | zero => exact absurd HK.out (by have := HI.out; omega)
    | succ k2 =>
      have a0 := (blk_cell HW.out.one 2).trans (show _ = some (Value.slice A2 p.options.length c2) from rfl)
      by_cases hlt : i < p.options.length
      · obtain ⟨a, ha⟩ : ∃ a, p.options[i]? = some a := ⟨_, List.getElem?_eq_getElem hlt⟩
        have hra : rd_T97 p.options (i : Int) = a := by unfold rd_T97; rw [Int.toNat_natCast, List.getD_eq_getElem?_getD, ha]; rfl
        obtain ⟨ad, A1, c1, hA, e0, e1, l1, g1⟩ := at_T97 (Kd.C_below HX2.out HW.out.below) (i : Int) (by omega) (by omega)
        subst hA
        rw [hra] at *
        rw [Int.toNat_natCast] at e0 e1
        have HA := Aside0.mk ha
        obtain ⟨hln, hlc, hlC⟩ := Kd.R_reads' HW.out.row
        have HLC := Aside0.mk hlC
        clear ha hra hln hlc hlC
        have p0 : (0 : Int) ≤ (i : Int) := by omega
        have p1 : (i : Int) < (p.options.length : Int) := by omega
        go_wp2_with fail
        with_reducible refine (options_c a A1 c1 l A c wr g1 l1 HLC.out).mono ?_
        rintro e w2 ⟨v, rfl, hv, hb⟩
        have HB := Aside0.mk hb
        have HW2 := Aside0.mk (HW.out.next hb)
        have HV := Aside0.mk hv
        clear hv hb a0 e1 l1 g1
        by_cases h0 : v = 0
        case neg =>
          go_wp2_with fail
          with_reducible refine (at_c _ _ _ _).mono ?_
          rintro e w9 ⟨rfl, hb9⟩
          have HQ9 := Aside0.mk (HW2.out.next hb9)
          clear hb9
          obtain ⟨z0, z1, z2, z3, f0, f1, f2, f3⟩ := spot_cells HQ9.out.two
          have zl := blk_lt HQ9.out.two
          go_wp2_with fail
          refine bodyPost_ret (results_spot rfl _ _ _ #[_, _, _, _] _ rfl rfl (spot_set HQ9.out.two) (by kernel_rfl)) rfl ?_
          exact spot_post (fun h => absurd h h0) (spot_below HQ9.out.below)
        subst h0
        have HV0 := Aside0.mk (HV.out rfl)
        clear HV
        have e0 := old_cell HB.out e0
        have a0 := (blk_cell HW2.out.one 2).trans (show _ = some (Value.slice (some ad) p.options.length c2) from rfl)
        have HLN := Aside0.mk (show (l.length + 1) * 16 ≤ 140737488355328 by have := HLL.out; have := HI.out; omega)
        go_wp2_with (at_builtin; refine Kd.R_append Kd.string (w.heap.size + 2) rfl _ _ 95 9 (.string ⟨#[]⟩) 16 rfl Try.underlying95 info9 rfl (by decide) (by decide) (.slice A l.length c) l a.f0 [.string a.f0] (fun _ => True) (fun _ => False) rfl rfl rfl (fun _ h => h.elim) (fun _ _ => trivial) HW2.out.row (Below.refl _ _) HW2.out.big HLN.out ?_; intro v9 w4 ho9 hb9 _ _)
        obtain ⟨A9, c9, rfl, _, _⟩ := Kd.R_reads ho9
        have HN := Aside0.mk (HW2.out.push ho9 hb9)
        clear ho9 hb9 a0 e0
        try go_wp2_with fail
        go_roundg k2
        case measure => omega
        case rel => exact ⟨i + 1, A9, c9, l ++ [a.f0], rfl, by simp, ⟨by have := HK.out; omega⟩, ⟨by omega⟩, ⟨by rw [List.length_append]; have := HLL.out; simp; omega⟩, ⟨take_next HA.out HT.out HV0.out⟩, HN⟩
      · have HR2 := Aside0.mk (all_of hlt HT.out)
        have HP2 := HW
        have HL2 := Aside0.mk (show l.length ≤ 4 by have := HLL.out; have := HI.out; omega)
        clear HK HI HLL HT HW
        obtain ⟨v2, hv2⟩ : ∃ v, v = wr := ⟨_, rfl⟩
        subst hv2
        go_wp2_with fail
        clear a0
        have hmax3 : p.tables.length ≤ 4 := HF.out.t
        go_loopg [4, 7] (p.tables.length + 1) (fun kq v4 v5 w' => ∃ (i : Nat) (A : Option Addr) (c : Nat) (l : List ByteArray), v4 = .slice A l.length c ∧ v5 = .int .i64 (i : Int) ∧ Aside0 (kq + i = p.tables.length + 1) ∧ Aside0 (i ≤ p.tables.length) ∧ Aside0 (l.length ≤ 4 + i) ∧ Aside0 (∀ y ∈ p.tables.take i, OkT y) ∧ Aside0 (PR w #[.string p.name, .int .i64 p.year, .slice A2 p.options.length c2, .slice A3 p.tables.length c3, .slice A4 p.groups.length c4, .slice A5 p.lines.length c5, .slice A6 p.checks.length c6] l (.slice A l.length c) w'))
        case atStart => exact ⟨0, _, _, _, rfl, rfl, ⟨by omega⟩, ⟨by omega⟩, ⟨by have := HL2.out; omega⟩, ⟨by simp⟩, HP2⟩
        case round =>
          obtain ⟨i, A, c, l, rfl, rfl, HK, HI, HLL, HT, HW⟩ := hrel
          cases gk with
          | zero => exact absurd HK.out (by have := HI.out; omega)
          | succ k3 =>
            have a0 := (blk_cell HW.out.one 3).trans (show _ = some (Value.slice A3 p.tables.length c3) from rfl)
            by_cases hlt : i < p.tables.length
            · obtain ⟨a, ha⟩ : ∃ a, p.tables[i]? = some a := ⟨_, List.getElem?_eq_getElem hlt⟩
              have hra : rd_T72 p.tables (i : Int) = a := by unfold rd_T72; rw [Int.toNat_natCast, List.getD_eq_getElem?_getD, ha]; rfl
              obtain ⟨ad, A1, c1, hA, e0, e1, l1, g1⟩ := at_T72 (Kd.C_below HX3.out HW.out.below) (i : Int) (by omega) (by omega)
              subst hA
              rw [hra] at *
              rw [Int.toNat_natCast] at e0 e1
              have HA := Aside0.mk ha
              obtain ⟨hln, hlc, hlC⟩ := Kd.R_reads' HW.out.row
              have HLC := Aside0.mk hlC
              clear ha hra hln hlc hlC
              have p0 : (0 : Int) ≤ (i : Int) := by omega
              have p1 : (i : Int) < (p.tables.length : Int) := by omega
              go_wp2_with fail
              with_reducible refine (table_c a A1 c1 l A c wr g1 HLC.out).mono ?_
              rintro e w2 ⟨v, rfl, hv, hb⟩
              have HB := Aside0.mk hb
              have HW2 := Aside0.mk (HW.out.next hb)
              have HV := Aside0.mk hv
              clear hv hb a0 e1 l1 g1
              by_cases h0 : v = 0
              case neg =>
                go_wp2_with fail
                with_reducible refine (at_c _ _ _ _).mono ?_
                rintro e w9 ⟨rfl, hb9⟩
                have HQ9 := Aside0.mk (HW2.out.next hb9)
                clear hb9
                obtain ⟨z0, z1, z2, z3, f0, f1, f2, f3⟩ := spot_cells HQ9.out.two
                have zl := blk_lt HQ9.out.two
                go_wp2_with fail
                refine bodyPost_ret (results_spot rfl _ _ _ #[_, _, _, _] _ rfl rfl (spot_set HQ9.out.two) (by kernel_rfl)) rfl ?_
                exact spot_post (fun h => absurd h h0) (spot_below HQ9.out.below)
              subst h0
              have HV0 := Aside0.mk (HV.out rfl)
              clear HV
              have e0 := old_cell HB.out e0
              have a0 := (blk_cell HW2.out.one 3).trans (show _ = some (Value.slice (some ad) p.tables.length c3) from rfl)
              have HLN := Aside0.mk (show (l.length + 1) * 16 ≤ 140737488355328 by have := HLL.out; have := HI.out; omega)
              go_wp2_with (at_builtin; refine Kd.R_append Kd.string (w.heap.size + 2) rfl _ _ 95 9 (.string ⟨#[]⟩) 16 rfl Try.underlying95 info9 rfl (by decide) (by decide) (.slice A l.length c) l a.f0 [.string a.f0] (fun _ => True) (fun _ => False) rfl rfl rfl (fun _ h => h.elim) (fun _ _ => trivial) HW2.out.row (Below.refl _ _) HW2.out.big HLN.out ?_; intro v9 w4 ho9 hb9 _ _)
              obtain ⟨A9, c9, rfl, _, _⟩ := Kd.R_reads ho9
              have HN := Aside0.mk (HW2.out.push ho9 hb9)
              clear ho9 hb9 a0 e0
              try go_wp2_with fail
              go_roundg k3
              case measure => omega
              case rel => exact ⟨i + 1, A9, c9, l ++ [a.f0], rfl, by simp, ⟨by have := HK.out; omega⟩, ⟨by omega⟩, ⟨by rw [List.length_append]; have := HLL.out; simp; omega⟩, ⟨take_next HA.out HT.out HV0.out⟩, HN⟩
            · have HR3 := Aside0.mk (all_of hlt HT.out)
              have HP3 := HW
              have HL3 := Aside0.mk (show l.length ≤ 8 by have := HLL.out; have := HI.out; omega)
              clear HK HI HLL HT HW
              obtain ⟨v3, hv3⟩ : ∃ v, v = wr := ⟨_, rfl⟩
              subst hv3
              go_wp2_with fail
              clear a0
              have hmax4 : p.groups.length ≤ 4 := HF.out.g
              go_loopg [4, 9] (p.groups.length + 1) (fun kq v4 v5 w' => ∃ (i : Nat) (A : Option Addr) (c : Nat) (l : List ByteArray), v4 = .slice A l.length c ∧ v5 = .int .i64 (i : Int) ∧ Aside0 (kq + i = p.groups.length + 1) ∧ Aside0 (i ≤ p.groups.length) ∧ Aside0 (l.length ≤ 8 + i) ∧ Aside0 (∀ y ∈ p.groups.take i, OkG y) ∧ Aside0 (PR w #[.string p.name, .int .i64 p.year, .slice A2 p.options.length c2, .slice A3 p.tables.length c3, .slice A4 p.groups.length c4, .slice A5 p.lines.length c5, .slice A6 p.checks.length c6] l (.slice A l.length c) w'))
              case atStart => exact ⟨0, _, _, _, rfl, rfl, ⟨by omega⟩, ⟨by omega⟩, ⟨by have := HL3.out; omega⟩, ⟨by simp⟩, HP3⟩
              case round =>
                obtain ⟨i, A, c, l, rfl, rfl, HK, HI, HLL, HT, HW⟩ := hrel
                cases gk with
                | zero => exact absurd HK.out (by have := HI.out; omega)
                | succ k4 =>
                  have a0 := (blk_cell HW.out.one 4).trans (show _ = some (Value.slice A4 p.groups.length c4) from rfl)
                  by_cases hlt : i < p.groups.length
                  · obtain ⟨a, ha⟩ : ∃ a, p.groups[i]? = some a := ⟨_, List.getElem?_eq_getElem hlt⟩
                    have hra : rd_T69 p.groups (i : Int) = a := by unfold rd_T69; rw [Int.toNat_natCast, List.getD_eq_getElem?_getD, ha]; rfl
                    obtain ⟨ad, hA, e0, e1⟩ := at_T69 (Kd.C_below HX4.out HW.out.below) (i : Int) (by omega) (by omega)
                    subst hA
                    rw [hra] at *
                    rw [Int.toNat_natCast] at e0 e1
                    have HA := Aside0.mk ha
                    obtain ⟨hln, hlc, hlC⟩ := Kd.R_reads' HW.out.row
                    have HLC := Aside0.mk hlC
                    clear ha hra hln hlc hlC
                    have p0 : (0 : Int) ≤ (i : Int) := by omega
                    have p1 : (i : Int) < (p.groups.length : Int) := by omega
                    go_wp2_with fail
                    with_reducible refine (look_c l A c a.f0 wr HLC.out).mono ?_
                    rintro e w2 ⟨v, rfl, hv, hb⟩
                    have HB := Aside0.mk hb
                    have HW2 := Aside0.mk (HW.out.next hb)
                    have HV := Aside0.mk (show v = 0 → OkG a from fun h => ⟨hv h⟩)
                    clear hv hb a0
                    by_cases h0 : v = 0
                    case neg =>
                      go_wp2_with fail
                      with_reducible refine (at_c _ _ _ _).mono ?_
                      rintro e w9 ⟨rfl, hb9⟩
                      have HQ9 := Aside0.mk (HW2.out.next hb9)
                      clear hb9
                      obtain ⟨z0, z1, z2, z3, f0, f1, f2, f3⟩ := spot_cells HQ9.out.two
                      have zl := blk_lt HQ9.out.two
                      go_wp2_with fail
                      refine bodyPost_ret (results_spot rfl _ _ _ #[_, _, _, _] _ rfl rfl (spot_set HQ9.out.two) (by kernel_rfl)) rfl ?_
                      exact spot_post (fun h => absurd h h0) (spot_below HQ9.out.below)
                    subst h0
                    have HV0 := Aside0.mk (HV.out rfl)
                    clear HV
                    have e0 := old_cell HB.out e0
                    have a0 := (blk_cell HW2.out.one 4).trans (show _ = some (Value.slice (some ad) p.groups.length c4) from rfl)
                    have e1 := old_cell HB.out e1
                    go_upto_region 26 with (fail)
                    go_cut [121] (fun s wd => ∃ b : Bool, s = .bool b ∧ wd = w2)
                    case first =>
                      go_wp2_with fail
                      all_goals (go_meet; exact ⟨_, rfl, rfl⟩)
                    case rest =>
                    obtain ⟨t121, rfl, hw⟩ := hcut
                    subst hw
                    clear e1
                    cases t121 with
                    | true =>
                      clear e0 a0
                      go_wp2_with fail
                      with_reducible refine (at_c _ _ _ _).mono ?_
                      rintro e w9 ⟨rfl, hb9⟩
                      have HQ9 := Aside0.mk (HW2.out.next hb9)
                      clear hb9
                      obtain ⟨z0, z1, z2, z3, f0, f1, f2, f3⟩ := spot_cells HQ9.out.two
                      have zl := blk_lt HQ9.out.two
                      go_wp2_with fail
                      refine bodyPost_ret (results_spot rfl _ _ _ #[_, _, _, _] _ rfl rfl (spot_set HQ9.out.two) (by kernel_rfl)) rfl ?_
                      exact spot_post (fun h => absurd h (by decide)) (spot_below HQ9.out.below)
                    | false =>
                    have HLN := Aside0.mk (show (l.length + 1) * 16 ≤ 140737488355328 by have := HLL.out; have := HI.out; omega)
                    go_wp2_with (at_builtin; refine Kd.R_append Kd.string (w.heap.size + 2) rfl _ _ 95 9 (.string ⟨#[]⟩) 16 rfl Try.underlying95 info9 rfl (by decide) (by decide) (.slice A l.length c) l a.f0 [.string a.f0] (fun _ => True) (fun _ => False) rfl rfl rfl (fun _ h => h.elim) (fun _ _ => trivial) HW2.out.row (Below.refl _ _) HW2.out.big HLN.out ?_; intro v9 w4 ho9 hb9 _ _)
                    obtain ⟨A9, c9, rfl, _, _⟩ := Kd.R_reads ho9
                    have HN := Aside0.mk (HW2.out.push ho9 hb9)
                    clear ho9 hb9 a0 e0
                    try go_wp2_with fail
                    go_roundg k4
                    case measure => omega
                    case rel => exact ⟨i + 1, A9, c9, l ++ [a.f0], rfl, by simp, ⟨by have := HK.out; omega⟩, ⟨by omega⟩, ⟨by rw [List.length_append]; have := HLL.out; simp; omega⟩, ⟨take_next HA.out HT.out HV0.out⟩, HN⟩
                  · have HR4 := Aside0.mk (all_of hlt HT.out)
                    have HP4 := HW
                    have HL4 := Aside0.mk (show l.length ≤ 12 by have := HLL.out; have := HI.out; omega)
                    clear HK HI HLL HT HW
                    obtain ⟨v4, hv4⟩ : ∃ v, v = wr := ⟨_, rfl⟩
                    subst hv4
                    go_wp2_with fail
                    clear a0
                    have hmax5 : p.lines.length ≤ 48 := HF.out.l
                    go_loopg [4, 11] (p.lines.length + 1) (fun kq v4 v5 w' => ∃ (i : Nat) (A : Option Addr) (c : Nat) (l : List ByteArray), v4 = .slice A l.length c ∧ v5 = .int .i64 (i : Int) ∧ Aside0 (kq + i = p.lines.length + 1) ∧ Aside0 (i ≤ p.lines.length) ∧ Aside0 (l.length ≤ 12 + i) ∧ Aside0 (∀ y ∈ p.lines.take i, OkL y) ∧ Aside0 (PR w #[.string p.name, .int .i64 p.year, .slice A2 p.options.length c2, .slice A3 p.tables.length c3, .slice A4 p.groups.length c4, .slice A5 p.lines.length c5, .slice A6 p.checks.length c6] l (.slice A l.length c) w'))
                    case atStart => exact ⟨0, _, _, _, rfl, rfl, ⟨by omega⟩, ⟨by omega⟩, ⟨by have := HL4.out; omega⟩, ⟨by simp⟩, HP4⟩
                    case round =>
                      obtain ⟨i, A, c, l, rfl, rfl, HK, HI, HLL, HT, HW⟩ := hrel
                      cases gk with
                      | zero => exact absurd HK.out (by have := HI.out; omega)
                      | succ k5 =>
                        have a0 := (blk_cell HW.out.one 5).trans (show _ = some (Value.slice A5 p.lines.length c5) from rfl)
                        by_cases hlt : i < p.lines.length
                        · obtain ⟨a, ha⟩ : ∃ a, p.lines[i]? = some a := ⟨_, List.getElem?_eq_getElem hlt⟩
                          have hra : rd_T77 p.lines (i : Int) = a := by unfold rd_T77; rw [Int.toNat_natCast, List.getD_eq_getElem?_getD, ha]; rfl
                          obtain ⟨ad, B, d, hA, e0, e1, e2, e3, e4, e5, e6, l1, g1⟩ := at_T77 (Kd.C_below HX5.out HW.out.below) (i : Int) (by omega) (by omega)
                          subst hA
                          rw [hra] at *
                          rw [Int.toNat_natCast] at e0 e1 e2 e3 e4 e5 e6
                          have HA := Aside0.mk ha
                          obtain ⟨hln, hlc, hlC⟩ := Kd.R_reads' HW.out.row
                          have HLC := Aside0.mk hlC
                          clear ha hra hln hlc hlC
                          have p0 : (0 : Int) ≤ (i : Int) := by omega
                          have p1 : (i : Int) < (p.lines.length : Int) := by omega
                          have HL1 := HL.out.below HW.out.below
                          have CW := Aside0.mk (fun (W : World) (hW : Below wr.heap.size wr W) => oneLine_c W _ p (HL1.below hW) a B d l A c (Kd.C_below g1 hW) (Kd.C_below HLC.out hW))
                          obtain ⟨b0, b1, b2, b3, b4, b5, b6⟩ := cells7 HW.out.one
                          have hdr : Below wr.heap.size wr wr := Below.refl _ _
                          clear HL1 a0 g1
                          go_upto_region 32 with (fail)
                          go_region_held3 (fun w' => w'.cell? ⟨w.heap.size, 0, none⟩ = some (.string p.name) ∧ w'.cell? ⟨w.heap.size, 1, none⟩ = some (.int .i64 p.year) ∧ w'.cell? ⟨w.heap.size, 2, none⟩ = some (.slice A2 p.options.length c2) ∧ w'.cell? ⟨w.heap.size, 3, none⟩ = some (.slice A3 p.tables.length c3) ∧ w'.cell? ⟨w.heap.size, 4, none⟩ = some (.slice A4 p.groups.length c4) ∧ w'.cell? ⟨w.heap.size, 5, none⟩ = some (.slice (some ad) p.lines.length c5) ∧ w'.cell? ⟨w.heap.size, 6, none⟩ = some (.slice A6 p.checks.length c6) ∧ w'.cell? (ad.add (i * 7)) = some (.string a.f0) ∧ w'.cell? ⟨(ad.add (i * 7)).block, (ad.add (i * 7)).off + 1, none⟩ = some (.bool a.f1) ∧ w'.cell? ⟨(ad.add (i * 7)).block, (ad.add (i * 7)).off + 2, none⟩ = some (.bool a.f2) ∧ w'.cell? ⟨(ad.add (i * 7)).block, (ad.add (i * 7)).off + 3, none⟩ = some (.int .i64 a.f3) ∧ w'.cell? ⟨(ad.add (i * 7)).block, (ad.add (i * 7)).off + 4, none⟩ = some (.int .i64 a.f4) ∧ w'.cell? ⟨(ad.add (i * 7)).block, (ad.add (i * 7)).off + 5, none⟩ = some (.int .i64 a.f5) ∧ w'.cell? ⟨(ad.add (i * 7)).block, (ad.add (i * 7)).off + 6, none⟩ = some (.slice B a.f6.length d) ∧ Below wr.heap.size wr w')
                            (first | ((try go_split_ands); refine ⟨?_, ?_, ?_, ?_, ?_, ?_, ?_, ?_, ?_, ?_, ?_, ?_, ?_, ?_, ?_⟩ <;> (first | assumption | exact Below.refl _ _ | exact below_drew1 (by assumption) | exact below_drew (by assumption) | exact old_cell (by assumption) (by assumption) | exact below_then (by assumption) (Below.size (by assumption)) (by assumption) | go_keep)))
                            (first | (go_at_call 133; refine (CW.out _ (by first | assumption | exact below_drew (Below.refl _ _) | exact below_drew (by assumption))).mono ?_; rintro e w' ⟨v, kk, rfl, hv, hbv⟩))
                          have HB := Aside0.mk (below_then (below_drew (Below.refl wr.heap.size wr)) (Nat.le_refl _) hbv)
                          have HW2 := Aside0.mk (HW.out.next HB.out)
                          have HV := Aside0.mk hv
                          clear hv hbv b0 b1 b2 b3 b4 b5 b6 hdr
                          clear e1 e2 e3 e4 e5 e6 l1
                          by_cases h0 : v = 0
                          case neg =>
                            go_wp2_with fail
                            with_reducible refine (at_c _ _ _ _).mono ?_
                            rintro e w9 ⟨rfl, hb9⟩
                            have HQ9 := Aside0.mk (HW2.out.next hb9)
                            clear hb9
                            obtain ⟨z0, z1, z2, z3, f0, f1, f2, f3⟩ := spot_cells HQ9.out.two
                            have zl := blk_lt HQ9.out.two
                            go_wp2_with fail
                            refine bodyPost_ret (results_spot rfl _ _ _ #[_, _, _, _] _ rfl rfl (spot_set HQ9.out.two) (by kernel_rfl)) rfl ?_
                            exact spot_post (fun h => absurd h h0) (spot_below HQ9.out.below)
                          subst h0
                          have HV0 := Aside0.mk (HV.out rfl)
                          clear HV
                          have e0 := old_cell HB.out e0
                          have a0 := (blk_cell HW2.out.one 5).trans (show _ = some (Value.slice (some ad) p.lines.length c5) from rfl)
                          have HLN := Aside0.mk (show (l.length + 1) * 16 ≤ 140737488355328 by have := HLL.out; have := HI.out; omega)
                          go_wp2_with (at_builtin; refine Kd.R_append Kd.string (w.heap.size + 2) rfl _ _ 95 9 (.string ⟨#[]⟩) 16 rfl Try.underlying95 info9 rfl (by decide) (by decide) (.slice A l.length c) l a.f0 [.string a.f0] (fun _ => True) (fun _ => False) rfl rfl rfl (fun _ h => h.elim) (fun _ _ => trivial) HW2.out.row (Below.refl _ _) HW2.out.big HLN.out ?_; intro v9 w4 ho9 hb9 _ _)
                          obtain ⟨A9, c9, rfl, _, _⟩ := Kd.R_reads ho9
                          have HN := Aside0.mk (HW2.out.push ho9 hb9)
                          clear ho9 hb9 a0 e0
                          try go_wp2_with fail
                          go_roundg k5
                          case measure => omega
                          case rel => exact ⟨i + 1, A9, c9, l ++ [a.f0], rfl, by simp, ⟨by have := HK.out; omega⟩, ⟨by omega⟩, ⟨by rw [List.length_append]; have := HLL.out; simp; omega⟩, ⟨take_next HA.out HT.out HV0.out⟩, HN⟩
                        · have HR5 := Aside0.mk (all_of hlt HT.out)
                          have HP5 := HW
                          have HL5 := Aside0.mk (show l.length ≤ 60 by have := HLL.out; have := HI.out; omega)
                          clear HK HI HLL HT HW
                          obtain ⟨v5, hv5⟩ : ∃ v, v = wr := ⟨_, rfl⟩
                          subst hv5
                          go_wp2_with fail
                          clear a0
                          have hmax6 : p.checks.length ≤ 16 := HF.out.c
                          go_loopg [4, 14] (p.checks.length + 1) (fun kq v4 v5 w' => ∃ (i : Nat) (A : Option Addr) (c : Nat) (l : List ByteArray), v4 = .slice A l.length c ∧ v5 = .int .i64 (i : Int) ∧ Aside0 (kq + i = p.checks.length + 1) ∧ Aside0 (i ≤ p.checks.length) ∧ Aside0 (l.length ≤ 60 + i) ∧ Aside0 (∀ y ∈ p.checks.take i, OkC y) ∧ Aside0 (PR w #[.string p.name, .int .i64 p.year, .slice A2 p.options.length c2, .slice A3 p.tables.length c3, .slice A4 p.groups.length c4, .slice A5 p.lines.length c5, .slice A6 p.checks.length c6] l (.slice A l.length c) w'))
                          case atStart => exact ⟨0, _, _, _, rfl, rfl, ⟨by omega⟩, ⟨by omega⟩, ⟨by have := HL5.out; omega⟩, ⟨by simp⟩, HP5⟩
                          case round =>
                            obtain ⟨i, A, c, l, rfl, rfl, HK, HI, HLL, HT, HW⟩ := hrel
                            cases gk with
                            | zero => exact absurd HK.out (by have := HI.out; omega)
                            | succ k6 =>
                              have a0 := (blk_cell HW.out.one 6).trans (show _ = some (Value.slice A6 p.checks.length c6) from rfl)
                              by_cases hlt : i < p.checks.length
                              · obtain ⟨a, ha⟩ : ∃ a, p.checks[i]? = some a := ⟨_, List.getElem?_eq_getElem hlt⟩
                                have hra : rd_T82 p.checks (i : Int) = a := by unfold rd_T82; rw [Int.toNat_natCast, List.getD_eq_getElem?_getD, ha]; rfl
                                obtain ⟨ad, B, d, hA, e0, e1, e2, e3, e4, e5, e6, e7, e8, l1, g1⟩ := at_T82 (Kd.C_below HX6.out HW.out.below) (i : Int) (by omega) (by omega)
                                subst hA
                                rw [hra] at *
                                rw [Int.toNat_natCast] at e0 e1 e2 e3 e4 e5 e6 e7 e8
                                have HA := Aside0.mk ha
                                obtain ⟨hln, hlc, hlC⟩ := Kd.R_reads' HW.out.row
                                have HLC := Aside0.mk hlC
                                clear ha hra hln hlc hlC
                                have p0 : (0 : Int) ≤ (i : Int) := by omega
                                have p1 : (i : Int) < (p.checks.length : Int) := by omega
                                have HL1 := HL.out.below HW.out.below
                                have CW := Aside0.mk (fun (W : World) (hW : Below wr.heap.size wr W) => oneCheck_c W _ p (HL1.below hW) a B d l A c (Kd.C_below HLC.out hW))
                                obtain ⟨b0, b1, b2, b3, b4, b5, b6⟩ := cells7 HW.out.one
                                have hdr : Below wr.heap.size wr wr := Below.refl _ _
                                clear HL1 a0 g1
                                go_upto_region 39 with (fail)
                                go_region_held3 (fun w' => w'.cell? ⟨w.heap.size, 0, none⟩ = some (.string p.name) ∧ w'.cell? ⟨w.heap.size, 1, none⟩ = some (.int .i64 p.year) ∧ w'.cell? ⟨w.heap.size, 2, none⟩ = some (.slice A2 p.options.length c2) ∧ w'.cell? ⟨w.heap.size, 3, none⟩ = some (.slice A3 p.tables.length c3) ∧ w'.cell? ⟨w.heap.size, 4, none⟩ = some (.slice A4 p.groups.length c4) ∧ w'.cell? ⟨w.heap.size, 5, none⟩ = some (.slice A5 p.lines.length c5) ∧ w'.cell? ⟨w.heap.size, 6, none⟩ = some (.slice (some ad) p.checks.length c6) ∧ w'.cell? (ad.add (i * 9)) = some (.string a.f0) ∧ w'.cell? ⟨(ad.add (i * 9)).block, (ad.add (i * 9)).off + 1, none⟩ = some (.bool a.f1) ∧ w'.cell? ⟨(ad.add (i * 9)).block, (ad.add (i * 9)).off + 2, none⟩ = some (.int .i64 a.f2) ∧ w'.cell? ⟨(ad.add (i * 9)).block, (ad.add (i * 9)).off + 3, none⟩ = some (.int .i64 a.f3.f0) ∧ w'.cell? ⟨(ad.add (i * 9)).block, (ad.add (i * 9)).off + 4, none⟩ = some (.int .i64 a.f3.f1) ∧ w'.cell? ⟨(ad.add (i * 9)).block, (ad.add (i * 9)).off + 5, none⟩ = some (.int .i64 a.f3.f2) ∧ w'.cell? ⟨(ad.add (i * 9)).block, (ad.add (i * 9)).off + 6, none⟩ = some (.int .i64 a.f3.f3) ∧ w'.cell? ⟨(ad.add (i * 9)).block, (ad.add (i * 9)).off + 7, none⟩ = some (.slice B a.f3.f4.length d) ∧ w'.cell? ⟨(ad.add (i * 9)).block, (ad.add (i * 9)).off + 8, none⟩ = some (.string a.f4) ∧ Below wr.heap.size wr w')
                                  (first | ((try go_split_ands); refine ⟨?_, ?_, ?_, ?_, ?_, ?_, ?_, ?_, ?_, ?_, ?_, ?_, ?_, ?_, ?_, ?_, ?_⟩ <;> (first | assumption | exact Below.refl _ _ | exact below_drew1 (by assumption) | exact below_drew (by assumption) | exact old_cell (by assumption) (by assumption) | exact below_then (by assumption) (Below.size (by assumption)) (by assumption) | go_keep)))
                                  (first | (go_at_call 134; refine (CW.out _ (by first | assumption | exact below_drew (Below.refl _ _) | exact below_drew (by assumption))).mono ?_; rintro e w' ⟨v, rfl, hv, hbv⟩))
                                have HB := Aside0.mk (below_then (below_drew (Below.refl wr.heap.size wr)) (Nat.le_refl _) hbv)
                                have HW2 := Aside0.mk (HW.out.next HB.out)
                                have HV := Aside0.mk hv
                                clear hv hbv b0 b1 b2 b3 b4 b5 b6 hdr
                                clear e1 e2 e3 e4 e5 e6 e7 e8 l1
                                by_cases h0 : v = 0
                                case neg =>
                                  go_wp2_with fail
                                  with_reducible refine (at_c _ _ _ _).mono ?_
                                  rintro e w9 ⟨rfl, hb9⟩
                                  have HQ9 := Aside0.mk (HW2.out.next hb9)
                                  clear hb9
                                  obtain ⟨z0, z1, z2, z3, f0, f1, f2, f3⟩ := spot_cells HQ9.out.two
                                  have zl := blk_lt HQ9.out.two
                                  go_wp2_with fail
                                  refine bodyPost_ret (results_spot rfl _ _ _ #[_, _, _, _] _ rfl rfl (spot_set HQ9.out.two) (by kernel_rfl)) rfl ?_
                                  exact spot_post (fun h => absurd h h0) (spot_below HQ9.out.below)
                                subst h0
                                have HV0 := Aside0.mk (HV.out rfl)
                                clear HV
                                have e0 := old_cell HB.out e0
                                have a0 := (blk_cell HW2.out.one 6).trans (show _ = some (Value.slice (some ad) p.checks.length c6) from rfl)
                                have HLN := Aside0.mk (show (l.length + 1) * 16 ≤ 140737488355328 by have := HLL.out; have := HI.out; omega)
                                go_wp2_with (at_builtin; refine Kd.R_append Kd.string (w.heap.size + 2) rfl _ _ 95 9 (.string ⟨#[]⟩) 16 rfl Try.underlying95 info9 rfl (by decide) (by decide) (.slice A l.length c) l a.f0 [.string a.f0] (fun _ => True) (fun _ => False) rfl rfl rfl (fun _ h => h.elim) (fun _ _ => trivial) HW2.out.row (Below.refl _ _) HW2.out.big HLN.out ?_; intro v9 w4 ho9 hb9 _ _)
                                obtain ⟨A9, c9, rfl, _, _⟩ := Kd.R_reads ho9
                                have HN := Aside0.mk (HW2.out.push ho9 hb9)
                                clear ho9 hb9 a0 e0
                                try go_wp2_with fail
                                go_roundg k6
                                case measure => omega
                                case rel => exact ⟨i + 1, A9, c9, l ++ [a.f0], rfl, by simp, ⟨by have := HK.out; omega⟩, ⟨by omega⟩, ⟨by rw [List.length_append]; have := HLL.out; simp; omega⟩, ⟨take_next HA.out HT.out HV0.out⟩, HN⟩
                              · have HR6 := Aside0.mk (all_of hlt HT.out)
                                have HP6 := HW
                                have HL6 := Aside0.mk (show l.length ≤ 76 by have := HLL.out; have := HI.out; omega)
                                clear HK HI HLL HT HW
                                obtain ⟨v6, hv6⟩ : ∃ v, v = wr := ⟨_, rfl⟩
                                subst hv6
                                obtain ⟨b0, b1, b2, b3, b4, b5, b6⟩ := cells7 HP6.out.one
                                go_wp2_with fail
                                clear a0
                                with_reducible refine (cells_c _ _ p (HL.out.below HP6.out.below)).mono ?_
                                rintro e w8 ⟨v, rfl, _, hb⟩
                                have HP7 := Aside0.mk (HP6.out.next hb)
                                have HOK := Aside0.mk (show OkP p from ⟨HN.out, HR2.out, HR3.out, HR4.out, HR5.out, HR6.out⟩)
                                clear hb b0 b1 b2 b3 b4 b5 b6
                                by_cases hbig : (256 : Int) < v
                                · have hb1 : decide ((256 : Int) < v) = true := decide_eq_true hbig
                                  go_wp2_with fail
                                  with_reducible refine (at_c _ _ _ _).mono ?_
                                  rintro e w9 ⟨rfl, hb9⟩
                                  have HQ9 := Aside0.mk (HP7.out.next hb9)
                                  clear hb9
                                  obtain ⟨z0, z1, z2, z3, f0, f1, f2, f3⟩ := spot_cells HQ9.out.two
                                  have zl := blk_lt HQ9.out.two
                                  go_wp2_with fail
                                  refine bodyPost_ret (results_spot rfl _ _ _ #[_, _, _, _] _ rfl rfl (spot_set HQ9.out.two) (by kernel_rfl)) rfl ?_
                                  exact spot_post (fun h => absurd h (by decide)) (spot_below HQ9.out.below)
                                · have hb1 : decide ((256 : Int) < v) = false := decide_eq_false hbig
                                  obtain ⟨z0, z1, z2, z3, f0, f1, f2, f3⟩ := spot_cells HP7.out.two
                                  have zl := blk_lt HP7.out.two
                                  go_wp2_with fail
                                  refine bodyPost_ret (results_spot rfl _ _ _ #[_, _, _, _] _ rfl rfl (spot_set HP7.out.two) (by kernel_rfl)) rfl ?_
                                  exact spot_post (fun _ => HOK.out) (spot_below HP7.out.below)
end Go.Proofs.Ytpbdkkahodaloaa.J
end

section
namespace Go.Proofs.Ytpbdkkahodaloaa.J
open Go.RowKit Go.Proofs.Ytpbdkkahodaloaa.PS Go.Proofs.Ytpbdkkahodaloaa.U Go.Proofs.Ytpbdkkahodaloaa.T Go.Proofs.YtpbdkkahodaloaaW.PrintWords Go.Proofs.YtpbdkkahodaloaaW.PrintMore
set_option linter.unusedVariables false
set_option maxRecDepth 100000
def BoolAt (w : World) (e : Ending) (w' : World) : Prop := ∃ v, e = .returned (.bool v) ∧ w' = w
theorem within_c (a b c : Int) (w : World) : Calls Try.prog 165 #[.int .i64 a, .int .i64 b, .int .i64 c] w (BoolAt w) := by
  go_enter Try.func165, Try.ntmps165
  go_wp2_with fail
  all_goals (go_ret; exact ⟨_, rfl, rfl⟩)
theorem cells5 {w : World} {g : Nat} {v0 v1 v2 v3 v4 : Value} {t : TypeId} (h : w.heap[g]? = some (.cells #[v0, v1, v2, v3, v4] t (0, 0))) :
    w.cell? ⟨g, 0, none⟩ = some v0 ∧ w.cell? ⟨g, 1, none⟩ = some v1 ∧ w.cell? ⟨g, 2, none⟩ = some v2 ∧ w.cell? ⟨g, 3, none⟩ = some v3 ∧ w.cell? ⟨g, 4, none⟩ = some v4 :=
  ⟨(blk_cell h 0).trans rfl, (blk_cell h 1).trans rfl, (blk_cell h 2).trans rfl, (blk_cell h 3).trans rfl, (blk_cell h 4).trans rfl⟩
set_option maxHeartbeats 4000000 in
theorem numbers_c (e : S80) (A : Option Addr) (c : Nat) (w : World) : Calls Try.prog 161 #[.agg #[.int .i64 e.f0, .int .i64 e.f1, .int .i64 e.f2, .int .i64 e.f3, .slice A e.f4.length c]] w (BoolPost (0 ≤ e.f3 ∧ e.f3 ≤ 5) w) := by
  obtain ⟨e0, e1, e2, e3, l⟩ := e
  obtain ⟨w1, hw1⟩ : ∃ w1, w1 = w.alloc (.cells #[.int .i64 e0, .int .i64 e1, .int .i64 e2, .int .i64 e3, .slice A l.length c] 80) := ⟨_, rfl⟩
  have hb : w1.heap[w.heap.size]? = some (.cells #[.int .i64 e0, .int .i64 e1, .int .i64 e2, .int .i64 e3, .slice A l.length c] 80 (0, 0)) := by rw [hw1]; exact blk_new w _
  have HB := Aside0.mk (show Below w.heap.size w w1 by rw [hw1]; exact bel)
  obtain ⟨c0, c1, c2, c3, c4⟩ := cells5 hb
  have hl := blk_lt hb
  clear hb
  go_enter Try.func161, Try.ntmps161
  go_upto_block 0 with (fail)
  all_goals (rw [← hw1] at *; clear hw1)
  all_goals
    go_cut [3, 4, 5] (fun a b d wd => ∃ x y z : Bool, a = .bool x ∧ b = .bool y ∧ d = .bool z ∧ wd = w1 ∧ Aside0 (z = true → 0 ≤ e3 ∧ e3 ≤ 5))
    case first =>
      go_wp2_with fail
      all_goals try (go_meet; exact ⟨_, _, _, rfl, rfl, rfl, rfl, ⟨fun hz => by first | (exact absurd hz (by decide)) | (simp at hz; omega)⟩⟩)
      all_goals ((with_reducible refine (within_c _ _ _ _).mono ?_); rintro e w2 ⟨v, rfl, hv⟩; subst hv; go_wp2_with fail)
      all_goals try (go_meet; exact ⟨_, _, _, rfl, rfl, rfl, rfl, ⟨fun hz => by first | (exact absurd hz (by decide)) | (simp at hz; omega)⟩⟩)
      all_goals ((with_reducible refine (within_c _ _ _ _).mono ?_); rintro e w2 ⟨v, rfl, hv⟩; subst hv; go_wp2_with fail)
      all_goals (go_meet; exact ⟨_, _, _, rfl, rfl, rfl, rfl, ⟨fun hz => by first | (exact absurd hz (by decide)) | (simp at hz; omega)⟩⟩)
    case rest =>
      obtain ⟨x, y, z, rfl, rfl, rfl, rfl, HZ⟩ := hcut
      go_wp2_with fail
      all_goals (go_ret; exact ⟨_, rfl, (fun h => by first | (exact absurd h (by decide)) | exact HZ.out h), HB.out⟩)
structure AR (op lo hi : Int) : Prop where
  one : 1 ≤ op
  last : op ≤ 41
  six : hi ≤ 6
  none : op ≤ 12 → hi = 0
  some : 13 ≤ op → 1 ≤ lo
  two : op = 25 ∨ op = 26 ∨ op = 36 → 2 ≤ lo
  three : op = 34 → 3 ≤ lo
def ArPost (op : Int) (w : World) (e : Ending) (w' : World) : Prop := ∃ lo hi, e = .returned (.tuple #[.int .i64 lo, .int .i64 hi]) ∧ (0 ≤ lo → AR op lo hi) ∧ w' = w
set_option maxHeartbeats 4000000 in
theorem arity_c (op : Int) (w : World) : Calls Try.prog 160 #[.int .i64 op] w (ArPost op w) := by
  go_enter Try.func160, Try.ntmps160
  go_wp2_with fail
  all_goals (first | go_ret2 | go_ret)
  all_goals (first
    | exact ⟨_, _, rfl, (fun h => absurd h (by decide)), rfl⟩
    | (rename_i h; have h2 := eq_of_beq h; subst h2; exact ⟨_, _, rfl, (fun _ => by constructor <;> decide), rfl⟩))
end Go.Proofs.Ytpbdkkahodaloaa.J
end

section
namespace Go.Proofs.Ytpbdkkahodaloaa.J
open Go.RowKit Go.Proofs.Ytpbdkkahodaloaa.PS Go.Proofs.Ytpbdkkahodaloaa.U Go.Proofs.Ytpbdkkahodaloaa.T Go.Proofs.YtpbdkkahodaloaaW.PrintWords Go.Proofs.YtpbdkkahodaloaaW.PrintMore
set_option linter.unusedVariables false
set_option maxRecDepth 100000
structure Fm (e : S80) : Prop where
  one : 1 ≤ e.f0
  last : e.f0 ≤ 41
  mode : 0 ≤ e.f3 ∧ e.f3 ≤ 5
  six : e.f4.length ≤ 6
  none : e.f0 ≤ 12 → e.f4.length = 0
  some : 13 ≤ e.f0 → 1 ≤ e.f4.length
  two : e.f0 = 25 ∨ e.f0 = 26 ∨ e.f0 = 36 → 2 ≤ e.f4.length
  three : e.f0 = 34 → 3 ≤ e.f4.length
set_option maxHeartbeats 4000000 in
theorem formed_c (e : S80) (A : Option Addr) (c : Nat) (w : World) (hC : k80.C w A e.f4.length e.f4) :
    Calls Try.prog 156 #[.agg #[.int .i64 e.f0, .int .i64 e.f1, .int .i64 e.f2, .int .i64 e.f3, .slice A e.f4.length c]] w (BoolPost (Fm e) w) := by
  have HC := Aside0.mk hC
  have hmax : e.f4.length ≤ 9223372036854775807 := hC.2.1
  have HN := Aside0.mk (fun W => numbers_c e A c W)
  obtain ⟨e0, e1, e2, e3, l⟩ := e
  clear hC
  replace hmax : l.length ≤ 9223372036854775807 := hmax
  have B0 := Aside0.mk (Bx.new w #[.int .i64 e0, .int .i64 e1, .int .i64 e2, .int .i64 e3, .slice A l.length c] 80)
  go_enter Try.func156, Try.ntmps156
  go_wp2_with fail
  with_reducible refine (arity_c e0 _).mono ?_
  rintro e wA ⟨lo, hi, rfl, hAR, hw⟩
  subst hw
  have HAR := Aside0.mk hAR
  clear hAR
  go_wp2_with fail
  all_goals try (go_ret; exact bool_no B0.out.below)
  with_reducible refine (HN.out _).mono ?_
  rintro e w2 ⟨v, rfl, hv, hb⟩
  have HF := Aside0.mk (show v = true → Fm ⟨e0, e1, e2, e3, l⟩ from fun h => by
    have h1 := HAR.out (by omega)
    have h2 := hv h
    obtain ⟨a1, a2, a3, a4, a5, a6, a7⟩ := h1
    constructor <;> first | assumption | (dsimp only at *; omega))
  have B2 := Aside0.mk (B0.out.next hb)
  clear hv hb B0
  cases v with
  | false =>
    go_wp2_with fail
    go_ret
    exact bool_no B2.out.below
  | true =>
  obtain ⟨c0, c1, c2, c3, c4⟩ := cells5 B2.out.one
  by_cases h35 : e0 = 35
  · have hl := (HF.out rfl).some (by dsimp only; omega)
    obtain ⟨ad, A4, c4', hA, a0, a1, a2, a3, a4, l4, g4⟩ := at_T80 (Kd.C_below HC.out B2.out.below) 0 (by omega) (by dsimp only at hl; omega)
    subst hA
    have hz : ((0 : Int).toNat * 5) = 0 := rfl
    rw [hz] at a0 a1 a2 a3 a4
    have hb35 : (e0 == 35) = true := by simp [h35]
    have hp : (0 : Int) < (l.length : Int) := by dsimp only at hl; omega
    have a00 : w2.cell? ad = _ := a0
    clear h35 a1 a2 a3 a4 l4 g4 hz hl
    go_wp2_with fail
    all_goals (go_ret; exact ⟨_, rfl, fun _ => HF.out trivial, B2.out.below⟩)
  · have hb35 : (e0 == 35) = false := by simp [h35]
    go_wp2_with fail
    all_goals (go_ret; exact ⟨_, rfl, fun _ => HF.out trivial, B2.out.below⟩)
end Go.Proofs.Ytpbdkkahodaloaa.J
end

section
namespace Go.Proofs.Ytpbdkkahodaloaa.J
open Go.RowKit Go.Proofs.Ytpbdkkahodaloaa.PS Go.Proofs.Ytpbdkkahodaloaa.U Go.Proofs.Ytpbdkkahodaloaa.T Go.Proofs.YtpbdkkahodaloaaW.PrintWords Go.Proofs.YtpbdkkahodaloaaW.PrintMore
set_option linter.unusedVariables false
set_option maxRecDepth 100000
theorem agg_218 {w : World} {g : Nat} {cs : Array Value} (hg : w.heap[g]? = some (.cells cs 218 (0, 0))) (hs : cs.size = 2) : Sem.run Try.prog (loadVar 218 ⟨g, 0, none⟩) w = .ok (.agg cs) w :=
  run_loadVar_row w g 218 218 cs (0, 0) _ hg Try.underlying218 rfl (by rw [hs]; kernel_rfl)
theorem agg_77 {w : World} {g : Nat} {cs : Array Value} (hg : w.heap[g]? = some (.cells cs 77 (0, 0))) (hs : cs.size = 7) : Sem.run Try.prog (loadVar 77 ⟨g, 0, none⟩) w = .ok (.agg cs) w :=
  run_loadVar_row w g 77 77 cs (0, 0) _ hg Try.underlying77 rfl (by rw [hs]; kernel_rfl)
theorem results_one {fn : Func} {k : Nat} {t : TypeId} (h : fn.results = #[.cell k t]) {tmps : Array Value} {w : World} {g : Nat} {v : Value} (h2 : tmps.getD k undef = .pointer (some ⟨g, 0, none⟩))
    (hl : Sem.run Try.prog (loadVar t ⟨g, 0, none⟩) w = .ok v w) : (results fn tmps).run Try.prog w = .ok v w := by
  have h2' : tmps[k]?.getD undef = .pointer (some ⟨g, 0, none⟩) := by simpa using h2
  simp [results, h, h2', asAddr, hl]
theorem results_two {fn : Func} {k j : Nat} {t : TypeId} (h : fn.results = #[.cell k t, .tmp j]) {tmps : Array Value} {w : World} {g : Nat} {v x : Value} (h2 : tmps.getD k undef = .pointer (some ⟨g, 0, none⟩)) (h3 : tmps.getD j undef = x)
    (hl : Sem.run Try.prog (loadVar t ⟨g, 0, none⟩) w = .ok v w) : (results fn tmps).run Try.prog w = .ok (.tuple #[v, x]) w := by
  have h2' : tmps[k]?.getD undef = .pointer (some ⟨g, 0, none⟩) := by simpa using h2
  have h3' : tmps[j]?.getD undef = x := by simpa using h3
  simp [results, h, h2', h3', asAddr, hl]
theorem results_three {fn : Func} {k j i : Nat} {t : TypeId} (h : fn.results = #[.cell k t, .tmp j, .tmp i]) {tmps : Array Value} {w : World} {g : Nat} {v x y : Value} (h2 : tmps.getD k undef = .pointer (some ⟨g, 0, none⟩)) (h3 : tmps.getD j undef = x) (h4 : tmps.getD i undef = y)
    (hl : Sem.run Try.prog (loadVar t ⟨g, 0, none⟩) w = .ok v w) : (results fn tmps).run Try.prog w = .ok (.tuple #[v, x, y]) w := by
  have h2' : tmps[k]?.getD undef = .pointer (some ⟨g, 0, none⟩) := by simpa using h2
  have h3' : tmps[j]?.getD undef = x := by simpa using h3
  have h4' : tmps[i]?.getD undef = y := by simpa using h4
  simp [results, h, h2', h3', h4', asAddr, hl]
def KindPost (w : World) (e : Ending) (w' : World) : Prop := ∃ k t, e = .returned (.agg #[.int .i64 k, .int .i64 t]) ∧ Below w.heap.size w w'
theorem cells2 {w : World} {g : Nat} {v0 v1 : Value} {t : TypeId} (h : w.heap[g]? = some (.cells #[v0, v1] t (0, 0))) :
    w.cell? ⟨g, 0, none⟩ = some v0 ∧ w.cell? ⟨g, 1, none⟩ = some v1 ∧ w.frozen? ⟨g, 0, none⟩ = false ∧ w.frozen? ⟨g, 1, none⟩ = false :=
  ⟨(blk_cell h 0).trans rfl, (blk_cell h 1).trans rfl, blk_frozen h 0, blk_frozen h 1⟩
theorem set2 {w : World} {g : Nat} {u0 u1 v0 v1 : Value} {t : TypeId} (h : w.heap[g]? = some (.cells #[u0, u1] t (0, 0))) :
    ((w.setCell ⟨g, 0, none⟩ v0).setCell ⟨g, 1, none⟩ v1).heap[g]? = some (.cells #[v0, v1] t (0, 0)) := V.sets_all (cs := [v0, v1]) h rfl
theorem below2 {w W : World} {g : Nat} {v0 v1 : Value} (h : Below w.heap.size w W) (hg : w.heap.size ≤ g) : Below w.heap.size w ((W.setCell ⟨g, 0, none⟩ v0).setCell ⟨g, 1, none⟩ v1) := below_set (below_set h hg) hg
theorem blk_two (w : World) (o1 o2 : Obj) : ((w.alloc o1).alloc o2).heap[w.heap.size + 1]? = some o2 := by
  have := blk_new (w.alloc o1) o2
  rwa [World.size_alloc] at this
theorem blk_mid (w : World) (o1 o2 o3 : Obj) : (((w.alloc o1).alloc o2).alloc o3).drew.heap[w.heap.size + 1]? = some o2 := blk_alloc (blk_two w o1 o2) o3
set_option maxHeartbeats 4000000 in
theorem of_c (s : ByteArray) (x1 x2 : Bool) (x3 x4 x5 : Int) (B : Option Addr) (n d : Nat) (w : World) :
    Calls Try.prog 138 #[.agg #[.string s, .bool x1, .bool x2, .int .i64 x3, .int .i64 x4, .int .i64 x5, .slice B n d]] w (KindPost w) := by
  go_enter Try.func138, Try.ntmps138
  go_wp2_with fail
  all_goals (refine bodyPost_ret (results_one rfl rfl (agg_218 (blk_two _ _ _) rfl)) rfl ?_; exact ⟨_, _, rfl, bel⟩)
def LinePost (w : World) (e : Ending) (w' : World) : Prop := ∃ (s : ByteArray) (x1 x2 : Bool) (x3 x4 x5 : Int) (B : Option Addr) (n d : Nat) (v : Bool), e = .returned (.tuple #[.agg #[.string s, .bool x1, .bool x2, .int .i64 x3, .int .i64 x4, .int .i64 x5, .slice B n d], .bool v]) ∧ Below w.heap.size w w'
set_option maxHeartbeats 4000000 in
theorem line_c (w : World) (u : Value) (p : Pk) (hp : Lies w u p) (hty : ∀ x ∈ p.lines, 1 ≤ x.f3) (n : Int) : Calls Try.prog 162 #[u, .int .i64 n] w (LinePost w) := by
  obtain ⟨A2, c2, A3, c3, A4, c4, A5, c5, A6, c6, rfl, hx2, hx3, hx4, hx5, hx6, _⟩ := hp
  have hmax : p.lines.length ≤ 9223372036854775807 := hx5.2.1
  by_cases h0 : 0 ≤ n ∧ n < p.lines.length
  · obtain ⟨i, rfl⟩ : ∃ i : Nat, n = i := ⟨n.toNat, by omega⟩
    obtain ⟨ad, B, d, hA, e0, e1, e2, e3, e4, e5, e6, l1, g1⟩ := at_T77 (Kd.C_alloc (Kd.C_alloc hx5 (.cells #[.string p.name, .int .i64 p.year, .slice A2 p.options.length c2, .slice A3 p.tables.length c3, .slice A4 p.groups.length c4, .slice A5 p.lines.length c5, .slice A6 p.checks.length c6] 33)) (.cells #[.string ⟨#[]⟩, .bool false, .bool false, .int .i64 0, .int .i64 0, .int .i64 0, .slice none 0 0] 77)) (i : Int) (by omega) (by omega)
    subst hA
    rw [Int.toNat_natCast] at *
    obtain ⟨p0, p1⟩ := h0
    clear hx2 hx3 hx4 hx5 hx6 l1 g1
    go_enter Try.func162, Try.ntmps162
    have h1 : 1 ≤ (rd_T77 p.lines (i : Int)).f3 := by
      have hi : i < p.lines.length := by omega
      have : rd_T77 p.lines (i : Int) = p.lines[i] := by unfold rd_T77; rw [Int.toNat_natCast, List.getD_eq_getElem?_getD, List.getElem?_eq_getElem hi]; rfl
      rw [this]
      exact hty _ (List.getElem_mem hi)
    generalize rd_T77 p.lines (i : Int) = x at e0 e1 e2 e3 e4 e5 e6 h1
    have hd : decide (1 ≤ x.f3) = true := decide_eq_true h1
    clear hty
    go_wp2_with fail
    go_region_with (fail)
    all_goals go_wp2_with fail
    all_goals (refine bodyPost_ret (results_two rfl rfl rfl (agg_77 (blk_mid _ _ _ _) rfl)) rfl ?_; exact ⟨_, _, _, _, _, _, _, _, _, _, rfl, bel⟩)
  · go_enter Try.func162, Try.ntmps162
    go_wp2_with fail
    all_goals (refine bodyPost_ret (results_two rfl rfl rfl (agg_77 (blk_two _ _ _) rfl)) rfl ?_; exact ⟨_, _, _, _, _, _, _, _, _, _, rfl, bel⟩)
set_option maxHeartbeats 4000000 in
theorem alike_c (xs : List S74) (A : Option Addr) (c : Nat) (b : Bool) (w : World) (hC : k74.C w A xs.length xs) : Calls Try.prog 163 #[.slice A xs.length c, .bool b] w (IntPost (fun _ => True) w) := by
  have HC := Aside0.mk hC
  have hmax : xs.length ≤ 9223372036854775807 := hC.2.1
  clear hC
  cases b
  all_goals
    go_enter Try.func163, Try.ntmps163
    go_wp2_with fail
    go_loopg [5] (xs.length + 1) (fun kq v3 w' => ∃ i : Nat, v3 = .int .i64 (i : Int) ∧ Aside0 (kq + i = xs.length + 1) ∧ Aside0 (i ≤ xs.length) ∧ Aside0 (Below w.heap.size w w'))
    case atStart => exact ⟨0, rfl, ⟨by omega⟩, ⟨by omega⟩, ⟨bel⟩⟩
    case round =>
      obtain ⟨i, rfl, HK, HI, HB⟩ := hrel
      cases gk with
      | zero => exact absurd HK.out (by have := HI.out; omega)
      | succ k1 =>
        by_cases hlt : i < xs.length
        · obtain ⟨ad, hA, e0, e1⟩ := at_T74 (Kd.C_below HC.out HB.out) (i : Int) (by omega) (by omega)
          obtain ⟨ad2, hA2, f0, f1⟩ := at_T74 (Kd.C_below HC.out HB.out) 0 (by omega) (by omega)
          subst hA
          obtain rfl := Option.some.inj hA2
          have f00 : wr.cell? ad = _ := f0
          have p0 : (0 : Int) ≤ (i : Int) := by omega
          have p1 : (i : Int) < (xs.length : Int) := by omega
          have p2 : (0 : Int) < (xs.length : Int) := by omega
          rw [Int.toNat_natCast] at e0 e1
          clear hA2 f0 f1 e1
          go_upto_region 4 with (fail)
          all_goals
            go_cut [6] (fun v w' => ∃ y : Bool, v = .bool y ∧ w' = wr)
            case first =>
              go_wp2_with fail
              all_goals (go_meet; exact ⟨_, rfl, rfl⟩)
            case rest =>
              obtain ⟨y, rfl, hw⟩ := hcut
              subst hw
              cases y
              all_goals
                go_wp2_with fail
                go_quiet (fail)
                go_wp2_with fail
                all_goals first
                  | (go_ret; exact int_post trivial (by repeat (first | exact HB.out | apply pw_below_drewN | apply below_drew1)))
                  | (go_roundg k1; (case measure => omega); (case rel => exact ⟨i + 1, by simp, ⟨by have := HK.out; omega⟩, ⟨by omega⟩, ⟨(by repeat (first | exact HB.out | apply pw_below_drewN | apply below_drew1))⟩⟩))
        · go_wp2_with fail
          go_ret
          exact int_post trivial bel
end Go.Proofs.Ytpbdkkahodaloaa.J
end

section
namespace Go.Proofs.Ytpbdkkahodaloaa.J
open Go.RowKit Go.Proofs.Ytpbdkkahodaloaa.PS Go.Proofs.Ytpbdkkahodaloaa.U Go.Proofs.Ytpbdkkahodaloaa.T Go.Proofs.YtpbdkkahodaloaaW.PrintWords Go.Proofs.YtpbdkkahodaloaaW.PrintMore
set_option linter.unusedVariables false
set_option maxRecDepth 100000
set_option maxHeartbeats 4000000 in
theorem first_c (xs : List S74) (A : Option Addr) (c : Nat) (bd : Addr) (n : Nat) (hn : 1 ≤ n ∧ n ≤ 2) (w : World) (hC : k74.C w A xs.length xs) (hw : ∀ k, k < n → ∃ v, w.cell? (bd.add k) = some (.int .i64 v)) :
    Calls Try.prog 164 #[.slice A xs.length c, .slice (some bd) n n] w (IntPost (fun _ => True) w) := by
  have HC := Aside0.mk hC
  have HW := Aside0.mk hw
  have HN := Aside0.mk hn
  have hmax : xs.length ≤ 9223372036854775807 := hC.2.1
  clear hC hw hn
  go_enter Try.func164, Try.ntmps164
  go_wp2_with fail
  go_loopg [5] (xs.length + 1) (fun kq v3 w' => ∃ i : Nat, v3 = .int .i64 (i : Int) ∧ Aside0 (kq + i = xs.length + 1) ∧ Aside0 (i ≤ xs.length) ∧ Aside0 (Below w.heap.size w w'))
  case atStart => exact ⟨0, rfl, ⟨by omega⟩, ⟨by omega⟩, ⟨bel⟩⟩
  case round =>
    obtain ⟨i, rfl, HK, HI, HB⟩ := hrel
    cases gk with
    | zero => exact absurd HK.out (by have := HI.out; omega)
    | succ k1 =>
      by_cases hlt : i < xs.length
      · obtain ⟨ad, hA, e0, e1⟩ := at_T74 (Kd.C_below HC.out HB.out) (i : Int) (by omega) (by omega)
        subst hA
        have p0 : (0 : Int) ≤ (i : Int) := by omega
        have p1 : (i : Int) < (xs.length : Int) := by omega
        rw [Int.toNat_natCast] at e0 e1
        clear e1
        by_cases hi : i < n
        · obtain ⟨v, hv⟩ := HW.out i hi
          have g0 := old_cell HB.out hv
          have hd : decide ((n : Int) ≤ (i : Int)) = false := decide_eq_false (by omega)
          have p3 : (i : Int) < (n : Int) := by omega
          have p4 : ¬ n ≤ i := by omega
          clear hv hi
          go_wp2_with fail
          go_quiet (fail)
          go_wp2_with fail
          all_goals first
            | (go_ret; exact int_post trivial (by repeat (first | exact HB.out | apply pw_below_drewN | apply below_drew1)))
            | (go_roundg k1; (case measure => omega); (case rel => exact ⟨i + 1, by simp, ⟨by have := HK.out; omega⟩, ⟨by omega⟩, ⟨(by repeat (first | exact HB.out | apply pw_below_drewN | apply below_drew1))⟩⟩))
        · obtain ⟨v, hv⟩ := HW.out (n - 1) (by have := HN.out; omega)
          have g0 := old_cell HB.out hv
          have hd : decide ((n : Int) ≤ (i : Int)) = true := decide_eq_true (by omega)
          have p2 : wrap64 ((n : Int) - 1) = ((n - 1 : Nat) : Int) := by have := HN.out; unfold wrap64; omega
          have p3 : ((n - 1 : Nat) : Int) < (n : Int) := by have := HN.out; omega
          have p4 : (0 : Int) ≤ ((n - 1 : Nat) : Int) := by omega
          have p5 : n ≤ i := by omega
          clear hv hi
          go_wp2_with fail
          go_quiet (fail)
          go_wp2_with fail
          all_goals first
            | (go_ret; exact int_post trivial (by repeat (first | exact HB.out | apply pw_below_drewN | apply below_drew1)))
            | (go_roundg k1; (case measure => omega); (case rel => exact ⟨i + 1, by simp, ⟨by have := HK.out; omega⟩, ⟨by omega⟩, ⟨(by repeat (first | exact HB.out | apply pw_below_drewN | apply below_drew1))⟩⟩))
      · go_wp2_with fail
        go_ret
        exact int_post trivial bel
end Go.Proofs.Ytpbdkkahodaloaa.J
end

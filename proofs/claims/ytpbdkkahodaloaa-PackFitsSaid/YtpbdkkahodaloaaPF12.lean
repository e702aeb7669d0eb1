-- Part 12 of the texts of the claim PF (wrote by programs: words of the kit's print.sh, printed functions; and my own texts; joined by wip/tools/pack.py).
import Derived.Test.YtpbdkkahodaloaaPF11

section
set_option linter.unusedVariables false
set_option linter.unusedSimpArgs false
namespace Go.Proofs.Ytpbdkkahodaloaa.V
open Go.RowKit Go.Proofs.Ytpbdkkahodaloaa.U Go.Proofs.Ytpbdkkahodaloaa.PS Go.Proofs.YtpbdkkahodaloaaW.PrintWords Go.Proofs.YtpbdkkahodaloaaW.PrintMore
set_option maxRecDepth 100000
def headBytes : List Int := [76, 86, 89, 49]
def swR (b : List Int) : R3 := if (b.length : Int) < 4 then shortR b ⟨0, 0, 0⟩ else if b.take 4 = headBytes then ⟨0, 0, 0⟩ else failR 71 0 ⟨0, 0, 0⟩
def startR (b : List Int) : R3 := ⟨if (b.length : Int) < 4 then b.length else 4, (swR b).err, (swR b).bad⟩
def packR (b : List Int) (s : R3) : Pk × R3 :=
  let t1 := textR b s
  let t2 := intR b t1.2
  let t3 := listR b (optionsR b) t2.2
  let t4 := listR b (tableR b) t3.2
  let t5 := listR b (groupR b) t4.2
  let t6 := listR b (lineR b) t5.2
  let t7 := listR b (checkR b) t6.2
  (⟨t1.1, t2.1, t3.1, t4.1, t5.1, t6.1, t7.1⟩, t7.2)
def noPk : Pk := ⟨⟨#[]⟩, 0, [], [], [], [], []⟩
def endR (b : List Int) (s : R3) : R3 := if s.err = 0 then sumR b s else s
def getS (b : List Int) : Pk × Int × Int :=
  if 131072 < b.length then (noPk, 0, 72)
  else if (endR b (packR b (startR b)).2).err = 0 then ((packR b (startR b)).1, 0, 0) else (noPk, (endR b (packR b (startR b)).2).bad, (endR b (packR b (startR b)).2).err)
def GetPost (b : List Int) (w : World) (e : Ending) (w' : World) : Prop := ∃ v2 v3 v4 v5 v6, e = .returned (.tuple #[.agg #[.string (getS b).1.name, .int .i64 (getS b).1.year, v2, v3, v4, v5, v6], .int .i64 (getS b).2.1, .int .i64 (getS b).2.2]) ∧
  Kd.R k97 97 w' w.heap.size (fun _ => True) v2 (getS b).1.options ∧ Kd.R k72 72 w' w.heap.size (fun _ => True) v3 (getS b).1.tables ∧ Kd.R k69 69 w' w.heap.size (fun _ => True) v4 (getS b).1.groups ∧ Kd.R k77 77 w' w.heap.size (fun _ => True) v5 (getS b).1.lines ∧ Kd.R k82 82 w' w.heap.size (fun _ => True) v6 (getS b).1.checks ∧ Below w.heap.size w w'
theorem rd_start (w : World) {A : Option Addr} {c : Nat} {b : List Int} (hC : Kd.C (Kd.int .u8) w A b.length b) (hcap : b.length ≤ c) (hb : bytes b) (hl : b.length ≤ 131072) (o : Obj) :
    Rd w ((w.alloc o).alloc (.cells #[.slice A b.length c, .int .i64 0, .int .i64 0, .int .i64 0] 151)) (w.heap.size + 1) b ⟨0, 0, 0⟩ := by
  refine ⟨⟨A, c, ?_, by omega, hC, hcap⟩, below_alloc (below_alloc (Below.refl _ _) _) _, ⟨Int.le_refl 0, by show (0 : Int) ≤ _; omega⟩, hb, hl⟩
  have := blk_new (w.alloc o) (.cells #[.slice A b.length c, .int .i64 0, .int .i64 0, .int .i64 0] 151)
  rwa [World.size_alloc] at this
theorem strOfNums_head (b : List Int) (hb : bytes b) (h4 : 4 ≤ b.length) : ((strOfNums (b.take 4)).toList == [76, 86, 89, 49]) = decide (b.take 4 = headBytes) := by
  rw [show (strOfNums (b.take 4)).toList = (b.take 4).map (fun n => UInt8.ofNat n.toNat) from (ByteArray.toList_eq _).trans rfl]
  match b, h4, hb with
  | x0 :: x1 :: x2 :: x3 :: t, _, hb =>
    have h0 : 0 ≤ x0 ∧ x0 < 256 := by have := hb x0 (by simp); omega
    have h1 : 0 ≤ x1 ∧ x1 < 256 := by have := hb x1 (by simp); omega
    have h2 : 0 ≤ x2 ∧ x2 < 256 := by have := hb x2 (by simp); omega
    have h3 : 0 ≤ x3 ∧ x3 < 256 := by have := hb x3 (by simp); omega
    show ([UInt8.ofNat x0.toNat, UInt8.ofNat x1.toNat, UInt8.ofNat x2.toNat, UInt8.ofNat x3.toNat] == ([76, 86, 89, 49] : List UInt8)) = decide ([x0, x1, x2, x3] = [76, 86, 89, 49])
    have key : ∀ (x : Int) (k : Nat), 0 ≤ x ∧ x < 256 → k < 256 → (UInt8.ofNat x.toNat = UInt8.ofNat k ↔ x = (k : Int)) := by
      intro x k hx hk
      constructor
      · intro h
        have := congrArg UInt8.toNat h
        simp only [UInt8.toNat_ofNat'] at this
        omega
      · intro h; subst h; rfl
    have k0 := key x0 76 h0 (by omega)
    have k1 := key x1 86 h1 (by omega)
    have k2 := key x2 89 h2 (by omega)
    have k3 := key x3 49 h3 (by omega)
    by_cases hq : [x0, x1, x2, x3] = [76, 86, 89, 49]
    · rw [decide_eq_true hq]
      simp only [List.cons.injEq] at hq
      obtain ⟨rfl, rfl, rfl, rfl, _⟩ := hq
      rfl
    · rw [decide_eq_false hq]
      simp only [List.cons.injEq] at hq
      refine beq_eq_false_iff_ne.2 fun h => hq ?_
      simp only [List.cons.injEq] at h
      exact ⟨k0.1 h.1, k1.1 h.2.1, k2.1 h.2.2.1, k3.1 h.2.2.2.1, trivial⟩
theorem results_get {fn : Func} (h : fn.results = #[.cell 2 33, .tmp 3, .tmp 4]) (tmps : Array Value) (w : World) (g : Nat) (cs : Array Value) (x y : Value) (h2 : tmps.getD 2 undef = .pointer (some ⟨g, 0, none⟩)) (h3 : tmps.getD 3 undef = x) (h4 : tmps.getD 4 undef = y)
    (hg : w.heap[g]? = some (.cells cs 33 (0, 0))) (hi : (Try.prog.info? 33).map (·.size) = some cs.size) : (results fn tmps).run Try.prog w = .ok (.tuple #[.agg cs, x, y]) w := by
  have h2' : tmps[2]?.getD undef = .pointer (some ⟨g, 0, none⟩) := by simpa using h2
  have h3' : tmps[3]?.getD undef = x := by simpa using h3
  have h4' : tmps[4]?.getD undef = y := by simpa using h4
  simp [results, h, h2', h3', h4', asAddr, run_loadVar_row w g 33 33 cs (0, 0) _ hg Try.underlying33 rfl hi]
theorem below_sets {w wn : World} (h : Below w.heap.size w wn) {q : Nat} (hq : w.heap.size ≤ q) (cs : List Value) (i : Nat) : Below w.heap.size w (sets wn q i cs) := by
  obtain ⟨o1, o2, o3⟩ := sets_os q cs wn i
  exact ⟨o1.trans h.os, o2.trans h.tape, o3.trans h.output, by rw [sets_size]; exact h.size, fun k hk => (sets_far q cs wn i k (by omega)).trans (h.block k hk)⟩
theorem get_end {b : List Int} {w wn : World} {a : Act} {cs0 : Array Value} {x0 : ByteArray} {x1 : Int} {v2 v3 v4 v5 v6 : Value} {x2 : List S97} {x3 : List S72} {x4 : List S69} {x5 : List S77} {x6 : List S82}
    (hg : getS b = (⟨x0, x1, x2, x3, x4, x5, x6⟩, 0, 0)) (h2 : a.tmps.getD 2 undef = .pointer (some ⟨w.heap.size, 0, none⟩)) (h3 : a.tmps.getD 3 undef = .int .i64 0) (h4 : a.tmps.getD 4 undef = .int .i64 0) (hd : a.defers = [])
    (hb : wn.heap[w.heap.size]? = some (.cells cs0 33 (0, 0))) (hs : cs0.size = 7) (hB : Below w.heap.size w wn)
    (V2 : Kd.R k97 97 wn w.heap.size (fun k => w.heap.size + 1 < k) v2 x2) (V3 : Kd.R k72 72 wn w.heap.size (fun k => w.heap.size + 1 < k) v3 x3) (V4 : Kd.R k69 69 wn w.heap.size (fun k => w.heap.size + 1 < k) v4 x4) (V5 : Kd.R k77 77 wn w.heap.size (fun k => w.heap.size + 1 < k) v5 x5) (V6 : Kd.R k82 82 wn w.heap.size (fun k => w.heap.size + 1 < k) v6 x6) :
    bodyPost Try.prog Try.f24 (GetPost b w) .ret a (sets wn w.heap.size 0 [.string x0, .int .i64 x1, v2, v3, v4, v5, v6]) := by
  refine bodyPost_ret (results_get rfl _ _ w.heap.size #[.string x0, .int .i64 x1, v2, v3, v4, v5, v6] _ _ h2 h3 h4 (sets_all hb hs) (by kernel_rfl)) hd ?_
  refine ⟨v2, v3, v4, v5, v6, by rw [hg], ?_, ?_, ?_, ?_, ?_, below_sets hB (Nat.le_refl _) _ _⟩
  all_goals rw [hg]
  · exact Kd.R_mono (Kd.R_step V2 (fun k hk _ => sets_far _ _ _ _ _ (by omega))) (fun _ _ => trivial)
  · exact Kd.R_mono (Kd.R_step V3 (fun k hk _ => sets_far _ _ _ _ _ (by omega))) (fun _ _ => trivial)
  · exact Kd.R_mono (Kd.R_step V4 (fun k hk _ => sets_far _ _ _ _ _ (by omega))) (fun _ _ => trivial)
  · exact Kd.R_mono (Kd.R_step V5 (fun k hk _ => sets_far _ _ _ _ _ (by omega))) (fun _ _ => trivial)
  · exact Kd.R_mono (Kd.R_step V6 (fun k hk _ => sets_far _ _ _ _ _ (by omega))) (fun _ _ => trivial)
def cs7 : List Value := [.string ⟨#[]⟩, .int .i64 0, .slice none 0 0, .slice none 0 0, .slice none 0 0, .slice none 0 0, .slice none 0 0]
theorem bad_post {b : List Int} {w wn : World} {er bd : Int} (hg : getS b = (noPk, bd, er)) (hB : Below w.heap.size w wn) : GetPost b w (.returned (.tuple #[.agg #[.string ⟨#[]⟩, .int .i64 0, .slice none 0 0, .slice none 0 0, .slice none 0 0, .slice none 0 0, .slice none 0 0], .int .i64 bd, .int .i64 er])) wn := by
  refine ⟨.slice none 0 0, .slice none 0 0, .slice none 0 0, .slice none 0 0, .slice none 0 0, by rw [hg]; rfl, ?_, ?_, ?_, ?_, ?_, hB⟩
  all_goals rw [hg]
  all_goals exact Kd.R_nil _ _ _ _ _
theorem get_end0 {b : List Int} {w wn : World} {a : Act} {cs0 : Array Value} {er bd : Int}
    (hg : getS b = (noPk, bd, er)) (h2 : a.tmps.getD 2 undef = .pointer (some ⟨w.heap.size, 0, none⟩)) (h3 : a.tmps.getD 3 undef = .int .i64 bd) (h4 : a.tmps.getD 4 undef = .int .i64 er) (hd : a.defers = [])
    (hb : wn.heap[w.heap.size]? = some (.cells cs0 33 (0, 0))) (hs : cs0.size = 7) (hB : Below w.heap.size w wn) :
    bodyPost Try.prog Try.f24 (GetPost b w) .ret a (sets wn w.heap.size 0 cs7).drew := by
  refine bodyPost_ret (results_get rfl _ _ w.heap.size #[.string ⟨#[]⟩, .int .i64 0, .slice none 0 0, .slice none 0 0, .slice none 0 0, .slice none 0 0, .slice none 0 0] _ _ h2 h3 h4 (blk_drew (sets_all hb hs)) (by kernel_rfl)) hd ?_
  exact bad_post hg (below_drew (below_sets hB (Nat.le_refl _) _ _))
attribute [local go_sem] max2_int min2_int max_two min_two max_three min_three max_four min_four
set_option maxHeartbeats 8000000 in
theorem get_walk (b : List Int) (A : Option Addr) (c : Nat) (w : World) (hC : Kd.C (Kd.int .u8) w A b.length b) (hcap : b.length ≤ c) (hb : bytes b) :
    Calls Try.prog 24 #[.slice A b.length c] w (GetPost b w) := by
  by_cases hl : 131072 < b.length
  · have hb1 : decide ((131072 : Int) < (b.length : Int)) = true := decide_eq_true (by omega)
    have hgs : getS b = (noPk, 0, 72) := by unfold getS; rw [if_pos hl]
    have hl3 : (131072 : Int) < (b.length : Int) := by omega
    have B0 := Aside0.mk (blk_new w (.cells #[.string ⟨#[]⟩, .int .i64 0, .slice none 0 0, .slice none 0 0, .slice none 0 0, .slice none 0 0, .slice none 0 0] 33))
    clear hC hcap hb
    go_enter Try.func24, Try.ntmps24
    go_wp2_with fail
    refine bodyPost_ret (results_get rfl _ _ w.heap.size #[.string ⟨#[]⟩, .int .i64 0, .slice none 0 0, .slice none 0 0, .slice none 0 0, .slice none 0 0, .slice none 0 0] _ _ rfl rfl rfl B0.out (by kernel_rfl)) rfl ?_
    exact bad_post hgs (below_alloc (Below.refl _ _) _)
  · have hb1 : decide ((131072 : Int) < (b.length : Int)) = false := decide_eq_false (by omega)
    have H0 := Aside0.mk (rd_start w hC hcap hb (by omega) (.cells #[.string ⟨#[]⟩, .int .i64 0, .slice none 0 0, .slice none 0 0, .slice none 0 0, .slice none 0 0, .slice none 0 0] 33))
    have B0 := Aside0.mk (blk_alloc (blk_new w (.cells #[.string ⟨#[]⟩, .int .i64 0, .slice none 0 0, .slice none 0 0, .slice none 0 0, .slice none 0 0, .slice none 0 0] 33)) (.cells #[.slice A b.length c, .int .i64 0, .int .i64 0, .int .i64 0] 151))
    have HC := Aside0.mk hC
    have HCAP := Aside0.mk hcap
    have HBY := Aside0.mk hb
    have hlen : b.length ≤ 131072 := by omega
    have hl2 : ¬ (131072 : Int) < (b.length : Int) := by omega
    clear hC hcap hb hl
    go_enter Try.func24, Try.ntmps24
    go_upto_block 0 with (fail)
    generalize (w.alloc (.cells #[.string ⟨#[]⟩, .int .i64 0, .slice none 0 0, .slice none 0 0, .slice none 0 0, .slice none 0 0, .slice none 0 0] 33)).alloc (.cells #[.slice A b.length c, .int .i64 0, .int .i64 0, .int .i64 0] 151) = W at H0 B0 ⊢
    go_cut [5] (fun s5 wc => s5 = .pointer (some ⟨w.heap.size + 1, 0, none⟩) ∧ Aside0 (Rd w wc (w.heap.size + 1) b (swR b) ∧ wc.heap[w.heap.size]? = some (.cells #[.string ⟨#[]⟩, .int .i64 0, .slice none 0 0, .slice none 0 0, .slice none 0 0, .slice none 0 0, .slice none 0 0] 33 (0, 0))))
    case first =>
      by_cases h4 : (b.length : Int) < 4
      · have hb2 : decide ((b.length : Int) < 4) = true := decide_eq_true h4
        have HS := Aside0.mk (show swR b = shortR b ⟨0, 0, 0⟩ by unfold swR; rw [if_pos h4])
        go_wp2_with fail
        go_at_call 90
        with_reducible refine (short_r H0.out).mono ?_
        intro e W2 hp
        obtain ⟨rfl, hR, hK⟩ := hp
        have HR := Aside0.mk hR
        have B1 := Aside0.mk (hK.blk B0.out (by omega) (by simp))
        clear hR hK
        go_wp2_with fail
        go_meet
        exact ⟨rfl, ⟨by rw [HS.out]; exact HR.out, B1.out⟩⟩
      · have hb2 : decide ((b.length : Int) < 4) = false := decide_eq_false h4
        have hcv := Kd.C_string (P := Try.prog) (c := c) Try.underlying23 Try.underlying5 Try.underlying9 (Kd.C_take (m := 4) (Kd.C_below HC.out H0.out.dat) (by omega))
        rw [show (b.take 4).length = 4 by rw [List.length_take]; omega] at hcv
        have hST := strOfNums_head b HBY.out (by omega)
        have hc4 : (4 : Int) ≤ c := by have := HCAP.out; omega
        by_cases hh : b.take 4 = headBytes
        · have HS := Aside0.mk (show swR b = ⟨0, 0, 0⟩ by unfold swR; rw [if_neg h4, if_pos hh])
          have hb3 : (!(strOfNums (b.take 4)).toList == [76, 86, 89, 49]) = false := by rw [hST, decide_eq_true hh]; rfl
          clear hh hST
          go_wp2_with fail
          go_meet
          exact ⟨rfl, ⟨by rw [HS.out]; exact H0.out, B0.out⟩⟩
        · have HS := Aside0.mk (show swR b = failR 71 0 ⟨0, 0, 0⟩ by unfold swR; rw [if_neg h4, if_neg hh])
          have hb3 : (!(strOfNums (b.take 4)).toList == [76, 86, 89, 49]) = true := by rw [hST, decide_eq_false hh]; rfl
          clear hh hST
          go_wp2_with fail
          go_at_call 91
          with_reducible refine (fail_r H0.out 71 0).mono ?_
          intro e W2 hp
          obtain ⟨rfl, hR, hK⟩ := hp
          have HR := Aside0.mk hR
          have B1 := Aside0.mk (hK.blk B0.out (by omega) (by simp))
          clear hR hK
          go_wp2_with fail
          go_meet
          exact ⟨rfl, ⟨by rw [HS.out]; exact HR.out, B1.out⟩⟩
    case rest =>
    obtain ⟨rfl, HR⟩ := hcut
    have B1 := Aside0.mk HR.out.2
    have S1 := Aside0.mk HR.out.1
    clear HR H0 B0
    obtain ⟨A2, c2, hb2, hge2, hC2, hcap2⟩ := S1.out.is
    obtain ⟨a1, ha1⟩ : ∃ x, (swR b).at_ = x := ⟨_, rfl⟩
    rw [ha1] at hb2
    have d0 := cellS151_0 hb2
    have d1 := cellS151_1 hb2
    have f1_ : wc.frozen? ⟨w.heap.size + 1, 1, none⟩ = false := blk_frozen hb2 1
    have hmin : (if (4 : Int) < (b.length : Int) then (4 : Int) else (b.length : Int)) = (startR b).at_ := by
      show _ = (if (b.length : Int) < 4 then ((b.length : Nat) : Int) else (4 : Int))
      split <;> split <;> omega
    clear hb2 hge2 hC2 hcap2 ha1
    have hs0 : 0 ≤ (startR b).at_ ∧ (startR b).at_ ≤ b.length := by
      show 0 ≤ (if (b.length : Int) < 4 then ((b.length : Nat) : Int) else (4 : Int)) ∧ (if (b.length : Int) < 4 then ((b.length : Nat) : Int) else (4 : Int)) ≤ b.length
      split <;> omega
    go_wp2_with fail
    have S0 := Aside0.mk (show Rd w (wc.setCell ⟨w.heap.size + 1, 1, none⟩ (.int .i64 (startR b).at_)) (w.heap.size + 1) b (startR b) from S1.out.move (startR b).at_ hs0.1 hs0.2)
    have B0 := Aside0.mk (blk_far B1.out (show w.heap.size ≠ w.heap.size + 1 by omega) (.int .i64 (startR b).at_) (p := ⟨w.heap.size + 1, 1, none⟩))
    have Z0 := Aside0.mk S0.out.lt.1
    clear S1 B1 d0 d1 f1_ hmin hs0
    generalize wc.setCell ⟨w.heap.size + 1, 1, none⟩ (.int .i64 (startR b).at_) = W0 at S0 B0 Z0 ⊢
    obtain ⟨t0, ht⟩ : ∃ t, startR b = t := ⟨_, rfl⟩
    rw [ht] at S0
    have T0 := Aside0.mk ht
    clear ht
    go_at_call 92
    with_reducible refine (text_r S0.out).mono ?_
    intro e W1 hp
    obtain ⟨rfl, hR, hK⟩ := hp
    obtain ⟨x0, hx⟩ : ∃ x, (textR b t0).1 = x := ⟨_, rfl⟩
    obtain ⟨t1, ht⟩ : ∃ t, (textR b t0).2 = t := ⟨_, rfl⟩
    rw [ht] at hR
    rw [hx]
    have X0 := Aside0.mk hx
    have T1 := Aside0.mk ht
    have S1 := Aside0.mk hR
    have B1 := Aside0.mk (hK.blk B0.out (by omega) (by simp))
    have Z1 := Aside0.mk (Nat.lt_of_lt_of_le Z0.out hK.1)
    clear hx ht hR hK
    go_wp2_with fail
    go_at_call 93
    with_reducible refine (int_r S1.out).mono ?_
    intro e W2 hp
    obtain ⟨rfl, hR, hK⟩ := hp
    obtain ⟨x1, hx⟩ : ∃ x, (intR b t1).1 = x := ⟨_, rfl⟩
    obtain ⟨t2, ht⟩ : ∃ t, (intR b t1).2 = t := ⟨_, rfl⟩
    rw [ht] at hR
    rw [hx]
    have X1 := Aside0.mk hx
    have T2 := Aside0.mk ht
    have S2 := Aside0.mk hR
    have B2 := Aside0.mk (hK.blk B1.out (by omega) (by simp))
    have Z2 := Aside0.mk (Nat.lt_of_lt_of_le Z1.out hK.1)
    clear hx ht hR hK
    go_wp2_with fail
    go_at_call 94
    with_reducible refine (list94 w _ _ b _ (fun _ => True) _ S2.out trivial (fun _ _ _ _ => trivial) (fun _ _ hr _ _ => options_r hr)).mono ?_
    intro e W3 hp
    obtain ⟨v, rfl, hv, hR, hK⟩ := hp
    obtain ⟨x2, hx⟩ : ∃ x, (listR b (optionsR b) t2).1 = x := ⟨_, rfl⟩
    obtain ⟨t3, ht⟩ : ∃ t, (listR b (optionsR b) t2).2 = t := ⟨_, rfl⟩
    rw [ht] at hR
    rw [hx] at hv
    obtain ⟨A2, c2, rfl⟩ := Kd.R_slice hv
    have X2 := Aside0.mk hx
    have T3 := Aside0.mk ht
    have S3 := Aside0.mk hR
    have B3 := Aside0.mk (hK.blk B2.out (by omega) (by simp))
    have Z3 := Aside0.mk (Nat.lt_of_lt_of_le Z2.out hK.1)
    have V2 := Aside0.mk (Kd.R_lower (Kd.R_mono (Kd.R_bound hv) (fun k_ (hk : _ ∧ W2.heap.size ≤ k_ ∧ _) => (show w.heap.size + 1 < k_ from by have := Z2.out; have := hk.2.1; omega))) (show w.heap.size ≤ W2.heap.size from by have := Z2.out; omega))
    clear hx ht hR hK hv
    go_wp2_with fail
    go_at_call 96
    with_reducible refine (list96 w _ _ b _ (fun _ => True) _ S3.out trivial (fun _ _ _ _ => trivial) (fun _ _ hr _ _ => table_r hr)).mono ?_
    intro e W4 hp
    obtain ⟨v, rfl, hv, hR, hK⟩ := hp
    obtain ⟨x3, hx⟩ : ∃ x, (listR b (tableR b) t3).1 = x := ⟨_, rfl⟩
    obtain ⟨t4, ht⟩ : ∃ t, (listR b (tableR b) t3).2 = t := ⟨_, rfl⟩
    rw [ht] at hR
    rw [hx] at hv
    obtain ⟨A3, c3, rfl⟩ := Kd.R_slice hv
    have X3 := Aside0.mk hx
    have T4 := Aside0.mk ht
    have S4 := Aside0.mk hR
    have B4 := Aside0.mk (hK.blk B3.out (by omega) (by simp))
    have Z4 := Aside0.mk (Nat.lt_of_lt_of_le Z3.out hK.1)
    have V2 := Aside0.mk (Kd.R_keep V2.out hK (fun k_ hk => by omega))
    have V3 := Aside0.mk (Kd.R_lower (Kd.R_mono (Kd.R_bound hv) (fun k_ (hk : _ ∧ W3.heap.size ≤ k_ ∧ _) => (show w.heap.size + 1 < k_ from by have := Z3.out; have := hk.2.1; omega))) (show w.heap.size ≤ W3.heap.size from by have := Z3.out; omega))
    clear hx ht hR hK hv
    go_wp2_with fail
    go_at_call 98
    with_reducible refine (list98 w _ _ b _ (fun _ => True) _ S4.out trivial (fun _ _ _ _ => trivial) (fun _ _ hr _ _ => group_r hr)).mono ?_
    intro e W5 hp
    obtain ⟨v, rfl, hv, hR, hK⟩ := hp
    obtain ⟨x4, hx⟩ : ∃ x, (listR b (groupR b) t4).1 = x := ⟨_, rfl⟩
    obtain ⟨t5, ht⟩ : ∃ t, (listR b (groupR b) t4).2 = t := ⟨_, rfl⟩
    rw [ht] at hR
    rw [hx] at hv
    obtain ⟨A4, c4, rfl⟩ := Kd.R_slice hv
    have X4 := Aside0.mk hx
    have T5 := Aside0.mk ht
    have S5 := Aside0.mk hR
    have B5 := Aside0.mk (hK.blk B4.out (by omega) (by simp))
    have Z5 := Aside0.mk (Nat.lt_of_lt_of_le Z4.out hK.1)
    have V2 := Aside0.mk (Kd.R_keep V2.out hK (fun k_ hk => by omega))
    have V3 := Aside0.mk (Kd.R_keep V3.out hK (fun k_ hk => by omega))
    have V4 := Aside0.mk (Kd.R_lower (Kd.R_mono (Kd.R_bound hv) (fun k_ (hk : _ ∧ W4.heap.size ≤ k_ ∧ _) => (show w.heap.size + 1 < k_ from by have := Z4.out; have := hk.2.1; omega))) (show w.heap.size ≤ W4.heap.size from by have := Z4.out; omega))
    clear hx ht hR hK hv
    go_wp2_with fail
    go_at_call 100
    with_reducible refine (list100 w _ _ b _ (fun _ => True) _ S5.out trivial (fun _ _ _ _ => trivial) (fun _ _ hr _ _ => line_r hr)).mono ?_
    intro e W6 hp
    obtain ⟨v, rfl, hv, hR, hK⟩ := hp
    obtain ⟨x5, hx⟩ : ∃ x, (listR b (lineR b) t5).1 = x := ⟨_, rfl⟩
    obtain ⟨t6, ht⟩ : ∃ t, (listR b (lineR b) t5).2 = t := ⟨_, rfl⟩
    rw [ht] at hR
    rw [hx] at hv
    obtain ⟨A5, c5, rfl⟩ := Kd.R_slice hv
    have X5 := Aside0.mk hx
    have T6 := Aside0.mk ht
    have S6 := Aside0.mk hR
    have B6 := Aside0.mk (hK.blk B5.out (by omega) (by simp))
    have Z6 := Aside0.mk (Nat.lt_of_lt_of_le Z5.out hK.1)
    have V2 := Aside0.mk (Kd.R_keep V2.out hK (fun k_ hk => by omega))
    have V3 := Aside0.mk (Kd.R_keep V3.out hK (fun k_ hk => by omega))
    have V4 := Aside0.mk (Kd.R_keep V4.out hK (fun k_ hk => by omega))
    have V5 := Aside0.mk (Kd.R_lower (Kd.R_mono (Kd.R_bound hv) (fun k_ (hk : _ ∧ W5.heap.size ≤ k_ ∧ _) => (show w.heap.size + 1 < k_ from by have := Z5.out; have := hk.2.1; omega))) (show w.heap.size ≤ W5.heap.size from by have := Z5.out; omega))
    clear hx ht hR hK hv
    go_wp2_with fail
    go_at_call 102
    with_reducible refine (list102 w _ _ b _ (fun _ => True) _ S6.out trivial (fun _ _ _ _ => trivial) (fun _ _ hr _ _ => check_r hr)).mono ?_
    intro e W7 hp
    obtain ⟨v, rfl, hv, hR, hK⟩ := hp
    obtain ⟨x6, hx⟩ : ∃ x, (listR b (checkR b) t6).1 = x := ⟨_, rfl⟩
    obtain ⟨t7, ht⟩ : ∃ t, (listR b (checkR b) t6).2 = t := ⟨_, rfl⟩
    rw [ht] at hR
    rw [hx] at hv
    obtain ⟨A6, c6, rfl⟩ := Kd.R_slice hv
    have X6 := Aside0.mk hx
    have T7 := Aside0.mk ht
    have S7 := Aside0.mk hR
    have B7 := Aside0.mk (hK.blk B6.out (by omega) (by simp))
    have Z7 := Aside0.mk (Nat.lt_of_lt_of_le Z6.out hK.1)
    have V2 := Aside0.mk (Kd.R_keep V2.out hK (fun k_ hk => by omega))
    have V3 := Aside0.mk (Kd.R_keep V3.out hK (fun k_ hk => by omega))
    have V4 := Aside0.mk (Kd.R_keep V4.out hK (fun k_ hk => by omega))
    have V5 := Aside0.mk (Kd.R_keep V5.out hK (fun k_ hk => by omega))
    have V6 := Aside0.mk (Kd.R_lower (Kd.R_mono (Kd.R_bound hv) (fun k_ (hk : _ ∧ W6.heap.size ≤ k_ ∧ _) => (show w.heap.size + 1 < k_ from by have := Z6.out; have := hk.2.1; omega))) (show w.heap.size ≤ W6.heap.size from by have := Z6.out; omega))
    clear hx ht hR hK hv
    obtain ⟨po, hpo⟩ : ∃ o, (Obj.cells #[.string x0, .int .i64 x1, .slice A2 x2.length c2, .slice A3 x3.length c3, .slice A4 x4.length c4, .slice A5 x5.length c5, .slice A6 x6.length c6] 33 : Obj) = o := ⟨_, rfl⟩
    have S8 := Aside0.mk (S7.out.alloc po)
    have B8 := Aside0.mk (blk_alloc B7.out po)
    have L8 := Aside0.mk (blk_new W7 (.cells #[.string x0, .int .i64 x1, .slice A2 x2.length c2, .slice A3 x3.length c3, .slice A4 x4.length c4, .slice A5 x5.length c5, .slice A6 x6.length c6] 33))
    have Z8 := Aside0.mk (show w.heap.size + 1 < W7.heap.size ∧ W7.heap.size < (W7.alloc po).heap.size from ⟨Z7.out, by simp⟩)
    have hq8 : Below W7.heap.size W7 (W7.alloc po) := below_alloc (Below.refl _ _) _
    have V2 := Aside0.mk (Kd.R_below V2.out hq8)
    have V3 := Aside0.mk (Kd.R_below V3.out hq8)
    have V4 := Aside0.mk (Kd.R_below V4.out hq8)
    have V5 := Aside0.mk (Kd.R_below V5.out hq8)
    have V6 := Aside0.mk (Kd.R_below V6.out hq8)
    clear hq8
    obtain ⟨A8, c8, hb8, hge8, hC8, hcap8⟩ := S8.out.is
    have d2 := cellS151_2 hb8
    have d3 := cellS151_3 hb8
    clear hb8 hge8 hC8 hcap8
    rw [← hpo] at S8 B8 d2 d3 V2 V3 V4 V5 V6 Z8
    clear hpo
    have HPK := Aside0.mk (show packR b (startR b) = (⟨x0, x1, x2, x3, x4, x5, x6⟩, t7) by
      unfold packR
      simp only [T0.out, X0.out, T1.out, X1.out, T2.out, X2.out, T3.out, X3.out, T4.out, X4.out, T5.out, X5.out, T6.out, X6.out, T7.out])
    by_cases he : t7.err = 0
    · have hb2 : (t7.err == 0) = true := by simp [he]
      have hb3 : (t7.err != 0) = false := by simp [he]
      have HE := Aside0.mk he
      clear he
      go_wp2_with fail
      generalize W7.alloc (.cells #[.string x0, .int .i64 x1, .slice A2 x2.length c2, .slice A3 x3.length c3, .slice A4 x4.length c4, .slice A5 x5.length c5, .slice A6 x6.length c6] 33) = W8 at S8 B8 L8 Z8 V2 V3 V4 V5 V6 d2 d3 ⊢
      go_at_call 104
      with_reducible refine (sum_r S8.out).mono ?_
      intro e W9 hp
      obtain ⟨rfl, hR, hK⟩ := hp
      obtain ⟨t8, ht⟩ : ∃ t, sumR b t7 = t := ⟨_, rfl⟩
      rw [ht] at hR
      have HS8 := Aside0.mk ht
      have S9 := Aside0.mk hR
      have B9 := Aside0.mk (hK.blk B8.out (by omega) (by simp))
      have L9 := Aside0.mk (hK.blk L8.out (by have := Z8.out; omega) (by simp))
      have Z9 := Aside0.mk (show w.heap.size + 1 < W9.heap.size ∧ W7.heap.size < W9.heap.size from by have := Z8.out; have := hK.1; omega)
      have V2 := Aside0.mk (Kd.R_keep V2.out hK (fun k_ hk => by omega))
      have V3 := Aside0.mk (Kd.R_keep V3.out hK (fun k_ hk => by omega))
      have V4 := Aside0.mk (Kd.R_keep V4.out hK (fun k_ hk => by omega))
      have V5 := Aside0.mk (Kd.R_keep V5.out hK (fun k_ hk => by omega))
      have V6 := Aside0.mk (Kd.R_keep V6.out hK (fun k_ hk => by omega))
      clear ht hR hK d2 d3
      obtain ⟨A8, c8, hb8, hge8, hC8, hcap8⟩ := S9.out.is
      have d2 := cellS151_2 hb8
      have d3 := cellS151_3 hb8
      clear hb8 hge8 hC8 hcap8 hb2 hb3
      by_cases he : t8.err = 0
      · have hb3 : (t8.err != 0) = false := by simp [he]
        have HE8 := Aside0.mk he
        clear he
        have k0_ := (blk_cell B9.out 0).trans rfl; have f0_ := blk_frozen B9.out 0; have l0_ := (blk_cell L9.out 0).trans rfl; have k1_ := (blk_cell B9.out 1).trans rfl; have f1_ := blk_frozen B9.out 1; have l1_ := (blk_cell L9.out 1).trans rfl; have k2_ := (blk_cell B9.out 2).trans rfl; have f2_ := blk_frozen B9.out 2; have l2_ := (blk_cell L9.out 2).trans rfl; have k3_ := (blk_cell B9.out 3).trans rfl; have f3_ := blk_frozen B9.out 3; have l3_ := (blk_cell L9.out 3).trans rfl; have k4_ := (blk_cell B9.out 4).trans rfl; have f4_ := blk_frozen B9.out 4; have l4_ := (blk_cell L9.out 4).trans rfl; have k5_ := (blk_cell B9.out 5).trans rfl; have f5_ := blk_frozen B9.out 5; have l5_ := (blk_cell L9.out 5).trans rfl; have k6_ := (blk_cell B9.out 6).trans rfl; have f6_ := blk_frozen B9.out 6; have l6_ := (blk_cell L9.out 6).trans rfl
        have hq := blk_lt B9.out
        have hq9 := blk_lt L9.out
        go_wp2_with fail
        have hgs : getS b = (⟨x0, x1, x2, x3, x4, x5, x6⟩, 0, 0) := by
          have hP := HPK.out
          unfold getS endR
          rw [if_neg (by omega), hP]
          show (if (if t7.err = 0 then sumR b t7 else t7).err = 0 then _ else _) = _
          rw [if_pos HE.out, HS8.out, if_pos HE8.out]
        have hE := @get_end (cs0 := #[.string ⟨#[]⟩, .int .i64 0, .slice none 0 0, .slice none 0 0, .slice none 0 0, .slice none 0 0, .slice none 0 0]) (hg := hgs) (hb := B9.out) (hB := S9.out.dat)
        simp only [sets, Nat.zero_add, Nat.reduceAdd] at hE
        exact hE _ _ _ _ _ _ rfl rfl rfl rfl rfl V2.out V3.out V4.out V5.out V6.out
      · have hb3 : (t8.err != 0) = true := by simp [he]
        have HE8 := Aside0.mk he
        clear he
        go_wp2_with fail
        have k0_ := (blk_cell B9.out 0).trans rfl; have f0_ := blk_frozen B9.out 0; have k1_ := (blk_cell B9.out 1).trans rfl; have f1_ := blk_frozen B9.out 1; have k2_ := (blk_cell B9.out 2).trans rfl; have f2_ := blk_frozen B9.out 2; have k3_ := (blk_cell B9.out 3).trans rfl; have f3_ := blk_frozen B9.out 3; have k4_ := (blk_cell B9.out 4).trans rfl; have f4_ := blk_frozen B9.out 4; have k5_ := (blk_cell B9.out 5).trans rfl; have f5_ := blk_frozen B9.out 5; have k6_ := (blk_cell B9.out 6).trans rfl; have f6_ := blk_frozen B9.out 6
        have hq := blk_lt B9.out
        go_region
        go_wp2_with fail
        have hgs : getS b = (noPk, t8.bad, t8.err) := by
          have hP := HPK.out
          unfold getS endR
          rw [if_neg (by omega), hP]
          show (if (if t7.err = 0 then sumR b t7 else t7).err = 0 then _ else (noPk, (if t7.err = 0 then sumR b t7 else t7).bad, (if t7.err = 0 then sumR b t7 else t7).err)) = _
          rw [if_pos HE.out, HS8.out, if_neg HE8.out]
        have hE := @get_end0 (cs0 := #[.string ⟨#[]⟩, .int .i64 0, .slice none 0 0, .slice none 0 0, .slice none 0 0, .slice none 0 0, .slice none 0 0]) (hg := hgs) (hb := B9.out) (hB := S9.out.dat)
        simp only [cs7, sets, Nat.zero_add, Nat.reduceAdd] at hE
        exact hE _ rfl rfl rfl rfl rfl
    · have hb2 : (t7.err == 0) = false := by simp [he]
      have hb3 : (t7.err != 0) = true := by simp [he]
      have HE := Aside0.mk he
      clear he
      go_wp2_with fail
      generalize W7.alloc (.cells #[.string x0, .int .i64 x1, .slice A2 x2.length c2, .slice A3 x3.length c3, .slice A4 x4.length c4, .slice A5 x5.length c5, .slice A6 x6.length c6] 33) = W8 at S8 B8 L8 Z8 V2 V3 V4 V5 V6 d2 d3 ⊢
      have k0_ := (blk_cell B8.out 0).trans rfl; have f0_ := blk_frozen B8.out 0; have k1_ := (blk_cell B8.out 1).trans rfl; have f1_ := blk_frozen B8.out 1; have k2_ := (blk_cell B8.out 2).trans rfl; have f2_ := blk_frozen B8.out 2; have k3_ := (blk_cell B8.out 3).trans rfl; have f3_ := blk_frozen B8.out 3; have k4_ := (blk_cell B8.out 4).trans rfl; have f4_ := blk_frozen B8.out 4; have k5_ := (blk_cell B8.out 5).trans rfl; have f5_ := blk_frozen B8.out 5; have k6_ := (blk_cell B8.out 6).trans rfl; have f6_ := blk_frozen B8.out 6
      have hq := blk_lt B8.out
      go_region
      go_wp2_with fail
      have hgs : getS b = (noPk, t7.bad, t7.err) := by
        have hP := HPK.out
        unfold getS endR
        rw [if_neg (by omega), hP]
        show (if (if t7.err = 0 then sumR b t7 else t7).err = 0 then _ else (noPk, (if t7.err = 0 then sumR b t7 else t7).bad, (if t7.err = 0 then sumR b t7 else t7).err)) = _
        rw [if_neg HE.out, if_neg HE.out]
      have hE := @get_end0 (cs0 := #[.string ⟨#[]⟩, .int .i64 0, .slice none 0 0, .slice none 0 0, .slice none 0 0, .slice none 0 0, .slice none 0 0]) (hg := hgs) (hb := B8.out) (hB := S8.out.dat)
      simp only [cs7, sets, Nat.zero_add, Nat.reduceAdd] at hE
      exact hE _ rfl rfl rfl rfl rfl
end Go.Proofs.Ytpbdkkahodaloaa.V
end

section
set_option linter.unusedVariables false
set_option linter.unusedSimpArgs false
namespace Go.Proofs.Ytpbdkkahodaloaa.L
open Go.RowKit Go.Lib Go.Proofs.Ytpbdkkahodaloaa.U Go.Proofs.Ytpbdkkahodaloaa.V Go.Proofs.Ytpbdkkahodaloaa.PS Go.Proofs.YtpbdkkahodaloaaW.PrintWords Go.Proofs.YtpbdkkahodaloaaW.PrintMore
structure Rds {α : Type} (R : List Int → R3 → α × R3) (x : α) (enc : List Int) : Prop where
  whole : ∀ (pre suf : List Int), R (pre ++ (enc ++ suf)) ⟨pre.length, 0, 0⟩ = (x, ⟨(pre.length + enc.length : Nat), 0, 0⟩)
  cut : ∀ (pre c r : List Int), enc = c ++ r → r ≠ [] → (R (pre ++ c) ⟨pre.length, 0, 0⟩).2.err = 70 ∧ (R (pre ++ c) ⟨pre.length, 0, 0⟩).2.bad = (pre ++ c).length
def Sticky {α : Type} (R : List Int → R3 → α × R3) : Prop := ∀ b s, s.err ≠ 0 → (R b s).2.err = s.err ∧ (R b s).2.bad = s.bad
theorem failR_err (e a : Int) (s : R3) (h : s.err ≠ 0) : failR e a s = s := by unfold failR; rw [if_neg h]
def seqR {α β γ : Type} (R1 : List Int → R3 → α × R3) (R2 : List Int → R3 → β × R3) (f : α → β → γ) (b : List Int) (s : R3) : γ × R3 := (f (R1 b s).1 (R2 b (R1 b s).2).1, (R2 b (R1 b s).2).2)
theorem Sticky.seq {α β γ : Type} {R1 : List Int → R3 → α × R3} {R2 : List Int → R3 → β × R3} (h1 : Sticky R1) (h2 : Sticky R2) (f : α → β → γ) : Sticky (seqR R1 R2 f) := by
  intro b s hs
  obtain ⟨a1, a2⟩ := h1 b s hs
  obtain ⟨b1, b2⟩ := h2 b (R1 b s).2 (by rw [a1]; exact hs)
  exact ⟨b1.trans a1, b2.trans a2⟩
theorem Rds.seq {α β γ : Type} {R1 : List Int → R3 → α × R3} {R2 : List Int → R3 → β × R3} {x1 : α} {x2 : β} {e1 e2 : List Int} (h1 : Rds R1 x1 e1) (h2 : Rds R2 x2 e2) (hs : Sticky R2) (f : α → β → γ) : Rds (seqR R1 R2 f) (f x1 x2) (e1 ++ e2) := by
  constructor
  · intro pre suf
    have a := h1.whole pre (e2 ++ suf)
    have b := h2.whole (pre ++ e1) suf
    rw [List.append_assoc, List.length_append] at b
    unfold seqR
    rw [List.append_assoc, a]
    show (f x1 (R2 _ ⟨((pre.length + e1.length : Nat) : Int), 0, 0⟩).1, (R2 _ ⟨((pre.length + e1.length : Nat) : Int), 0, 0⟩).2) = _
    rw [b, List.length_append, Nat.add_assoc]
  · intro pre c r hc hr
    rcases List.append_eq_append_iff.1 hc with ⟨d, hd1, hd2⟩ | ⟨d, hd1, hd2⟩
    ·
      have a := h1.whole pre d
      have b := h2.cut (pre ++ e1) d r hd2 hr
      rw [List.append_assoc, List.length_append] at b
      unfold seqR
      rw [hd1, a]
      exact b
    · by_cases hd : d = []
      · subst hd
        rw [List.append_nil] at hd1
        rw [List.nil_append] at hd2
        have a := h1.whole pre []
        have b := h2.cut (pre ++ e1) [] r hd2.symm hr
        rw [List.append_nil] at a b
        have e : ((pre ++ e1).length : Int) = ((pre.length + e1.length : Nat) : Int) := by rw [List.length_append]
        unfold seqR
        rw [← hd1, a]
        show (R2 (pre ++ e1) ⟨((pre.length + e1.length : Nat) : Int), 0, 0⟩).2.err = 70 ∧ (R2 (pre ++ e1) ⟨((pre.length + e1.length : Nat) : Int), 0, 0⟩).2.bad = _
        rw [← e]
        exact b
      · have a := h1.cut pre c d hd1 hd
        have b := hs (pre ++ c) (R1 (pre ++ c) ⟨pre.length, 0, 0⟩).2 (by rw [a.1]; decide)
        exact ⟨b.1.trans a.1, b.2.trans a.2⟩
theorem rd_at (pre : List Int) (x : Int) (suf : List Int) : rd (pre ++ x :: suf) (pre.length : Nat) = x := by
  unfold rd
  rw [Int.toNat_natCast, List.getD_eq_getElem?_getD, List.getElem?_append_right (Nat.le_refl _)]
  simp
theorem len_ne (pre : List Int) (x : Int) (suf : List Int) : ¬ ((pre.length : Nat) : Int) = (((pre ++ x :: suf).length : Nat) : Int) := by rw [List.length_append, List.length_cons]; omega
theorem numL_step (pre : List Int) (x : Int) (suf : List Int) (fr : Int) (f : Nat) (n : Int) (i : Nat) : numL (pre ++ x :: suf) fr (f + 1) n i ⟨(pre.length : Nat), 0, 0⟩ =
    if (i = 9 ∧ x > 1) ∨ (0 < i ∧ x = 0) then (0, failR 71 fr ⟨(pre.length : Nat), 0, 0⟩) else
    if x < 128 then (n + x % 128 * 128 ^ i, ⟨((pre.length : Nat) : Int) + 1, 0, 0⟩) else numL (pre ++ x :: suf) fr f (n + x % 128 * 128 ^ i) (i + 1) ⟨((pre.length : Nat) : Int) + 1, 0, 0⟩ := by
  conv => lhs; unfold numL
  rw [if_pos rfl]
  show (if ((pre.length : Nat) : Int) = (((pre ++ x :: suf).length : Nat) : Int) then _ else if (i = 9 ∧ rd (pre ++ x :: suf) (pre.length : Nat) > 1) ∨ (0 < i ∧ rd (pre ++ x :: suf) (pre.length : Nat) = 0) then _ else
    if rd (pre ++ x :: suf) (pre.length : Nat) < 128 then (n + rd (pre ++ x :: suf) (pre.length : Nat) % 128 * 128 ^ i, _) else numL _ _ _ (n + rd (pre ++ x :: suf) (pre.length : Nat) % 128 * 128 ^ i) _ _) = _
  rw [if_neg (len_ne _ _ _), rd_at]
theorem numL_sticky (b : List Int) (fr : Int) (f : Nat) (n : Int) (i : Nat) (s : R3) (h : s.err ≠ 0) : numL b fr f n i s = (0, s) := by
  cases f with
  | zero => rfl
  | succ f => unfold numL; rw [if_neg h]
theorem numR_sticky : Sticky numR := fun b s h => by unfold numR; rw [numL_sticky _ _ _ _ _ _ h]; exact ⟨rfl, rfl⟩
theorem numL_whole (fr : Int) : ∀ (f i m n : Nat) (pre suf : List Int), f + i = 10 → m * 128 ^ i < 18446744073709551616 → (0 < i → 0 < m) →
    numL (pre ++ (seven m ++ suf)) fr f n i ⟨pre.length, 0, 0⟩ = (((n + m * 128 ^ i : Nat) : Int), ⟨((pre.length + (seven m).length : Nat) : Int), 0, 0⟩)
  | 0, i, m, n, pre, suf, hf, hm, hi => by
    exfalso
    obtain rfl : i = 10 := by omega
    have := hi (by omega)
    omega
  | f + 1, i, m, n, pre, suf, hf, hm, hi => by
    have hi9 : i = 9 → m ≤ 1 := by intro h; subst h; omega
    unfold seven
    by_cases hlt : m < 128
    · rw [if_pos hlt]
      show numL (pre ++ (m : Int) :: suf) fr (f + 1) n i ⟨pre.length, 0, 0⟩ = _
      rw [numL_step]
      rw [if_neg (by
        rintro (⟨h, h2⟩ | ⟨h, h2⟩)
        · have := hi9 h; omega
        · have := hi h; omega), if_pos (by omega)]
      rw [show (m : Int) % 128 = m by omega]
      refine Prod.ext ?_ rfl
      show (n : Int) + m * 128 ^ i = _
      push_cast; rfl
    · rw [if_neg hlt]
      have hlt9 : i < 9 := by
        by_cases h : i = 9
        · have := hi9 h; omega
        · omega
      show numL (pre ++ ((m % 128 + 128 : Nat) : Int) :: (seven (m / 128) ++ suf)) fr (f + 1) n i ⟨pre.length, 0, 0⟩ = _
      rw [numL_step]
      rw [if_neg (by
        rintro (⟨h, h2⟩ | ⟨h, h2⟩)
        · omega
        · omega), if_neg (by omega)]
      have e1 : (((m % 128 + 128 : Nat) : Int)) % 128 = ((m % 128 : Nat) : Int) := by omega
      rw [e1]
      have e2 : (n : Int) + ((m % 128 : Nat) : Int) * 128 ^ i = ((n + m % 128 * 128 ^ i : Nat) : Int) := by push_cast; rfl
      rw [e2]
      have hp : m / 128 * 128 ^ (i + 1) + m % 128 * 128 ^ i = m * 128 ^ i := by
        rw [Nat.pow_succ, Nat.mul_comm (128 ^ i) 128, ← Nat.mul_assoc, ← Nat.add_mul]
        congr 1
        omega
      have ih := numL_whole fr f (i + 1) (m / 128) (n + m % 128 * 128 ^ i) (pre ++ [((m % 128 + 128 : Nat) : Int)]) suf (by omega) (by omega) (by intro _; omega)
      rw [List.append_assoc, List.length_append] at ih
      have e3 : ((pre.length : Nat) : Int) + 1 = ((pre.length + [((m % 128 + 128 : Nat) : Int)].length : Nat) : Int) := by simp
      show numL (pre ++ ([((m % 128 + 128 : Nat) : Int)] ++ (seven (m / 128) ++ suf))) fr f _ (i + 1) ⟨((pre.length : Nat) : Int) + 1, 0, 0⟩ = _
      rw [e3, ih]
      refine Prod.ext ?_ ?_
      · show ((n + m % 128 * 128 ^ i + m / 128 * 128 ^ (i + 1) : Nat) : Int) = _
        congr 1
        omega
      · show (⟨_, 0, 0⟩ : R3) = ⟨_, 0, 0⟩
        congr 1
        simp only [List.length_append, List.length_cons, List.length_nil]
        omega
theorem numL_cut (fr : Int) : ∀ (f i m n : Nat) (pre c r : List Int), f + i = 10 → m * 128 ^ i < 18446744073709551616 → (0 < i → 0 < m) → seven m = c ++ r → r ≠ [] →
    (numL (pre ++ c) fr f n i ⟨pre.length, 0, 0⟩).2.err = 70 ∧ (numL (pre ++ c) fr f n i ⟨pre.length, 0, 0⟩).2.bad = (pre ++ c).length
  | 0, i, m, n, pre, c, r, hf, hm, hi, hc, hr => by
    exfalso
    obtain rfl : i = 10 := by omega
    have := hi (by omega)
    omega
  | f + 1, i, m, n, pre, [], r, hf, hm, hi, hc, hr => by
    unfold numL
    rw [if_pos rfl, if_pos (by simp)]
    exact ⟨rfl, rfl⟩
  | f + 1, i, m, n, pre, x :: c, r, hf, hm, hi, hc, hr => by
    have hi9 : i = 9 → m ≤ 1 := by intro h; subst h; omega
    unfold seven at hc
    by_cases hlt : m < 128
    · rw [if_pos hlt] at hc
      exfalso
      simp only [List.cons_append, List.cons.injEq] at hc
      exact hr (List.append_eq_nil_iff.1 hc.2.symm).2
    · rw [if_neg hlt] at hc
      simp only [List.cons_append, List.cons.injEq] at hc
      obtain ⟨hx, hc⟩ := hc
      subst hx
      have hlt9 : i < 9 := by
        by_cases h : i = 9
        · have := hi9 h; omega
        · omega
      have hp : m / 128 * 128 ^ (i + 1) + m % 128 * 128 ^ i = m * 128 ^ i := by
        rw [Nat.pow_succ, Nat.mul_comm (128 ^ i) 128, ← Nat.mul_assoc, ← Nat.add_mul]
        congr 1
        omega
      have ih := numL_cut fr f (i + 1) (m / 128) (n + m % 128 * 128 ^ i) (pre ++ [((m % 128 + 128 : Nat) : Int)]) c r (by omega) (by omega) (by intro _; omega) hc hr
      rw [List.append_assoc, List.length_append] at ih
      have e3 : ((pre.length : Nat) : Int) + 1 = ((pre.length + [((m % 128 + 128 : Nat) : Int)].length : Nat) : Int) := by simp
      have hstep : numL (pre ++ ((m % 128 + 128 : Nat) : Int) :: c) fr (f + 1) n i ⟨pre.length, 0, 0⟩ = numL (pre ++ ([((m % 128 + 128 : Nat) : Int)] ++ c)) fr f ((n + m % 128 * 128 ^ i : Nat) : Int) (i + 1) ⟨((pre.length : Nat) : Int) + 1, 0, 0⟩ := by
        rw [numL_step]
        rw [if_neg (by
          rintro (⟨h, h2⟩ | ⟨h, h2⟩)
          · omega
          · omega), if_neg (by omega)]
        have e1 : (((m % 128 + 128 : Nat) : Int)) % 128 = ((m % 128 : Nat) : Int) := by omega
        rw [e1]
        have e2 : (n : Int) + ((m % 128 : Nat) : Int) * 128 ^ i = ((n + m % 128 * 128 ^ i : Nat) : Int) := by push_cast; rfl
        rw [e2]
        rfl
      rw [hstep, e3]
      simpa using ih
theorem num_rds (m : Nat) (h : m < 18446744073709551616) : Rds numR (m : Int) (seven m) where
  whole := fun pre suf => by
    have := numL_whole pre.length 10 0 m 0 pre suf rfl (by simpa using h) (by intro h; omega)
    unfold numR
    simpa using this
  cut := fun pre c r hc hr => by
    have := numL_cut pre.length 10 0 m 0 pre c r rfl (by simpa using h) (by intro h; omega) hc hr
    unfold numR
    simpa using this
theorem Rds.map {α β : Type} {R : List Int → R3 → α × R3} {x : α} {enc : List Int} (h : Rds R x enc) (f : α → β) : Rds (fun b s => (f (R b s).1, (R b s).2)) (f x) enc where
  whole := fun pre suf => by show (f (R _ _).1, (R _ _).2) = _; rw [h.whole]
  cut := h.cut
theorem unz_zig (n : Int) (h : i64 n) : unz (zig n : Nat) = n := by
  have h1 := h.lo
  have h2 := h.hi
  unfold unz zig
  split <;> split <;> omega
theorem zig_lt (n : Int) (h : i64 n) : zig n < 18446744073709551616 := by
  have h1 := h.lo
  have h2 := h.hi
  unfold zig
  split <;> omega
theorem int_rds (n : Int) (h : i64 n) : Rds intR n (encInt n) := by
  have := (num_rds (zig n) (zig_lt n h)).map unz
  rw [unz_zig n h] at this
  exact this
theorem int_sticky : Sticky intR := numR_sticky
theorem byte_sticky : Sticky byteR := fun b s h => by unfold byteR; rw [if_neg h]; exact ⟨rfl, rfl⟩
theorem byte_rds (x : Int) : Rds byteR x [x] where
  whole := fun pre suf => by
    unfold byteR
    rw [if_pos rfl]
    show (if ((pre.length : Nat) : Int) = (((pre ++ x :: suf).length : Nat) : Int) then _ else (rd (pre ++ x :: suf) (pre.length : Nat), _)) = _
    rw [if_neg (len_ne _ _ _), rd_at]; rfl
  cut := fun pre c r hc hr => by
    cases c with
    | nil => unfold byteR; rw [if_pos rfl, if_pos (by simp)]; exact ⟨rfl, rfl⟩
    | cons y c =>
      exfalso
      simp only [List.cons_append, List.cons.injEq] at hc
      exact hr (List.append_eq_nil_iff.1 hc.2.symm).2
theorem flag_sticky : Sticky flagR := fun b s h => by
  obtain ⟨a1, a2⟩ := byte_sticky b s h
  unfold flagR
  show (if _ then _ else _ : R3).err = _ ∧ (if _ then _ else _ : R3).bad = _
  split
  · rw [failR_err _ _ _ (by rw [a1]; exact h)]; exact ⟨a1, a2⟩
  · exact ⟨a1, a2⟩
theorem flag_rds (x : Bool) : Rds flagR x (encFlag x) where
  whole := fun pre suf => by
    have := (byte_rds (if x = true then 1 else 0)).whole pre suf
    unfold flagR encFlag
    rw [this]
    cases x <;> rfl
  cut := fun pre c r hc hr => by
    have a := (byte_rds (if x = true then 1 else 0)).cut pre c r hc hr
    unfold flagR
    show (if _ then _ else _ : R3).err = _ ∧ (if _ then _ else _ : R3).bad = _
    split
    · rw [failR_err _ _ _ (by rw [a.1]; decide)]; exact a
    · exact a
end Go.Proofs.Ytpbdkkahodaloaa.L
end

section
set_option linter.unusedVariables false
set_option linter.unusedSimpArgs false
namespace Go.Proofs.Ytpbdkkahodaloaa.L
open Go.RowKit Go.Proofs.Ytpbdkkahodaloaa.U Go.Proofs.Ytpbdkkahodaloaa.V Go.Proofs.Ytpbdkkahodaloaa.PS Go.Proofs.YtpbdkkahodaloaaW.PrintWords Go.Proofs.YtpbdkkahodaloaaW.PrintMore
theorem short_sticky (b : List Int) (s : R3) (h : s.err ≠ 0) : shortR b s = s := failR_err _ _ _ h
theorem strOfNums_bytes (s : ByteArray) : strOfNums (U.bytesOf s) = s := by
  apply ByteArray.ext
  apply Array.ext'
  rw [strOfNums_data]
  unfold U.bytesOf
  rw [List.map_map]
  refine (List.map_congr_left (g := id) fun x hx => ?_).trans (List.map_id _)
  show UInt8.ofNat ((x.toNat : Int)).toNat = x
  rw [Int.toNat_natCast]
  exact UInt8.ofNat_toNat
theorem bytesOf_len (s : ByteArray) : (U.bytesOf s).length = s.size := by unfold U.bytesOf; rw [List.length_map]; exact Array.length_toList
theorem text_sticky : Sticky textR := fun b s h => by
  obtain ⟨a1, a2⟩ := numR_sticky b s h
  have e : (numR b s).2.err ≠ 0 := by rw [a1]; exact h
  unfold textR
  split
  · show (shortR b (numR b s).2).err = _ ∧ (shortR b (numR b s).2).bad = _
    rw [short_sticky _ _ e]; exact ⟨a1, a2⟩
  · exact ⟨a1, a2⟩
theorem text_rds (x : ByteArray) (h : x.size < 18446744073709551616) : Rds textR x (encText x) where
  whole := fun pre suf => by
    have a := (num_rds x.size h).whole pre (U.bytesOf x ++ suf)
    unfold textR encText
    rw [List.append_assoc, a]
    show (if (x.size : Int) > ((pre ++ (seven x.size ++ (U.bytesOf x ++ suf))).length : Nat) - ((pre.length + (seven x.size).length : Nat) : Int) then _ else _) = _
    have hl := bytesOf_len x
    rw [if_neg (by simp only [List.length_append]; omega)]
    show (strOfNums (((pre ++ (seven x.size ++ (U.bytesOf x ++ suf))).drop ((pre.length + (seven x.size).length : Nat) : Int).toNat).take (x.size : Int).toNat), _) = _
    rw [Int.toNat_natCast, Int.toNat_natCast, ← List.append_assoc, ← List.length_append, List.drop_left, ← hl, List.take_left, strOfNums_bytes]
    refine Prod.ext rfl ?_
    show (⟨((pre ++ seven (U.bytesOf x).length).length : Nat) + ((U.bytesOf x).length : Int), 0, 0⟩ : R3) = ⟨_, 0, 0⟩
    congr 1
    simp only [List.length_append, hl]
    push_cast
    omega
  cut := fun pre c r hc hr => by
    unfold encText at hc
    rcases List.append_eq_append_iff.1 hc with ⟨d, hd1, hd2⟩ | ⟨d, hd1, hd2⟩
    · have a := (num_rds x.size h).whole pre d
      have hl := bytesOf_len x
      have hlt : d.length < x.size := by
        rw [← hl, hd2, List.length_append]
        have := List.length_pos_iff.2 hr
        omega
      unfold textR
      rw [hd1, a]
      show (if (x.size : Int) > ((pre ++ (seven x.size ++ d)).length : Nat) - ((pre.length + (seven x.size).length : Nat) : Int) then _ else _ : _ × R3).2.err = 70 ∧ (if (x.size : Int) > ((pre ++ (seven x.size ++ d)).length : Nat) - ((pre.length + (seven x.size).length : Nat) : Int) then _ else _ : _ × R3).2.bad = _
      rw [if_pos (by simp only [List.length_append]; omega)]
      exact ⟨rfl, rfl⟩
    · by_cases hd : d = []
      · subst hd
        rw [List.append_nil] at hd1
        rw [List.nil_append] at hd2
        have a := (num_rds x.size h).whole pre []
        rw [List.append_nil] at a
        have hl := bytesOf_len x
        have hlt : 0 < x.size := by
          rw [← hl, ← hd2]
          exact List.length_pos_iff.2 hr
        unfold textR
        rw [← hd1, a]
        show (if (x.size : Int) > ((pre ++ seven x.size).length : Nat) - ((pre.length + (seven x.size).length : Nat) : Int) then _ else _ : _ × R3).2.err = 70 ∧ (if (x.size : Int) > ((pre ++ seven x.size).length : Nat) - ((pre.length + (seven x.size).length : Nat) : Int) then _ else _ : _ × R3).2.bad = _
        rw [if_pos (by simp only [List.length_append]; omega)]
        exact ⟨rfl, rfl⟩
      · have a := (num_rds x.size h).cut pre c d hd1 hd
        unfold textR
        split
        · show (shortR _ (numR _ _).2).err = _ ∧ (shortR _ (numR _ _).2).bad = _
          rw [short_sticky _ _ (by rw [a.1]; decide)]
          exact a
        · exact a
def lstR {α : Type} (R : List Int → R3 → α × R3) (b : List Int) (s : R3) : List α × R3 := listR b (R b) s
theorem head_sticky (b : List Int) (s : R3) (h : s.err ≠ 0) : (headR b s).2.err = s.err ∧ (headR b s).2.bad = s.bad := by
  obtain ⟨a1, a2⟩ := numR_sticky b s h
  have e : (numR b s).2.err ≠ 0 := by rw [a1]; exact h
  unfold headR
  show (if _ then _ else _ : R3).err = _ ∧ (if _ then _ else _ : R3).bad = _
  split
  · rw [short_sticky _ _ e]; exact ⟨a1, a2⟩
  · exact ⟨a1, a2⟩
theorem lst_sticky {α : Type} (R : List Int → R3 → α × R3) : Sticky (lstR R) := fun b s h => by
  obtain ⟨a1, a2⟩ := head_sticky b s h
  unfold lstR listR
  rw [listL_err _ _ _ (by rw [a1]; exact h)]
  exact ⟨a1, a2⟩
theorem listL_whole {α : Type} {R : List Int → R3 → α × R3} {enc : α → List Int} : ∀ (l : List α), (∀ x ∈ l, Rds R x (enc x)) → ∀ (pre suf : List Int),
    listL (R (pre ++ (l.flatMap enc ++ suf))) l.length ⟨pre.length, 0, 0⟩ = (l, ⟨(pre.length + (l.flatMap enc).length : Nat), 0, 0⟩)
  | [], h, pre, suf => rfl
  | x :: l, h, pre, suf => by
    have a := (h x (by simp)).whole pre (l.flatMap enc ++ suf)
    have ih := listL_whole l (fun y hy => h y (by simp [hy])) (pre ++ enc x) suf
    rw [List.append_assoc, List.length_append] at ih
    rw [List.flatMap_cons, List.append_assoc, List.length_cons]
    unfold listL
    rw [if_pos rfl, a]
    show (x :: (listL _ l.length ⟨((pre.length + (enc x).length : Nat) : Int), 0, 0⟩).1, (listL _ l.length ⟨((pre.length + (enc x).length : Nat) : Int), 0, 0⟩).2) = _
    rw [ih, List.length_append, Nat.add_assoc]
theorem listL_cut {α : Type} {R : List Int → R3 → α × R3} {enc : α → List Int} (hs : Sticky R) : ∀ (l : List α), (∀ x ∈ l, Rds R x (enc x)) → ∀ (pre c r : List Int), l.flatMap enc = c ++ r → r ≠ [] →
    (listL (R (pre ++ c)) l.length ⟨pre.length, 0, 0⟩).2.err = 70 ∧ (listL (R (pre ++ c)) l.length ⟨pre.length, 0, 0⟩).2.bad = (pre ++ c).length
  | [], h, pre, c, r, hc, hr => by
    exfalso
    exact hr (List.append_eq_nil_iff.1 hc.symm).2
  | x :: l, h, pre, c, r, hc, hr => by
    rw [List.flatMap_cons] at hc
    have hx := h x (by simp)
    have hstep : (listL (R (pre ++ c)) (x :: l).length ⟨pre.length, 0, 0⟩).2 = (listL (R (pre ++ c)) l.length (R (pre ++ c) ⟨pre.length, 0, 0⟩).2).2 := by
      rw [List.length_cons]
      conv => lhs; unfold listL
      rw [if_pos rfl]
    rw [hstep]
    rcases List.append_eq_append_iff.1 hc with ⟨d, hd1, hd2⟩ | ⟨d, hd1, hd2⟩
    · have a := hx.whole pre d
      have ih := listL_cut hs l (fun y hy => h y (by simp [hy])) (pre ++ enc x) d r hd2 hr
      rw [List.append_assoc, List.length_append] at ih
      rw [hd1, a]
      exact ih
    · by_cases hd : d = []
      · subst hd
        rw [List.append_nil] at hd1
        rw [List.nil_append] at hd2
        have a := hx.whole pre []
        have ih := listL_cut hs l (fun y hy => h y (by simp [hy])) (pre ++ enc x) [] r hd2.symm hr
        rw [List.append_nil] at a ih
        rw [← hd1, a]
        have e : ((pre ++ enc x).length : Int) = ((pre.length + (enc x).length : Nat) : Int) := by rw [List.length_append]
        show (listL _ l.length ⟨((pre.length + (enc x).length : Nat) : Int), 0, 0⟩).2.err = 70 ∧ (listL _ l.length ⟨((pre.length + (enc x).length : Nat) : Int), 0, 0⟩).2.bad = _
        rw [← e]
        exact ih
      · have a := hx.cut pre c d hd1 hd
        rw [listL_err _ _ _ (by rw [a.1]; decide)]
        exact a
theorem flat_len {α : Type} {enc : α → List Int} : ∀ (l : List α), (∀ x ∈ l, enc x ≠ []) → l.length ≤ (l.flatMap enc).length
  | [], h => Nat.le_refl _
  | x :: l, h => by
    have ih := flat_len l (fun y hy => h y (by simp [hy]))
    have := List.length_pos_iff.2 (h x (by simp))
    rw [List.flatMap_cons, List.length_append, List.length_cons]
    omega
theorem lst_rds {α : Type} {R : List Int → R3 → α × R3} {enc : α → List Int} (hs : Sticky R) (l : List α) (hl : l.length < 18446744073709551616) (h : ∀ x ∈ l, Rds R x (enc x)) (hne : ∀ x ∈ l, enc x ≠ []) : Rds (lstR R) l (encList enc l) where
  whole := fun pre suf => by
    have a := (num_rds l.length hl).whole pre (l.flatMap enc ++ suf)
    have hf := flat_len l hne
    have hh : headR (pre ++ (seven l.length ++ (l.flatMap enc ++ suf))) ⟨pre.length, 0, 0⟩ = (l.length, ⟨((pre ++ seven l.length).length : Nat), 0, 0⟩) := by
      unfold headR
      rw [a]
      show ((l.length : Int).toNat, if (l.length : Int) > ((pre ++ (seven l.length ++ (l.flatMap enc ++ suf))).length : Nat) - ((pre.length + (seven l.length).length : Nat) : Int) then _ else _) = _
      rw [if_neg (by simp only [List.length_append]; omega), Int.toNat_natCast, List.length_append]
    unfold lstR listR encList
    rw [List.append_assoc, hh]
    have b := listL_whole l h (pre ++ seven l.length) suf
    rw [List.append_assoc] at b
    show listL _ l.length ⟨((pre ++ seven l.length).length : Nat), 0, 0⟩ = _
    rw [b, List.length_append, List.length_append, Nat.add_assoc]
  cut := fun pre c r hc hr => by
    unfold encList at hc
    have key : ∀ d, c = seven l.length ++ d → l.flatMap enc = d ++ r → (lstR R (pre ++ c) ⟨pre.length, 0, 0⟩).2.err = 70 ∧ (lstR R (pre ++ c) ⟨pre.length, 0, 0⟩).2.bad = (pre ++ c).length := by
      intro d hd1 hd2
      have a := (num_rds l.length hl).whole pre d
      unfold lstR listR
      rw [hd1]
      by_cases hgt : (l.length : Int) > ((pre ++ (seven l.length ++ d)).length : Nat) - ((pre.length + (seven l.length).length : Nat) : Int)
      · have hh : headR (pre ++ (seven l.length ++ d)) ⟨pre.length, 0, 0⟩ = (l.length, ⟨((pre ++ seven l.length).length : Nat), 70, ((pre ++ (seven l.length ++ d)).length : Nat)⟩) := by
          unfold headR
          rw [a]
          show ((l.length : Int).toNat, if (l.length : Int) > ((pre ++ (seven l.length ++ d)).length : Nat) - ((pre.length + (seven l.length).length : Nat) : Int) then _ else _) = _
          rw [if_pos hgt, Int.toNat_natCast, show ((pre ++ seven l.length).length : Nat) = pre.length + (seven l.length).length from List.length_append]
          rfl
        rw [hh]
        show (listL _ l.length ⟨_, 70, _⟩).2.err = 70 ∧ (listL _ l.length ⟨_, 70, _⟩).2.bad = _
        rw [listL_err _ _ _ (show ¬ (70 : Int) = 0 by decide)]
        exact ⟨rfl, rfl⟩
      · have hh : headR (pre ++ (seven l.length ++ d)) ⟨pre.length, 0, 0⟩ = (l.length, ⟨((pre ++ seven l.length).length : Nat), 0, 0⟩) := by
          unfold headR
          rw [a]
          show ((l.length : Int).toNat, if (l.length : Int) > ((pre ++ (seven l.length ++ d)).length : Nat) - ((pre.length + (seven l.length).length : Nat) : Int) then _ else _) = _
          rw [if_neg hgt, Int.toNat_natCast, show ((pre ++ seven l.length).length : Nat) = pre.length + (seven l.length).length from List.length_append]
        rw [hh]
        have b := listL_cut hs l h (pre ++ seven l.length) d r hd2 hr
        rw [List.append_assoc] at b
        exact b
    rcases List.append_eq_append_iff.1 hc with ⟨d, hd1, hd2⟩ | ⟨d, hd1, hd2⟩
    · exact key d hd1 hd2
    · by_cases hd : d = []
      · subst hd
        rw [List.append_nil] at hd1
        exact key [] (by rw [List.append_nil]; exact hd1.symm) (by rw [List.nil_append]; exact hd2.symm)
      · have a := (num_rds l.length hl).cut pre c d hd1 hd
        have e : (headR (pre ++ c) ⟨pre.length, 0, 0⟩).2.err = 70 ∧ (headR (pre ++ c) ⟨pre.length, 0, 0⟩).2.bad = (pre ++ c).length := by
          unfold headR
          show (if _ then _ else _ : R3).err = _ ∧ (if _ then _ else _ : R3).bad = _
          split
          · rw [short_sticky _ _ (by rw [a.1]; decide)]; exact a
          · exact a
        unfold lstR listR
        rw [listL_err _ _ _ (by rw [e.1]; decide)]
        exact e
end Go.Proofs.Ytpbdkkahodaloaa.L
end

section
set_option linter.unusedVariables false
set_option linter.unusedSimpArgs false
namespace Go.Proofs.Ytpbdkkahodaloaa.L
open Go.RowKit Go.Proofs.Ytpbdkkahodaloaa.U Go.Proofs.Ytpbdkkahodaloaa.V Go.Proofs.Ytpbdkkahodaloaa.PS Go.Proofs.YtpbdkkahodaloaaW.PrintWords Go.Proofs.YtpbdkkahodaloaaW.PrintMore
def bindR {α β γ : Type} (R1 : List Int → R3 → α × R3) (R2 : α → List Int → R3 → β × R3) (f : α → β → γ) (b : List Int) (s : R3) : γ × R3 := (f (R1 b s).1 (R2 (R1 b s).1 b (R1 b s).2).1, (R2 (R1 b s).1 b (R1 b s).2).2)
theorem Sticky.bind {α β γ : Type} {R1 : List Int → R3 → α × R3} {R2 : α → List Int → R3 → β × R3} (h1 : Sticky R1) (h2 : ∀ a, Sticky (R2 a)) (f : α → β → γ) : Sticky (bindR R1 R2 f) := by
  intro b s hs
  obtain ⟨a1, a2⟩ := h1 b s hs
  obtain ⟨b1, b2⟩ := h2 (R1 b s).1 b (R1 b s).2 (by rw [a1]; exact hs)
  exact ⟨b1.trans a1, b2.trans a2⟩
theorem Rds.bind {α β γ : Type} {R1 : List Int → R3 → α × R3} {R2 : α → List Int → R3 → β × R3} {x1 : α} {x2 : β} {e1 e2 : List Int} (h1 : Rds R1 x1 e1) (h2 : Rds (R2 x1) x2 e2) (hs : ∀ a, Sticky (R2 a)) (f : α → β → γ) : Rds (bindR R1 R2 f) (f x1 x2) (e1 ++ e2) := by
  constructor
  · intro pre suf
    have a := h1.whole pre (e2 ++ suf)
    have b := h2.whole (pre ++ e1) suf
    rw [List.append_assoc, List.length_append] at b
    unfold bindR
    rw [List.append_assoc, a]
    show (f x1 (R2 x1 _ ⟨((pre.length + e1.length : Nat) : Int), 0, 0⟩).1, (R2 x1 _ ⟨((pre.length + e1.length : Nat) : Int), 0, 0⟩).2) = _
    rw [b, List.length_append, Nat.add_assoc]
  · intro pre c r hc hr
    rcases List.append_eq_append_iff.1 hc with ⟨d, hd1, hd2⟩ | ⟨d, hd1, hd2⟩
    · have a := h1.whole pre d
      have b := h2.cut (pre ++ e1) d r hd2 hr
      rw [List.append_assoc, List.length_append] at b
      unfold bindR
      rw [hd1, a]
      exact b
    · by_cases hd : d = []
      · subst hd
        rw [List.append_nil] at hd1
        rw [List.nil_append] at hd2
        have a := h1.whole pre []
        have b := h2.cut (pre ++ e1) [] r hd2.symm hr
        rw [List.append_nil] at a b
        have e : ((pre ++ e1).length : Int) = ((pre.length + e1.length : Nat) : Int) := by rw [List.length_append]
        unfold bindR
        rw [← hd1, a]
        show (R2 x1 (pre ++ e1) ⟨((pre.length + e1.length : Nat) : Int), 0, 0⟩).2.err = 70 ∧ (R2 x1 (pre ++ e1) ⟨((pre.length + e1.length : Nat) : Int), 0, 0⟩).2.bad = _
        rw [← e]
        exact b
      · have a := h1.cut pre c d hd1 hd
        have b := hs (R1 (pre ++ c) ⟨pre.length, 0, 0⟩).1 (pre ++ c) (R1 (pre ++ c) ⟨pre.length, 0, 0⟩).2 (by rw [a.1]; decide)
        exact ⟨b.1.trans a.1, b.2.trans a.2⟩
theorem bit_cond (n k : Int) : bit n k = cond (decide (n = 0)) 0 k := by
  unfold bit
  by_cases h : n = 0 <;> simp [h]
theorem says_bits : ∀ a b c d : Bool, (0 ≤ cond a (0 : Int) 1 + cond b 0 2 + cond c 0 4 + cond d 0 8 ∧ cond a (0 : Int) 1 + cond b 0 2 + cond c 0 4 + cond d 0 8 ≤ 15) ∧
    (bits .and .u8 (cond a (0 : Int) 1 + cond b 0 2 + cond c 0 4 + cond d 0 8) 1 = 0 ↔ a = true) ∧ (bits .and .u8 (cond a (0 : Int) 1 + cond b 0 2 + cond c 0 4 + cond d 0 8) 2 = 0 ↔ b = true) ∧
    (bits .and .u8 (cond a (0 : Int) 1 + cond b 0 2 + cond c 0 4 + cond d 0 8) 4 = 0 ↔ c = true) ∧ (bits .and .u8 (cond a (0 : Int) 1 + cond b 0 2 + cond c 0 4 + cond d 0 8) 8 = 0 ↔ d = true) := by decide +kernel
theorem says_is (e : S80) : saysOf e = cond (decide (e.f1 = 0)) (0 : Int) 1 + cond (decide (e.f2 = 0)) 0 2 + cond (decide (e.f3 = 0)) 0 4 + cond (decide ((e.f4.length : Int) = 0)) 0 8 := by
  unfold saysOf
  rw [bit_cond, bit_cond, bit_cond, bit_cond]
theorem says_all (e : S80) : (0 ≤ saysOf e ∧ saysOf e ≤ 15) ∧ (bits .and .u8 (saysOf e) 1 = 0 ↔ e.f1 = 0) ∧ (bits .and .u8 (saysOf e) 2 = 0 ↔ e.f2 = 0) ∧ (bits .and .u8 (saysOf e) 4 = 0 ↔ e.f3 = 0) ∧ (bits .and .u8 (saysOf e) 8 = 0 ↔ (e.f4.length : Int) = 0) := by
  have h := says_bits (decide (e.f1 = 0)) (decide (e.f2 = 0)) (decide (e.f3 = 0)) (decide ((e.f4.length : Int) = 0))
  rw [← says_is] at h
  simp only [decide_eq_true_eq] at h
  exact h
theorem given_sticky (y i : Int) : Sticky (fun b s => givenR b y i s) := fun b s h => by
  show (givenR b y i s).2.err = _ ∧ (givenR b y i s).2.bad = _
  unfold givenR
  rw [if_pos (.inr h)]
  exact ⟨rfl, rfl⟩
theorem given_rds (y i n : Int) (hy : bits .and .u8 y i = 0 ↔ n = 0) (h : i64 n) : Rds (fun b s => givenR b y i s) n (encOpt n) := by
  by_cases h0 : n = 0
  · constructor
    · intro pre suf
      show givenR _ y i _ = _
      unfold givenR encOpt
      rw [if_pos (.inl (hy.2 h0)), if_pos h0]
      exact Prod.ext h0.symm rfl
    · intro pre c r hc hr
      exfalso
      unfold encOpt at hc
      rw [if_pos h0] at hc
      exact hr (List.append_eq_nil_iff.1 hc.symm).2
  · have hI := int_rds n h
    have hno : ∀ p : Int, ¬ (bits .and .u8 y i = 0 ∨ ¬ (⟨p, 0, 0⟩ : R3).err = 0) := by
      rintro p (h1 | h1)
      · exact h0 (hy.1 h1)
      · exact h1 rfl
    constructor
    · intro pre suf
      show givenR _ y i _ = _
      unfold givenR encOpt
      rw [if_neg h0, if_neg (hno _), hI.whole]
      show (n, if n = 0 then _ else _) = _
      rw [if_neg h0]
    · intro pre c r hc hr
      unfold encOpt at hc
      rw [if_neg h0] at hc
      have a := hI.cut pre c r hc hr
      show (givenR _ y i _).2.err = _ ∧ (givenR _ y i _).2.bad = _
      unfold givenR
      rw [if_neg (hno _)]
      show (if _ then _ else _ : R3).err = _ ∧ (if _ then _ else _ : R3).bad = _
      split
      · rw [failR_err _ _ _ (by rw [a.1]; decide)]; exact a
      · exact a
theorem say_sticky : Sticky sayR := fun b s h => by
  obtain ⟨a1, a2⟩ := byte_sticky b s h
  unfold sayR
  show (if _ then _ else _ : R3).err = _ ∧ (if _ then _ else _ : R3).bad = _
  split
  · rw [failR_err _ _ _ (by rw [a1]; exact h)]; exact ⟨a1, a2⟩
  · exact ⟨a1, a2⟩
theorem say_rds (y : Int) (h : y ≤ 15) : Rds sayR y [y] where
  whole := fun pre suf => by
    unfold sayR
    rw [(byte_rds y).whole]
    show (y, if y > 15 then _ else _) = _
    rw [if_neg (by omega)]
  cut := fun pre c r hc hr => by
    have a := (byte_rds y).cut pre c r hc hr
    unfold sayR
    show (if _ then _ else _ : R3).err = _ ∧ (if _ then _ else _ : R3).bad = _
    split
    · rw [failR_err _ _ _ (by rw [a.1]; decide)]; exact a
    · exact a
def argR (f : Nat) (y : Int) (b : List Int) (s : R3) : List S80 × R3 := argsR b (exprR b f) y s
theorem arg_sticky (f : Nat) (y : Int) : Sticky (argR f y) := fun b s h => by
  unfold argR argsR
  rw [if_pos (.inr h)]
  exact ⟨rfl, rfl⟩
def expR (f : Nat) (b : List Int) (s : R3) : S80 × R3 := exprR b f s
theorem exp_sticky (f : Nat) : Sticky (expR f) := fun b s h => by
  unfold expR
  cases f with
  | zero => unfold exprR; rw [if_neg h]; exact ⟨rfl, rfl⟩
  | succ f => unfold exprR; rw [if_neg h]; exact ⟨rfl, rfl⟩
theorem encE_ne (f : Nat) (x : S80) (h : deepE f x = false) : encE f x ≠ [] := by
  cases f with
  | zero => cases h
  | succ f => unfold encE; simp
theorem arg_rds (f : Nat) (y : Int) (l : List S80) (hy : bits .and .u8 y 8 = 0 ↔ (l.length : Int) = 0) (hl : l.length < 18446744073709551616) (h : ∀ x ∈ l, Rds (expR f) x (encE f x)) (hd : ∀ x ∈ l, deepE f x = false) : Rds (argR f y) l (if l.length = 0 then [] else encList (encE f) l) := by
  by_cases h0 : l.length = 0
  · rw [if_pos h0]
    constructor
    · intro pre suf
      unfold argR argsR
      rw [if_pos (.inl (hy.2 (by omega)))]
      exact Prod.ext (List.eq_nil_of_length_eq_zero h0).symm rfl
    · intro pre c r hc hr
      exact absurd (List.append_eq_nil_iff.1 hc.symm).2 hr
  · rw [if_neg h0]
    have hL := lst_rds (R := expR f) (exp_sticky f) l hl h (fun x hx => encE_ne f x (hd x hx))
    have hno : ∀ p : Int, ¬ (bits .and .u8 y 8 = 0 ∨ ¬ (⟨p, 0, 0⟩ : R3).err = 0) := by
      rintro p (h1 | h1)
      · exact h0 (by have := hy.1 h1; omega)
      · exact h1 rfl
    constructor
    · intro pre suf
      have a := hL.whole pre suf
      unfold argR argsR
      rw [if_neg (hno _)]
      show ((lstR (expR f) _ _).1, if (lstR (expR f) _ _).1.length = 0 then failR 71 _ (lstR (expR f) _ _).2 else (lstR (expR f) _ _).2) = _
      rw [a]
      show (l, if l.length = 0 then _ else _) = _
      rw [if_neg h0]
    · intro pre c r hc hr
      have a := hL.cut pre c r hc hr
      unfold argR argsR
      rw [if_neg (hno _)]
      show (if (lstR (expR f) _ _).1.length = 0 then failR 71 _ (lstR (expR f) _ _).2 else (lstR (expR f) _ _).2 : R3).err = _ ∧ (if (lstR (expR f) _ _).1.length = 0 then failR 71 _ (lstR (expR f) _ _).2 else (lstR (expR f) _ _).2 : R3).bad = _
      split
      · rw [failR_err _ _ _ (by rw [a.1]; decide)]; exact a
      · exact a
theorem flat_mem {α : Type} {enc : α → List Int} : ∀ (l : List α), ∀ x ∈ l, (enc x).length ≤ (l.flatMap enc).length
  | y :: l, x, h => by
    rw [List.flatMap_cons, List.length_append]
    rcases List.mem_cons.1 h with rfl | h
    · omega
    · have := flat_mem (enc := enc) l x h
      omega
def restR (f : Nat) : List Int → R3 → (Int × Int × Int × List S80) × R3 :=
  bindR sayR (fun y => seqR (fun b s => givenR b y 1 s) (seqR (fun b s => givenR b y 2 s) (seqR (fun b s => givenR b y 4 s) (argR f y) Prod.mk) Prod.mk) Prod.mk) (fun _ p => p)
theorem rest_sticky (f : Nat) : Sticky (restR f) := say_sticky.bind (fun y => (given_sticky y 1).seq ((given_sticky y 2).seq ((given_sticky y 4).seq (arg_sticky f y) _) _) _) _
theorem exprR_succ (b : List Int) (f : Nat) (p : Int) : exprR b (f + 1) ⟨p, 0, 0⟩ = seqR intR (restR f) (fun o q => (⟨o, q.1, q.2.1, q.2.2.1, q.2.2.2⟩ : S80)) b ⟨p, 0, 0⟩ := by
  unfold exprR
  rw [if_pos rfl]
  rfl
theorem expr_rds : ∀ (f : Nat) (x : S80), okE f x → deepE f x = false → (encE f x).length < 18446744073709551616 → Rds (expR f) x (encE f x)
  | 0, x, ok, hd, hn => by cases hd
  | f + 1, x, ok, hd, hn => by
    obtain ⟨⟨o0, o1, o2, o3⟩, oa⟩ := ok
    obtain ⟨⟨y0, y1⟩, b1, b2, b4, b8⟩ := says_all x
    have hda : ∀ a ∈ x.f4, deepE f a = false := by
      intro a ha
      have hd : x.f4.any (deepE f) = false := hd
      exact (List.any_eq_false.1 hd a ha |> fun h => by simpa using h)
    have hlen : (x.f4.flatMap (encE f)).length < 18446744073709551616 := by
      by_cases h0 : x.f4.length = 0
      · rw [List.eq_nil_of_length_eq_zero h0]; show 0 < _; omega
      · unfold encE at hn
        rw [if_neg h0] at hn
        unfold encList at hn
        simp only [List.length_append] at hn
        omega
    have hl4 : x.f4.length < 18446744073709551616 := Nat.lt_of_le_of_lt (flat_len x.f4 (fun a ha => encE_ne f a (hda a ha))) hlen
    have hargs := arg_rds f (saysOf x) x.f4 b8 hl4 (fun a ha => expr_rds f a (oa a ha) (hda a ha) (Nat.lt_of_le_of_lt (flat_mem x.f4 a ha) hlen)) hda
    have hrest : Rds (restR f) (x.f1, x.f2, x.f3, x.f4) _ := (say_rds (saysOf x) y1).bind (R2 := fun y => seqR (fun b s => givenR b y 1 s) (seqR (fun b s => givenR b y 2 s) (seqR (fun b s => givenR b y 4 s) (argR f y) Prod.mk) Prod.mk) Prod.mk) ((given_rds _ 1 x.f1 b1 o1).seq ((given_rds _ 2 x.f2 b2 o2).seq ((given_rds _ 4 x.f3 b4 o3).seq hargs (arg_sticky f _) Prod.mk) ((given_sticky _ 4).seq (arg_sticky f _) _) Prod.mk) ((given_sticky _ 2).seq ((given_sticky _ 4).seq (arg_sticky f _) _) _) Prod.mk) (fun y => (given_sticky y 1).seq ((given_sticky y 2).seq ((given_sticky y 4).seq (arg_sticky f y) _) _) _) (fun _ p => p)
    have hall := (int_rds x.f0 o0).seq hrest (rest_sticky f) (fun o q => (⟨o, q.1, q.2.1, q.2.2.1, q.2.2.2⟩ : S80))
    have hen : encE (f + 1) x = encInt x.f0 ++ ([saysOf x] ++ (encOpt x.f1 ++ (encOpt x.f2 ++ (encOpt x.f3 ++ (if x.f4.length = 0 then [] else encList (encE f) x.f4))))) := by rw [encE]
    rw [hen]
    constructor
    · intro pre suf
      show exprR _ (f + 1) _ = _
      rw [exprR_succ]
      exact (hall.whole pre suf).trans (by cases x; rfl)
    · intro pre c r hc hr
      show (exprR _ (f + 1) _).2.err = _ ∧ (exprR _ (f + 1) _).2.bad = _
      rw [exprR_succ]
      exact hall.cut pre c r hc hr
end Go.Proofs.Ytpbdkkahodaloaa.L
end

section
set_option linter.unusedVariables false
set_option linter.unusedSimpArgs false
namespace Go.Proofs.Ytpbdkkahodaloaa.L
open Go.RowKit Go.Proofs.Ytpbdkkahodaloaa.U Go.Proofs.Ytpbdkkahodaloaa.V Go.Proofs.Ytpbdkkahodaloaa.PS Go.Proofs.YtpbdkkahodaloaaW.PrintWords Go.Proofs.YtpbdkkahodaloaaW.PrintMore
theorem seven_ne (n : Nat) : seven n ≠ [] := by unfold seven; split <;> simp
theorem text_of (x : ByteArray) (h : (encText x).length < (18446744073709551616 : Nat)) : Rds textR x (encText x) := text_rds x (by
  unfold encText at h
  rw [List.length_append, bytesOf_len] at h
  show x.size < (18446744073709551616 : Nat)
  omega)
theorem text_ne (x : ByteArray) : encText x ≠ [] := by
  unfold encText
  exact List.append_ne_nil_of_left_ne_nil (seven_ne _) _
theorem lst_of {α : Type} {R : List Int → R3 → α × R3} {enc : α → List Int} (hs : Sticky R) (l : List α) (hn : (encList enc l).length < (18446744073709551616 : Nat)) (h : ∀ x ∈ l, (enc x).length < (18446744073709551616 : Nat) → Rds R x (enc x)) (hne : ∀ x ∈ l, enc x ≠ []) : Rds (lstR R) l (encList enc l) := by
  have hf : (l.flatMap enc).length < (18446744073709551616 : Nat) := by
    unfold encList at hn
    rw [List.length_append] at hn
    omega
  exact lst_rds hs l (Nat.lt_of_le_of_lt (flat_len l hne) hf) (fun x hx => h x hx (Nat.lt_of_le_of_lt (flat_mem l x hx) hf)) hne
theorem int_ne (n : Int) : encInt n ≠ [] := seven_ne _
theorem band_sticky : Sticky bandR := int_sticky.seq int_sticky S74.mk
theorem band_rds (x : S74) (h : i64 x.f0 ∧ i64 x.f1) : Rds bandR x (encBand x) := (int_rds x.f0 h.1).seq (int_rds x.f1 h.2) int_sticky S74.mk
theorem band_ne (x : S74) : encBand x ≠ [] := List.append_ne_nil_of_left_ne_nil (int_ne _) _
theorem group_sticky : Sticky groupR := text_sticky.seq int_sticky S69.mk
theorem group_rds (x : S69) (ok : okGroup x) (hn : (encGroup x).length < (18446744073709551616 : Nat)) : Rds groupR x (encGroup x) := by
  unfold encGroup at hn
  rw [List.length_append] at hn
  exact (text_of x.f0 (by omega)).seq (int_rds x.f1 ok) int_sticky S69.mk
theorem group_ne (x : S69) : encGroup x ≠ [] := List.append_ne_nil_of_left_ne_nil (text_ne _) _
theorem options_sticky : Sticky optionsR := text_sticky.seq (lst_sticky textR) S97.mk
theorem options_rds (x : S97) (hn : (encOptions x).length < (18446744073709551616 : Nat)) : Rds optionsR x (encOptions x) := by
  unfold encOptions at hn
  rw [List.length_append] at hn
  exact (text_of x.f0 (by omega)).seq (lst_of text_sticky x.f1 (by omega) (fun y _ h => text_of y h) (fun y _ => text_ne y)) (lst_sticky textR) S97.mk
theorem options_ne (x : S97) : encOptions x ≠ [] := List.append_ne_nil_of_left_ne_nil (text_ne _) _
theorem table_sticky : Sticky tableR := text_sticky.seq (lst_sticky bandR) S72.mk
theorem table_rds (x : S72) (ok : okTable x) (hn : (encTable x).length < (18446744073709551616 : Nat)) : Rds tableR x (encTable x) := by
  unfold encTable at hn
  rw [List.length_append] at hn
  exact (text_of x.f0 (by omega)).seq (lst_of band_sticky x.f1 (by omega) (fun y hy _ => band_rds y (ok y hy)) (fun y _ => band_ne y)) (lst_sticky bandR) S72.mk
theorem table_ne (x : S72) : encTable x ≠ [] := List.append_ne_nil_of_left_ne_nil (text_ne _) _
theorem clause_sticky : Sticky clauseR := int_sticky.seq (flag_sticky.seq ((exp_sticky 64).seq (exp_sticky 64) Prod.mk) Prod.mk) (fun a p => S100.mk a p.1 p.2.1 p.2.2)
theorem clause_rds (x : S100) (ok : okClause x) (hd : deepClause x = false) (hn : (encClause x).length < (18446744073709551616 : Nat)) : Rds clauseR x (encClause x) := by
  unfold encClause at hn
  simp only [List.length_append] at hn
  obtain ⟨o0, o2, o3⟩ := ok
  obtain ⟨d2, d3⟩ : deepE 64 x.f2 = false ∧ deepE 64 x.f3 = false := by
    have hd : (deepE 64 x.f2 || deepE 64 x.f3) = false := hd
    simpa using hd
  exact (int_rds x.f0 o0).seq ((flag_rds x.f1).seq ((expr_rds 64 x.f2 o2 d2 (by omega)).seq (expr_rds 64 x.f3 o3 d3 (by omega)) (exp_sticky 64) Prod.mk) ((exp_sticky 64).seq (exp_sticky 64) _) Prod.mk) (flag_sticky.seq ((exp_sticky 64).seq (exp_sticky 64) _) _) (fun a p => S100.mk a p.1 p.2.1 p.2.2)
theorem clause_ne (x : S100) : encClause x ≠ [] := List.append_ne_nil_of_left_ne_nil (int_ne _) _
theorem line_sticky : Sticky lineR := text_sticky.seq (flag_sticky.seq (flag_sticky.seq (int_sticky.seq (int_sticky.seq (int_sticky.seq (lst_sticky clauseR) Prod.mk) Prod.mk) Prod.mk) Prod.mk) Prod.mk) (fun a p => S77.mk a p.1 p.2.1 p.2.2.1 p.2.2.2.1 p.2.2.2.2.1 p.2.2.2.2.2)
theorem line_rds (x : S77) (ok : okLine x) (hd : deepLine x = false) (hn : (encLine x).length < (18446744073709551616 : Nat)) : Rds lineR x (encLine x) := by
  unfold encLine at hn
  simp only [List.length_append] at hn
  obtain ⟨o3, o4, o5, o6⟩ := ok
  have hd : x.f6.any deepClause = false := hd
  have hc : ∀ y ∈ x.f6, deepClause y = false := fun y hy => by simpa using List.any_eq_false.1 hd y hy
  have h6 := lst_of clause_sticky x.f6 (by omega) (fun y hy h => clause_rds y (o6 y hy) (hc y hy) h) (fun y _ => clause_ne y)
  have s6 := lst_sticky clauseR
  exact (text_of x.f0 (by omega)).seq ((flag_rds x.f1).seq ((flag_rds x.f2).seq ((int_rds x.f3 o3).seq ((int_rds x.f4 o4).seq ((int_rds x.f5 o5).seq h6 s6 Prod.mk) (int_sticky.seq s6 _) Prod.mk) (int_sticky.seq (int_sticky.seq s6 _) _) Prod.mk) (int_sticky.seq (int_sticky.seq (int_sticky.seq s6 _) _) _) Prod.mk) (flag_sticky.seq (int_sticky.seq (int_sticky.seq (int_sticky.seq s6 _) _) _) _) Prod.mk) (flag_sticky.seq (flag_sticky.seq (int_sticky.seq (int_sticky.seq (int_sticky.seq s6 _) _) _) _) _) (fun a p => S77.mk a p.1 p.2.1 p.2.2.1 p.2.2.2.1 p.2.2.2.2.1 p.2.2.2.2.2)
theorem line_ne (x : S77) : encLine x ≠ [] := List.append_ne_nil_of_left_ne_nil (text_ne _) _
theorem check_sticky : Sticky checkR := text_sticky.seq (flag_sticky.seq (int_sticky.seq ((exp_sticky 64).seq text_sticky Prod.mk) Prod.mk) Prod.mk) (fun a p => S82.mk a p.1 p.2.1 p.2.2.1 p.2.2.2)
theorem check_rds (x : S82) (ok : okCheck x) (hd : deepCheck x = false) (hn : (encCheck x).length < (18446744073709551616 : Nat)) : Rds checkR x (encCheck x) := by
  unfold encCheck at hn
  simp only [List.length_append] at hn
  exact (text_of x.f0 (by omega)).seq ((flag_rds x.f1).seq ((int_rds x.f2 ok.1).seq ((expr_rds 64 x.f3 ok.2 hd (by omega)).seq (text_of x.f4 (by omega)) text_sticky Prod.mk) ((exp_sticky 64).seq text_sticky _) Prod.mk) (int_sticky.seq ((exp_sticky 64).seq text_sticky _) _) Prod.mk) (flag_sticky.seq (int_sticky.seq ((exp_sticky 64).seq text_sticky _) _) _) (fun a p => S82.mk a p.1 p.2.1 p.2.2.1 p.2.2.2)
theorem check_ne (x : S82) : encCheck x ≠ [] := List.append_ne_nil_of_left_ne_nil (text_ne _) _
end Go.Proofs.Ytpbdkkahodaloaa.L
end

section
set_option linter.unusedVariables false
set_option linter.unusedSimpArgs false
namespace Go.Proofs.Ytpbdkkahodaloaa.L
open Go.RowKit Go.Proofs.Ytpbdkkahodaloaa.U Go.Proofs.Ytpbdkkahodaloaa.V Go.Proofs.Ytpbdkkahodaloaa.PS Go.Proofs.YtpbdkkahodaloaaW.PrintWords Go.Proofs.YtpbdkkahodaloaaW.PrintMore
theorem pack_seq : packR = seqR textR (seqR intR (seqR (lstR optionsR) (seqR (lstR tableR) (seqR (lstR groupR) (seqR (lstR lineR) (lstR checkR) Prod.mk) Prod.mk) Prod.mk) Prod.mk) Prod.mk) (fun a p => Pk.mk a p.1 p.2.1 p.2.2.1 p.2.2.2.1 p.2.2.2.2.1 p.2.2.2.2.2) := by
  funext b s
  simp only [packR, seqR, lstR]
theorem pack_rds (p : Pk) (ok : okPk p) (hd : deepPk p = false) (hn : (encPk p).length < 18446744073709551616) : Rds packR p (encPk p) := by
  rw [pack_seq]
  unfold encPk at hn
  simp only [List.length_append] at hn
  obtain ⟨d1, d2⟩ : p.lines.any deepLine = false ∧ p.checks.any deepCheck = false := by
    have hd : (p.lines.any deepLine || p.checks.any deepCheck) = false := hd
    simpa using hd
  have hl : ∀ y ∈ p.lines, deepLine y = false := fun y hy => by simpa using List.any_eq_false.1 d1 y hy
  have hk : ∀ y ∈ p.checks, deepCheck y = false := fun y hy => by simpa using List.any_eq_false.1 d2 y hy
  have r2 := lst_of options_sticky p.options (by omega) (fun y hy h => options_rds y h) (fun y _ => options_ne y)
  have r3 := lst_of table_sticky p.tables (by omega) (fun y hy h => table_rds y (ok.tables y hy) h) (fun y _ => table_ne y)
  have r4 := lst_of group_sticky p.groups (by omega) (fun y hy h => group_rds y (ok.groups y hy) h) (fun y _ => group_ne y)
  have r5 := lst_of line_sticky p.lines (by omega) (fun y hy h => line_rds y (ok.lines y hy) (hl y hy) h) (fun y _ => line_ne y)
  have r6 := lst_of check_sticky p.checks (by omega) (fun y hy h => check_rds y (ok.checks y hy) (hk y hy) h) (fun y _ => check_ne y)
  have s6 := lst_sticky checkR
  have s5 : Sticky (seqR (lstR lineR) (lstR checkR) Prod.mk) := (lst_sticky lineR).seq s6 _
  have s4 : Sticky (seqR (lstR groupR) (seqR (lstR lineR) (lstR checkR) Prod.mk) Prod.mk) := (lst_sticky groupR).seq s5 _
  have s3 : Sticky (seqR (lstR tableR) (seqR (lstR groupR) (seqR (lstR lineR) (lstR checkR) Prod.mk) Prod.mk) Prod.mk) := (lst_sticky tableR).seq s4 _
  have s2 : Sticky (seqR (lstR optionsR) (seqR (lstR tableR) (seqR (lstR groupR) (seqR (lstR lineR) (lstR checkR) Prod.mk) Prod.mk) Prod.mk) Prod.mk) := (lst_sticky optionsR).seq s3 _
  exact (text_of p.name (by omega)).seq ((int_rds p.year ok.year).seq (r2.seq (r3.seq (r4.seq (r5.seq r6 s6 Prod.mk) s5 Prod.mk) s4 Prod.mk) s3 Prod.mk) s2 Prod.mk) (int_sticky.seq s2 _) (fun a p => Pk.mk a p.1 p.2.1 p.2.2.1 p.2.2.2.1 p.2.2.2.2.1 p.2.2.2.2.2)
theorem start_head (l : List Int) : startR (V.headBytes ++ l) = ⟨(V.headBytes.length : Nat), 0, 0⟩ := by
  have h4 : ¬ (((V.headBytes ++ l).length : Nat) : Int) < 4 := by rw [List.length_append]; show ¬ (((4 + l.length : Nat) : Int) < 4); omega
  have h5 : (V.headBytes ++ l).take 4 = V.headBytes := rfl
  unfold startR swR
  rw [if_neg h4, if_neg h4, if_pos h5]
  rfl
theorem sum4_byt (n : Int) : sum4 n = [byt4 n 0, byt4 n 1, byt4 n 2, byt4 n 3] := by
  unfold sum4
  simp only [IntKind.wrap_u8]
  rfl
theorem chk_ok (pre : List Int) (n : Int) (suf : List Int) (s : R3) : chkR (pre ++ ([byt4 n 0, byt4 n 1, byt4 n 2, byt4 n 3] ++ suf)) n (pre.length : Nat) 4 s = s := by
  have r0 : rd (pre ++ ([byt4 n 0, byt4 n 1, byt4 n 2, byt4 n 3] ++ suf)) ((pre.length : Nat) + ((0 : Nat) : Int)) = byt4 n 0 := by
    have := rd_at pre (byt4 n 0) ([byt4 n 1, byt4 n 2, byt4 n 3] ++ suf)
    simpa using this
  have r1 : rd (pre ++ ([byt4 n 0, byt4 n 1, byt4 n 2, byt4 n 3] ++ suf)) ((pre.length : Nat) + ((1 : Nat) : Int)) = byt4 n 1 := by
    have := rd_at (pre ++ [byt4 n 0]) (byt4 n 1) ([byt4 n 2, byt4 n 3] ++ suf)
    simpa using this
  have r2 : rd (pre ++ ([byt4 n 0, byt4 n 1, byt4 n 2, byt4 n 3] ++ suf)) ((pre.length : Nat) + ((2 : Nat) : Int)) = byt4 n 2 := by
    have := rd_at (pre ++ [byt4 n 0, byt4 n 1]) (byt4 n 2) ([byt4 n 3] ++ suf)
    simpa using this
  have r3 : rd (pre ++ ([byt4 n 0, byt4 n 1, byt4 n 2, byt4 n 3] ++ suf)) ((pre.length : Nat) + ((3 : Nat) : Int)) = byt4 n 3 := by
    have := rd_at (pre ++ [byt4 n 0, byt4 n 1, byt4 n 2]) (byt4 n 3) suf
    simpa using this
  unfold chkR
  rw [if_pos r3]
  unfold chkR
  rw [if_pos r2]
  unfold chkR
  rw [if_pos r1]
  unfold chkR
  rw [if_pos r0]
  rfl
theorem sum_ok (pre suf : List Int) : sumR (pre ++ (sum4 (sumI 2166136261 pre) ++ suf)) ⟨(pre.length : Nat), 0, 0⟩ = if suf = [] then ⟨(pre.length : Nat), 0, 0⟩ else ⟨(pre.length : Nat), 73, ((pre.length : Nat) : Int) + 4⟩ := by
  have hl : ((pre ++ (sum4 (sumI 2166136261 pre) ++ suf)).length : Nat) = pre.length + 4 + suf.length := by
    rw [List.length_append, List.length_append, Nat.add_assoc]; rfl
  unfold sumR
  show (if (((pre ++ (sum4 (sumI 2166136261 pre) ++ suf)).length : Nat) : Int) - (pre.length : Nat) < 4 then _ else if ((pre.length : Nat) : Int) + 4 < (((pre ++ (sum4 (sumI 2166136261 pre) ++ suf)).length : Nat) : Int) then failR 73 (((pre.length : Nat) : Int) + 4) (chkR _ (sumI 2166136261 ((pre ++ (sum4 (sumI 2166136261 pre) ++ suf)).take ((pre.length : Nat) : Int).toNat)) (pre.length : Nat) 4 _) else chkR _ (sumI 2166136261 ((pre ++ (sum4 (sumI 2166136261 pre) ++ suf)).take ((pre.length : Nat) : Int).toNat)) (pre.length : Nat) 4 _) = _
  rw [hl, if_neg (by omega), Int.toNat_natCast, List.take_left, sum4_byt, chk_ok]
  by_cases hs : suf = []
  · subst hs
    rw [if_neg (by simp), if_pos rfl]
  · have := List.length_pos_iff.2 hs
    rw [if_pos (by omega), if_neg hs]
    rfl
theorem get_put (p : Pk) (ok : okPk p) (hd : deepPk p = false) (suf : List Int) (hn : (bytesPk p ++ suf).length ≤ 131072) : getS (bytesPk p ++ suf) = (if suf = [] then (p, 0, 0) else (noPk, (((bytesPk p).length : Nat) : Int), 73) : Pk × Int × Int) := by
  have e : bytesPk p ++ suf = head ++ (encPk p ++ (sum4 (sumI 2166136261 (head ++ encPk p)) ++ suf)) := by
    unfold bytesPk
    simp only [List.append_assoc]
  have hlen : (encPk p).length < 18446744073709551616 := by
    rw [e] at hn
    simp only [List.length_append] at hn
    omega
  have hs := start_head (encPk p ++ (sum4 (sumI 2166136261 (head ++ encPk p)) ++ suf))
  have hp := (pack_rds p ok hd hlen).whole head (sum4 (sumI 2166136261 (head ++ encPk p)) ++ suf)
  have hu := sum_ok (head ++ encPk p) suf
  rw [List.length_append, List.append_assoc] at hu
  have hpk : (packR (bytesPk p ++ suf) (startR (bytesPk p ++ suf))) = (p, ⟨((head.length + (encPk p).length : Nat) : Int), 0, 0⟩) := by
    rw [e]
    exact (congrArg _ hs).trans hp
  unfold getS
  rw [if_neg (by omega), hpk]
  have hend : endR (bytesPk p ++ suf) ⟨((head.length + (encPk p).length : Nat) : Int), 0, 0⟩ = if suf = [] then ⟨((head.length + (encPk p).length : Nat) : Int), 0, 0⟩ else ⟨((head.length + (encPk p).length : Nat) : Int), 73, ((head.length + (encPk p).length : Nat) : Int) + 4⟩ := by
    unfold endR
    rw [if_pos rfl, e]
    exact hu
  show (if (endR (bytesPk p ++ suf) ⟨((head.length + (encPk p).length : Nat) : Int), 0, 0⟩).err = 0 then (p, 0, 0) else (noPk, (endR (bytesPk p ++ suf) ⟨((head.length + (encPk p).length : Nat) : Int), 0, 0⟩).bad, (endR (bytesPk p ++ suf) ⟨((head.length + (encPk p).length : Nat) : Int), 0, 0⟩).err)) = _
  rw [hend]
  by_cases h0 : suf = []
  · rw [if_pos h0, if_pos h0, if_pos rfl]
  · rw [if_neg h0, if_neg h0, if_neg (show ¬ (73 : Int) = 0 by decide)]
    have hb : (bytesPk p).length = head.length + (encPk p).length + 4 := by
      unfold bytesPk
      rw [List.length_append, List.length_append]; rfl
    rw [hb]
    rfl
end Go.Proofs.Ytpbdkkahodaloaa.L
end

section
set_option linter.unusedVariables false
set_option linter.unusedSimpArgs false
namespace Go.Proofs.Ytpbdkkahodaloaa.L
open Go.RowKit Go.Proofs.Ytpbdkkahodaloaa.U Go.Proofs.Ytpbdkkahodaloaa.V Go.Proofs.Ytpbdkkahodaloaa.PS Go.Proofs.YtpbdkkahodaloaaW.PrintWords Go.Proofs.YtpbdkkahodaloaaW.PrintMore
theorem by_nil : V.bytes [] := fun c h => by cases h
theorem by_app {a b : List Int} (ha : V.bytes a) (hb : V.bytes b) : V.bytes (a ++ b) := fun c h => (List.mem_append.1 h).elim (ha c) (hb c)
theorem by_one {x : Int} (h : 0 ≤ x ∧ x ≤ 255) : V.bytes [x] := fun c hc => by rw [List.mem_singleton.1 hc]; exact h
theorem by_flat {α : Type} {enc : α → List Int} (l : List α) (h : ∀ x ∈ l, V.bytes (enc x)) : V.bytes (l.flatMap enc) := fun c hc => by
  obtain ⟨x, hx, hc⟩ := List.mem_flatMap.1 hc
  exact h x hx c hc
theorem by_seven (n : Nat) : V.bytes (seven n) := by
  induction n using Nat.strongRecOn with
  | ind n ih =>
    unfold seven
    split
    · exact by_one (by omega)
    · exact by_app (a := [_]) (by_one (by omega)) (ih _ (by omega))
theorem by_text (s : ByteArray) : V.bytes (encText s) := by_app (by_seven _) (fun c hc => by
  unfold U.bytesOf at hc
  obtain ⟨x, _, rfl⟩ := List.mem_map.1 hc
  have := x.toNat_lt
  omega)
theorem by_int (n : Int) : V.bytes (encInt n) := by_seven _
theorem by_flag (b : Bool) : V.bytes (encFlag b) := by cases b <;> exact by_one (by decide)
theorem by_list {α : Type} {enc : α → List Int} (l : List α) (h : ∀ x ∈ l, V.bytes (enc x)) : V.bytes (encList enc l) := by_app (by_seven _) (by_flat l h)
theorem by_opt (n : Int) : V.bytes (encOpt n) := by
  unfold encOpt; split
  · exact by_nil
  · exact by_int n
theorem by_expr : ∀ (f : Nat) (x : S80), V.bytes (encE f x)
  | 0, x => by_nil
  | f + 1, x => by
    have h := (says_all x).1
    have hen : encE (f + 1) x = encInt x.f0 ++ ([saysOf x] ++ (encOpt x.f1 ++ (encOpt x.f2 ++ (encOpt x.f3 ++ (if x.f4.length = 0 then [] else encList (encE f) x.f4))))) := by rw [encE]
    rw [hen]
    refine by_app (by_int _) (by_app (by_one (by omega)) (by_app (by_opt _) (by_app (by_opt _) (by_app (by_opt _) ?_))))
    split
    · exact by_nil
    · exact by_list _ (fun y _ => by_expr f y)
theorem by_band (x : S74) : V.bytes (encBand x) := by_app (by_int _) (by_int _)
theorem by_clause (x : S100) : V.bytes (encClause x) := by_app (by_int _) (by_app (by_flag _) (by_app (by_expr _ _) (by_expr _ _)))
theorem by_pack (p : Pk) : V.bytes (encPk p) := by
  refine by_app (by_text _) (by_app (by_int _) (by_app (by_list _ fun x _ => ?_) (by_app (by_list _ fun x _ => ?_) (by_app (by_list _ fun x _ => ?_) (by_app (by_list _ fun x _ => ?_) (by_list _ fun x _ => ?_))))))
  · exact by_app (by_text _) (by_list _ fun y _ => by_text y)
  · exact by_app (by_text _) (by_list _ fun y _ => by_band y)
  · exact by_app (by_text _) (by_int _)
  · exact by_app (by_text _) (by_app (by_flag _) (by_app (by_flag _) (by_app (by_int _) (by_app (by_int _) (by_app (by_int _) (by_list _ fun y _ => by_clause y))))))
  · exact by_app (by_text _) (by_app (by_flag _) (by_app (by_int _) (by_app (by_expr _ _) (by_text _))))
theorem by_put (p : Pk) : V.bytes (bytesPk p) := by
  refine by_app (by_app ?_ (by_pack p)) ?_
  · intro c hc
    have : c = 76 ∨ c = 86 ∨ c = 89 ∨ c = 49 := by simpa [head] using hc
    omega
  · rw [sum4_byt]
    have h : ∀ (n : Int) (i : Nat), 0 ≤ byt4 n i ∧ byt4 n i ≤ 255 := by
      intro n i
      unfold byt4
      split <;> omega
    intro c hc
    simp only [List.mem_cons, List.not_mem_nil, or_false] at hc
    rcases hc with rfl | rfl | rfl | rfl <;> exact h _ _
end Go.Proofs.Ytpbdkkahodaloaa.L
end

section
set_option linter.unusedVariables false
set_option linter.unusedSimpArgs false
namespace Go.Proofs.Ytpbdkkahodaloaa.L
open Go.RowKit Go.Proofs.Ytpbdkkahodaloaa.U Go.Proofs.Ytpbdkkahodaloaa.V Go.Proofs.Ytpbdkkahodaloaa.PS Go.Proofs.YtpbdkkahodaloaaW.PrintWords Go.Proofs.YtpbdkkahodaloaaW.PrintMore
def Wrt {α : Type} (R : List Int → R3 → α × R3) (enc : α → List Int) (P : α → Prop) : Prop :=
  ∀ (pre rest : List Int), V.bytes (pre ++ rest) → (R (pre ++ rest) ⟨pre.length, 0, 0⟩).2.err = 0 →
    ∃ suf, rest = enc (R (pre ++ rest) ⟨pre.length, 0, 0⟩).1 ++ suf ∧ (R (pre ++ rest) ⟨pre.length, 0, 0⟩).2 = ⟨((pre ++ enc (R (pre ++ rest) ⟨pre.length, 0, 0⟩).1).length : Nat), 0, 0⟩ ∧ P (R (pre ++ rest) ⟨pre.length, 0, 0⟩).1
theorem Wrt.bind {α β γ : Type} {R1 : List Int → R3 → α × R3} {R2 : α → List Int → R3 → β × R3} {f : α → β → γ} {e1 : α → List Int} {e2 : α → β → List Int} {P1 : α → Prop} {P2 : α → β → Prop} {e : γ → List Int} {P : γ → Prop}
    (h1 : Wrt R1 e1 P1) (h2 : ∀ a, P1 a → Wrt (R2 a) (e2 a) (P2 a)) (hs : ∀ a, Sticky (R2 a)) (he : ∀ a b, P1 a → P2 a b → e (f a b) = e1 a ++ e2 a b) (hP : ∀ a b, P1 a → P2 a b → P (f a b)) : Wrt (bindR R1 R2 f) e P := by
  intro pre rest hb h0
  have h01 : (R1 (pre ++ rest) ⟨pre.length, 0, 0⟩).2.err = 0 := by
    by_cases h : (R1 (pre ++ rest) ⟨pre.length, 0, 0⟩).2.err = 0
    · exact h
    · have := (hs (R1 (pre ++ rest) ⟨pre.length, 0, 0⟩).1 (pre ++ rest) (R1 (pre ++ rest) ⟨pre.length, 0, 0⟩).2 h).1
      have h0 : (R2 (R1 (pre ++ rest) ⟨pre.length, 0, 0⟩).1 (pre ++ rest) (R1 (pre ++ rest) ⟨pre.length, 0, 0⟩).2).2.err = 0 := h0
      rw [this] at h0
      exact absurd h0 h
  obtain ⟨suf, hr, hst, hp1⟩ := h1 pre rest hb h01
  obtain ⟨a, ha⟩ : ∃ a, (R1 (pre ++ rest) ⟨pre.length, 0, 0⟩).1 = a := ⟨_, rfl⟩
  rw [ha] at hr hst hp1
  have hR1 : R1 (pre ++ rest) ⟨pre.length, 0, 0⟩ = (a, ⟨((pre ++ e1 a).length : Nat), 0, 0⟩) := Prod.ext ha hst
  have hpr : pre ++ rest = (pre ++ e1 a) ++ suf := by rw [hr, List.append_assoc]
  have h02 : (R2 a ((pre ++ e1 a) ++ suf) ⟨((pre ++ e1 a).length : Nat), 0, 0⟩).2.err = 0 := by
    have h0 : (R2 (R1 (pre ++ rest) ⟨pre.length, 0, 0⟩).1 (pre ++ rest) (R1 (pre ++ rest) ⟨pre.length, 0, 0⟩).2).2.err = 0 := h0
    rw [hR1] at h0
    rw [← hpr]
    exact h0
  obtain ⟨suf2, hr2, hst2, hp2⟩ := h2 a hp1 (pre ++ e1 a) suf (by rw [← hpr]; exact hb) h02
  obtain ⟨c, hc⟩ : ∃ c, (R2 a ((pre ++ e1 a) ++ suf) ⟨((pre ++ e1 a).length : Nat), 0, 0⟩).1 = c := ⟨_, rfl⟩
  rw [hc] at hr2 hst2 hp2
  have hB : bindR R1 R2 f (pre ++ rest) ⟨pre.length, 0, 0⟩ = (f a c, ⟨(((pre ++ e1 a) ++ e2 a c).length : Nat), 0, 0⟩) := by
    unfold bindR
    rw [hR1]
    show (f a (R2 a (pre ++ rest) ⟨((pre ++ e1 a).length : Nat), 0, 0⟩).1, (R2 a (pre ++ rest) ⟨((pre ++ e1 a).length : Nat), 0, 0⟩).2) = _
    rw [hpr, hc, hst2]
  rw [hB]
  refine ⟨suf2, ?_, ?_, hP a c hp1 hp2⟩
  · show rest = e (f a c) ++ suf2
    rw [he a c hp1 hp2, hr, hr2, List.append_assoc]
  · show (⟨(((pre ++ e1 a) ++ e2 a c).length : Nat), 0, 0⟩ : R3) = ⟨((pre ++ e (f a c)).length : Nat), 0, 0⟩
    rw [he a c hp1 hp2, List.append_assoc]
end Go.Proofs.Ytpbdkkahodaloaa.L
end

section
set_option linter.unusedVariables false
set_option linter.unusedSimpArgs false
namespace Go.Proofs.Ytpbdkkahodaloaa.L
open Go.RowKit Go.Proofs.Ytpbdkkahodaloaa.U Go.Proofs.Ytpbdkkahodaloaa.V Go.Proofs.Ytpbdkkahodaloaa.PS Go.Proofs.YtpbdkkahodaloaaW.PrintWords Go.Proofs.YtpbdkkahodaloaaW.PrintMore
theorem Wrt.map {α β : Type} {R : List Int → R3 → α × R3} {enc : α → List Int} {P : α → Prop} {g : α → β} {enc' : β → List Int} {P' : β → Prop} (h : Wrt R enc P) (he : ∀ x, P x → enc' (g x) = enc x) (hP : ∀ x, P x → P' (g x)) : Wrt (fun b s => (g (R b s).1, (R b s).2)) enc' P' := by
  intro pre rest hb h0
  obtain ⟨suf, hr, hst, hp⟩ := h pre rest hb h0
  refine ⟨suf, ?_, ?_, hP _ hp⟩
  · show rest = enc' (g (R (pre ++ rest) ⟨pre.length, 0, 0⟩).1) ++ suf
    rw [he _ hp]; exact hr
  · show (R (pre ++ rest) ⟨pre.length, 0, 0⟩).2 = ⟨((pre ++ enc' (g (R (pre ++ rest) ⟨pre.length, 0, 0⟩).1)).length : Nat), 0, 0⟩
    rw [he _ hp]; exact hst
end Go.Proofs.Ytpbdkkahodaloaa.L
end

section
set_option linter.unusedVariables false
set_option linter.unusedSimpArgs false
namespace Go.Proofs.Ytpbdkkahodaloaa.L
open Go.RowKit Go.Proofs.Ytpbdkkahodaloaa.U Go.Proofs.Ytpbdkkahodaloaa.V Go.Proofs.Ytpbdkkahodaloaa.PS Go.Proofs.YtpbdkkahodaloaaW.PrintWords Go.Proofs.YtpbdkkahodaloaaW.PrintMore
theorem Wrt.seq {α β γ : Type} {R1 : List Int → R3 → α × R3} {R2 : List Int → R3 → β × R3} {f : α → β → γ} {e1 : α → List Int} {e2 : β → List Int} {P1 : α → Prop} {P2 : β → Prop} {e : γ → List Int} {P : γ → Prop}
    (h1 : Wrt R1 e1 P1) (h2 : Wrt R2 e2 P2) (hs : Sticky R2) (he : ∀ a b, P1 a → P2 b → e (f a b) = e1 a ++ e2 b) (hP : ∀ a b, P1 a → P2 b → P (f a b)) : Wrt (seqR R1 R2 f) e P :=
  Wrt.bind (R2 := fun _ => R2) (e2 := fun _ b => e2 b) (P2 := fun _ b => P2 b) h1 (fun _ _ => h2) (fun _ => hs) he hP
end Go.Proofs.Ytpbdkkahodaloaa.L
end

section
set_option linter.unusedVariables false
set_option linter.unusedSimpArgs false
namespace Go.Proofs.Ytpbdkkahodaloaa.L
open Go.RowKit Go.Proofs.Ytpbdkkahodaloaa.U Go.Proofs.Ytpbdkkahodaloaa.V Go.Proofs.Ytpbdkkahodaloaa.PS Go.Proofs.YtpbdkkahodaloaaW.PrintWords Go.Proofs.YtpbdkkahodaloaaW.PrintMore
abbrev Q4 : Type := Int × Int × Int × List S80
end Go.Proofs.Ytpbdkkahodaloaa.L
end

section
namespace Go.Proofs.Ytpbdkkahodaloaa.T
open Go.RowKit Go.Proofs.Ytpbdkkahodaloaa.PS Go.Proofs.Ytpbdkkahodaloaa.U Go.Proofs.Ytpbdkkahodaloaa.V Go.Proofs.Ytpbdkkahodaloaa.L Go.Proofs.YtpbdkkahodaloaaW.PrintWords Go.Proofs.YtpbdkkahodaloaaW.PrintMore
set_option linter.unusedVariables false
set_option maxRecDepth 100000
theorem put_c {w : World} {u : Value} {p : Pk} (hp : Lies w u p) (ok : okPk p) (hl : (head ++ encPk p).length + 4 ≤ LIM) : Calls Try.prog 17 #[u] w fun e w' => ∃ A c, e = .returned (.tuple #[.slice A (putS p).1.length c, .int .i64 (putS p).2]) ∧ (putS p).1.length ≤ c ∧ Kd.C (Kd.int .u8) w' A (putS p).1.length (putS p).1 ∧ Below w.heap.size w w' := by
  obtain ⟨A2, c2, A3, c3, A4, c4, A5, c5, A6, c6, rfl, h2, h3, h4, h5, h6, _⟩ := hp
  refine (put_walk p A2 c2 A3 c3 A4 c4 A5 c5 A6 c6 w h2 h3 h4 h5 h6 ok hl).mono ?_
  rintro e w' ⟨v, rfl, hv, hb⟩
  obtain ⟨A, c, rfl, hc, hC⟩ := Kd.R_reads hv
  exact ⟨A, c, rfl, hc, hC, hb⟩
theorem get_c {w : World} {A : Option Addr} {c : Nat} {b : List Int} (hC : Kd.C (Kd.int .u8) w A b.length b) (hc : b.length ≤ c) (hb : V.bytes b) : Calls Try.prog 24 #[.slice A b.length c] w fun e w' => ∃ u, e = .returned (.tuple #[u, .int .i64 (getS b).2.1, .int .i64 (getS b).2.2]) ∧ Lies w' u (getS b).1 ∧ Below w.heap.size w w' := by
  refine (get_walk b A c w hC hc hb).mono ?_
  rintro e w' ⟨v2, v3, v4, v5, v6, rfl, h2, h3, h4, h5, h6, hb⟩
  obtain ⟨A2, c2, rfl, l2, g2⟩ := Kd.R_reads h2
  obtain ⟨A3, c3, rfl, l3, g3⟩ := Kd.R_reads h3
  obtain ⟨A4, c4, rfl, l4, g4⟩ := Kd.R_reads h4
  obtain ⟨A5, c5, rfl, l5, g5⟩ := Kd.R_reads h5
  obtain ⟨A6, c6, rfl, l6, g6⟩ := Kd.R_reads h6
  exact ⟨_, rfl, ⟨A2, c2, A3, c3, A4, c4, A5, c5, A6, c6, rfl, g2, g3, g4, g5, g6, l2, l3, l4, l5, l6⟩, hb⟩
theorem put_as {w : World} {u : Value} {p : Pk} {ys : List Int} {er : Int} {n : Nat} (h : putS p = (ys, er)) (hn : ys.length = n) (hp : Lies w u p) (ok : okPk p) (hl : (head ++ encPk p).length + 4 ≤ LIM) : Calls Try.prog 17 #[u] w fun e w' => ∃ A c, e = .returned (.tuple #[.slice A n c, .int .i64 er]) ∧ n ≤ c ∧ Kd.C (Kd.int .u8) w' A n ys ∧ Below w.heap.size w w' := by
  have k := put_c hp ok hl
  rw [h] at k
  subst hn
  exact k
theorem get_as {w : World} {A : Option Addr} {n c : Nat} {b : List Int} {p : Pk} {at_ er : Int} (h : getS b = (p, at_, er)) (hn : b.length = n) (hC : Kd.C (Kd.int .u8) w A n b) (hc : n ≤ c) (hb : V.bytes b) : Calls Try.prog 24 #[.slice A n c] w fun e w' => ∃ A2 c2 A3 c3 A4 c4 A5 c5 A6 c6, e = .returned (.tuple #[.agg #[.string p.name, .int .i64 p.year, .slice A2 p.options.length c2, .slice A3 p.tables.length c3, .slice A4 p.groups.length c4, .slice A5 p.lines.length c5, .slice A6 p.checks.length c6], .int .i64 at_, .int .i64 er]) ∧
    Lies w' (.agg #[.string p.name, .int .i64 p.year, .slice A2 p.options.length c2, .slice A3 p.tables.length c3, .slice A4 p.groups.length c4, .slice A5 p.lines.length c5, .slice A6 p.checks.length c6]) p ∧ Below w.heap.size w w' := by
  subst hn
  refine (get_c hC hc hb).mono ?_
  rintro e w' ⟨u, rfl, hL, hB⟩
  rw [h] at hL ⊢
  have hL2 := hL
  obtain ⟨A2, c2, A3, c3, A4, c4, A5, c5, A6, c6, rfl, _⟩ := hL
  exact ⟨A2, c2, A3, c3, A4, c4, A5, c5, A6, c6, rfl, hL2, hB⟩
theorem get_no {w : World} {A : Option Addr} {n c : Nat} {b : List Int} {at_ er : Int} (h : getS b = (noPk, at_, er)) (hn : b.length = n) (hC : Kd.C (Kd.int .u8) w A n b) (hc : n ≤ c) (hb : V.bytes b) : Calls Try.prog 24 #[.slice A n c] w fun e w' => ∃ A2 c2 A3 c3 A4 c4 A5 c5 A6 c6, e = .returned (.tuple #[.agg #[.string ⟨#[]⟩, .int .i64 0, .slice A2 0 c2, .slice A3 0 c3, .slice A4 0 c4, .slice A5 0 c5, .slice A6 0 c6], .int .i64 at_, .int .i64 er]) ∧
    Lies w' (.agg #[.string ⟨#[]⟩, .int .i64 0, .slice A2 0 c2, .slice A3 0 c3, .slice A4 0 c4, .slice A5 0 c5, .slice A6 0 c6]) noPk ∧ Below w.heap.size w w' := get_as h hn hC hc hb
theorem num_c (n : Int) (w : World) : Calls Try.prog 18 #[.int .i64 n] w fun e w' => e = .returned (.int .i64 n) ∧ Drawn0 w w' := levylaw7_num.calls n n w rfl
theorem nums_text : ∀ {a b : List Int}, V.bytes a → V.bytes b → ((strOfNums a).toList == (strOfNums b).toList) = decide (a = b) := by
  intro a b ha hb
  have e1 : ∀ l : List Int, (strOfNums l).toList = l.map (fun n => UInt8.ofNat n.toNat) := fun l => (ByteArray.toList_eq _).trans rfl
  rw [e1, e1]
  have key : ∀ (a b : List Int), V.bytes a → V.bytes b → (a.map (fun n => UInt8.ofNat n.toNat) = b.map (fun n => UInt8.ofNat n.toNat) ↔ a = b) := by
    intro a
    induction a with
    | nil => intro b _ _; cases b <;> simp
    | cons x a ih =>
      intro b ha hb
      cases b with
      | nil => simp
      | cons y b =>
        have hx : 0 ≤ x ∧ x ≤ 255 := ha x (by simp)
        have hy : 0 ≤ y ∧ y ≤ 255 := hb y (by simp)
        rw [List.map_cons, List.map_cons, List.cons.injEq, List.cons.injEq, ih b (fun z hz => ha z (by simp [hz])) (fun z hz => hb z (by simp [hz]))]
        refine and_congr ?_ Iff.rfl
        constructor
        · intro h
          have := congrArg UInt8.toNat h
          simp only [UInt8.toNat_ofNat'] at this
          omega
        · rintro rfl; rfl
  by_cases h : a = b
  · subst h; simp
  · rw [decide_eq_false h]
    exact beq_eq_false_iff_ne.2 fun e => h ((key a b ha hb).1 e)
theorem same_bytes {w : World} {A B : Option Addr} {c d : Nat} {a b : List Int} (ha : Kd.C (Kd.int .u8) w A a.length a) (hc : a.length ≤ c) (hb : Kd.C (Kd.int .u8) w B b.length b) (hd : b.length ≤ d) (h1 : V.bytes a) (h2 : V.bytes b) :
    Calls Try.prog 19 #[.slice A a.length c, .slice B b.length d] w fun e w' => e = .returned (.bool (decide (a = b))) ∧ Drawn0 w w' :=
  levylaw7_same.calls A c a B d b (decide (a = b)) w ha hc hb hd (by unfold levylaw7_same.f; rw [nums_text h1 h2])
theorem okNo : okPk noPk := ⟨⟨by decide, by decide⟩, (fun _ h => by cases h), (fun _ h => by cases h), (fun _ h => by cases h), (fun _ h => by cases h)⟩
theorem lies_no (w : World) : Lies w (.agg #[.string ⟨#[]⟩, .int .i64 0, .slice none 0 0, .slice none 0 0, .slice none 0 0, .slice none 0 0, .slice none 0 0]) noPk :=
  ⟨none, 0, none, 0, none, 0, none, 0, none, 0, rfl, ⟨rfl, by decide, fun h => absurd h (by decide)⟩, ⟨rfl, by decide, fun h => absurd h (by decide)⟩, ⟨rfl, by decide, fun h => absurd h (by decide)⟩, ⟨rfl, by decide, fun h => absurd h (by decide)⟩, ⟨rfl, by decide, fun h => absurd h (by decide)⟩, by decide, by decide, by decide, by decide, by decide⟩
theorem encNo : encPk noPk = [0, 0, 0, 0, 0, 0, 0] := by
  have z : seven 0 = [0] := by rw [seven_low (by decide)]; rfl
  have e1 : encText (⟨#[]⟩ : ByteArray) = [0] := by unfold encText; rw [show (⟨#[]⟩ : ByteArray).size = 0 from rfl, z]; rfl
  have e2 : encInt 0 = [0] := by unfold encInt; rw [show zig 0 = 0 by decide, z]
  unfold encPk noPk
  simp only [e1, e2]
  unfold encList
  simp [z]
theorem bytesNo : bytesPk noPk = [76, 86, 89, 49, 0, 0, 0, 0, 0, 0, 0] ++ sum4 (sumI 2166136261 [76, 86, 89, 49, 0, 0, 0, 0, 0, 0, 0]) := by
  unfold bytesPk
  rw [encNo]; rfl
theorem lenNo : (bytesPk noPk).length = 15 := by rw [bytesNo, List.length_append]; rfl
theorem putNo : putS noPk = (bytesPk noPk, 0) := by
  unfold putS
  rw [if_neg]
  rw [lenNo]
  simp [deepPk, noPk]
theorem getNo : getS (bytesPk noPk) = (noPk, 0, 0) := by
  have h := get_put noPk okNo (by rfl) [] (by rw [List.append_nil, lenNo]; decide)
  rw [List.append_nil, if_pos rfl] at h
  exact h
theorem getOdd : getS [76, 86, 89, 49, 128, 0] = (noPk, 4, 71) := by kernel_rfl
end Go.Proofs.Ytpbdkkahodaloaa.T
end

section
namespace Go.Proofs.Ytpbdkkahodaloaa.T
open Go.RowKit Go.Proofs.Ytpbdkkahodaloaa.PS Go.Proofs.Ytpbdkkahodaloaa.U Go.Proofs.Ytpbdkkahodaloaa.V Go.Proofs.Ytpbdkkahodaloaa.L Go.Proofs.YtpbdkkahodaloaaW.PrintWords Go.Proofs.YtpbdkkahodaloaaW.PrintMore
set_option linter.unusedVariables false
set_option maxRecDepth 100000
def TruePost (w : World) (e : Ending) (w' : World) : Prop := e = .returned (.bool true) ∧ Below w.heap.size w w'
theorem lit_C (w : World) (cs : Array Value) (t : TypeId) (fr : Nat × Nat) (l : List Int) (h : cs.toList = nums .u8 l) (hl : l.length ≤ 9223372036854775807) : Kd.C (Kd.int .u8) (w.alloc (.cells cs t fr)) (some ⟨w.heap.size, 0, none⟩) l.length l := by
  refine ⟨rfl, hl, fun _ => ⟨_, rfl, fun j p hj => ⟨[.int .u8 p], rfl, rfl, fun i u hu => ?_⟩⟩⟩
  match i, hu with
  | 0, hu =>
    have hu : some (Value.int .u8 p) = some u := hu
    rw [← hu]
    show (w.alloc (.cells cs t fr)).cell? ((⟨w.heap.size, 0, none⟩ : Addr).add (j * 1 + 0)) = _
    rw [Nat.mul_one, Nat.add_zero]
    exact World.news_of_block (heap_alloc_new w _) j _ (by rw [h]; simp [nums, hj])
  | i + 1, hu => simp at hu
theorem cut_bytes {A : Option Addr} {n c : Nat} (m : Nat) (hm : m ≤ n) (hc : n ≤ c) : ∀ W, (Instr.slice 23 (.slice A n c) none (some (.int .i64 (m : Int))) none).run Try.prog W = .ok (.slice A m c) W := by
  obtain ⟨i0, hi0, hz0, hz1, hz2⟩ := info_parts U.info5'
  exact cut_to 23 5 .i64 Try.underlying23 hi0 A n c (m : Int) (by omega) (by omega) hc
def lit11 : List Int := [76, 86, 89, 49, 0, 0, 0, 0, 0, 0, 0]
theorem by_lit11 : V.bytes lit11 := by unfold V.bytes lit11; decide
def lit6 : List Int := [76, 86, 89, 49, 128, 0]
theorem by_lit6 : V.bytes lit6 := by unfold V.bytes lit6; decide
theorem c_lit11 {w : World} {A : Option Addr} {ys : List Int} (hC : Kd.C (Kd.int .u8) w A 15 ys) (hl : ys.length = 15) (ht : ys.take 11 = lit11) (o : Obj) : Kd.C (Kd.int .u8) (w.alloc o) A lit11.length lit11 := by
  have h := Kd.C_alloc (Kd.C_take (m := 11) (xs := ys) (by rw [hl]; exact hC) (by rw [hl]; omega)) o
  rwa [ht] at h
theorem c_lit6 (w : World) (o : Obj) : Kd.C (Kd.int .u8) ((w.alloc o).alloc (.cells #[.int .u8 76, .int .u8 86, .int .u8 89, .int .u8 49, .int .u8 128, .int .u8 0] 5)) (some ⟨w.heap.size + 1, 0, none⟩) lit6.length lit6 := by
  have h := lit_C (w.alloc o) #[.int .u8 76, .int .u8 86, .int .u8 89, .int .u8 49, .int .u8 128, .int .u8 0] 5 (0, 0) lit6 rfl (by decide)
  rwa [World.size_alloc] at h
theorem same_lit {w : World} {A B : Option Addr} {c d : Nat} (a : List Int) (ha : Kd.C (Kd.int .u8) w A a.length a) (hc : a.length ≤ c) (hb : Kd.C (Kd.int .u8) w B a.length a) (hd : a.length ≤ d) (h1 : V.bytes a) :
    Calls Try.prog 19 #[.slice A a.length c, .slice B a.length d] w fun e w' => e = .returned (.bool true) ∧ Drawn0 w w' := by
  have h := same_bytes ha hc hb hd h1 h1
  rwa [decide_eq_true rfl] at h
theorem cells7 {w : World} {g : Nat} {v0 v1 v2 v3 v4 v5 v6 : Value} {t : TypeId} (h : w.heap[g]? = some (.cells #[v0, v1, v2, v3, v4, v5, v6] t (0, 0))) :
    w.cell? ⟨g, 0, none⟩ = some v0 ∧ w.cell? ⟨g, 1, none⟩ = some v1 ∧ w.cell? ⟨g, 2, none⟩ = some v2 ∧ w.cell? ⟨g, 3, none⟩ = some v3 ∧ w.cell? ⟨g, 4, none⟩ = some v4 ∧ w.cell? ⟨g, 5, none⟩ = some v5 ∧ w.cell? ⟨g, 6, none⟩ = some v6 :=
  ⟨(blk_cell h 0).trans rfl, (blk_cell h 1).trans rfl, (blk_cell h 2).trans rfl, (blk_cell h 3).trans rfl, (blk_cell h 4).trans rfl, (blk_cell h 5).trans rfl, (blk_cell h 6).trans rfl⟩
structure Seen (w s : World) (gp gq : Nat) (cs ds : Array Value) (u v : Value) (p q : Pk) : Prop where
  below : Below w.heap.size w s
  bp : s.heap[gp]? = some (.cells cs 33 (0, 0))
  bq : s.heap[gq]? = some (.cells ds 33 (0, 0))
  lp : Lies s u p
  lq : Lies s v q
theorem Seen.next {w s s2 : World} {gp gq : Nat} {cs ds : Array Value} {u v : Value} {p q : Pk} (h : Seen w s gp gq cs ds u v p q) (hb : Below s.heap.size s s2) : Seen w s2 gp gq cs ds u v p q :=
  ⟨below_then h.below h.below.size hb, blk_below h.bp hb, blk_below h.bq hb, h.lp.below hb, h.lq.below hb⟩
set_option maxHeartbeats 8000000 in
theorem known_c (w : World) : Calls Try.prog 25 #[] w (TruePost w) := by
  obtain ⟨ys, hys⟩ : ∃ ys, ys = bytesPk noPk := ⟨_, rfl⟩
  have hp : putS noPk = (ys, 0) := by rw [putNo, hys]
  have hl : ys.length = 15 := by rw [hys, lenNo]
  have ht : ys.take 11 = [76, 86, 89, 49, 0, 0, 0, 0, 0, 0, 0] := by rw [hys, bytesNo]; rfl
  have hg : getS ys = (noPk, 0, 0) := by rw [hys, getNo]
  have hb : V.bytes ys := by rw [hys]; exact by_put noPk
  have HP := Aside0.mk hp
  have HL := Aside0.mk hl
  have HT := Aside0.mk ht
  have HG := Aside0.mk hg
  have HBY := Aside0.mk hb
  clear hys hp hl ht hg hb
  go_enter Try.func25, Try.ntmps25
  go_wp2_with fail
  with_reducible refine (put_c (lies_no _) okNo (by rw [encNo]; decide)).mono ?_
  rw [HP.out]
  rintro e w1 ⟨A, c, rfl, hc, hC, hb⟩
  have HB1 := Aside0.mk hb
  have HC1 := Aside0.mk hC
  have HCAP := Aside0.mk hc
  clear hb hC hc
  dsimp only at HC1 HCAP
  rw [HL.out] at HC1 HCAP
  dsimp only
  rw [HL.out]
  go_wp2_with fail
  with_reducible refine (num_c 0 w1).mono ?_
  rintro e w2 ⟨rfl, ⟨⟨n2, rfl⟩⟩⟩
  have HB2 := Aside0.mk (pw_below_drewN HB1.out n2)
  have HC2 := Aside0.mk (Kd.C_drewN HC1.out n2)
  generalize w1.drewN n2 = w2 at HB2 HC2 ⊢
  have hcut : ∀ W, (Instr.slice 23 (.slice A 15 c) none (some (.int .i64 11)) none).run Try.prog W = .ok (.slice A 11 c) W := cut_bytes (A := A) 11 (by omega) HCAP.out
  have hk := same_lit (w := w2.alloc (.cells #[.int .u8 76, .int .u8 86, .int .u8 89, .int .u8 49, .int .u8 0, .int .u8 0, .int .u8 0, .int .u8 0, .int .u8 0, .int .u8 0, .int .u8 0] 5)) (A := A) (B := some ⟨w2.heap.size, 0, none⟩) (c := c) (d := 11) lit11 (c_lit11 HC2.out HL.out HT.out _) (by have := HCAP.out; show 11 ≤ c; omega) (lit_C w2 _ 5 (0, 0) lit11 rfl (by decide)) (by decide) by_lit11
  have HK := Aside0.mk hk
  clear hk
  go_wp2_with fail
  refine HK.out.mono ?_
  rintro e w3 ⟨rfl, ⟨⟨n3, rfl⟩⟩⟩
  have HB3 := Aside0.mk (pw_below_drewN (below_alloc HB2.out (.cells #[.int .u8 76, .int .u8 86, .int .u8 89, .int .u8 49, .int .u8 0, .int .u8 0, .int .u8 0, .int .u8 0, .int .u8 0, .int .u8 0, .int .u8 0] 5)) n3)
  have HC3 := Aside0.mk (Kd.C_drewN (Kd.C_alloc HC2.out (.cells #[.int .u8 76, .int .u8 86, .int .u8 89, .int .u8 49, .int .u8 0, .int .u8 0, .int .u8 0, .int .u8 0, .int .u8 0, .int .u8 0, .int .u8 0] 5)) n3)
  clear HK hcut
  generalize World.drewN _ n3 = w3 at HB3 HC3 ⊢
  go_wp2_with fail
  refine (get_no HG.out HL.out HC3.out HCAP.out HBY.out).mono ?_
  rintro e w4 ⟨A2, c2, A3, c3, A4, c4, A5, c5, A6, c6, rfl, hL, hb⟩
  have HB4 := Aside0.mk (below_then HB3.out HB3.out.size hb)
  have HL4 := Aside0.mk hL
  clear hL hb
  have hk := get_no (w := (w4.alloc (.cells #[.string ⟨#[]⟩, .int .i64 0, .slice A2 0 c2, .slice A3 0 c3, .slice A4 0 c4, .slice A5 0 c5, .slice A6 0 c6] 33)).alloc (.cells #[.int .u8 76, .int .u8 86, .int .u8 89, .int .u8 49, .int .u8 128, .int .u8 0] 5)) (A := some ⟨w4.heap.size + 1, 0, none⟩) (n := 6) (c := 6) (b := lit6) getOdd rfl (c_lit6 _ _) (by decide) by_lit6
  have HK := Aside0.mk hk
  have BX := Aside0.mk (blk_alloc (blk_new w4 (.cells #[.string ⟨#[]⟩, .int .i64 0, .slice A2 0 c2, .slice A3 0 c3, .slice A4 0 c4, .slice A5 0 c5, .slice A6 0 c6] 33)) (.cells #[.int .u8 76, .int .u8 86, .int .u8 89, .int .u8 49, .int .u8 128, .int .u8 0] 5))
  clear hk
  go_wp2_with fail
  refine HK.out.mono ?_
  rintro e w5 ⟨B2, d2, B3, d3, B4, d4, B5, d5, B6, d6, rfl, hL, hb⟩
  have hb5 := below_then (below_alloc (below_alloc (Below.refl w4.heap.size w4) _) _) (by rw [World.size_alloc, World.size_alloc]; omega) hb
  have HB5 := Aside0.mk (below_then HB4.out HB4.out.size hb5)
  have HP5 := Aside0.mk (HL4.out.below hb5)
  have HQ5 := Aside0.mk hL
  have P5 := Aside0.mk (blk_below BX.out hb)
  clear HK BX hb hb5 hL HL4 HC3
  generalize w4.heap.size = gp at P5 ⊢
  obtain ⟨s, hs⟩ : ∃ s, s = World.alloc w5 (.cells #[.string ⟨#[]⟩, .int .i64 0, .slice B2 0 d2, .slice B3 0 d3, .slice B4 0 d4, .slice B5 0 d5, .slice B6 0 d6] 33) := ⟨_, rfl⟩
  have HS : Aside0 (Seen w s gp w5.heap.size #[.string ⟨#[]⟩, .int .i64 0, .slice A2 0 c2, .slice A3 0 c3, .slice A4 0 c4, .slice A5 0 c5, .slice A6 0 c6] #[.string ⟨#[]⟩, .int .i64 0, .slice B2 0 d2, .slice B3 0 d3, .slice B4 0 d4, .slice B5 0 d5, .slice B6 0 d6] (.agg #[.string ⟨#[]⟩, .int .i64 0, .slice A2 0 c2, .slice A3 0 c3, .slice A4 0 c4, .slice A5 0 c5, .slice A6 0 c6]) (.agg #[.string ⟨#[]⟩, .int .i64 0, .slice B2 0 d2, .slice B3 0 d3, .slice B4 0 d4, .slice B5 0 d5, .slice B6 0 d6]) noPk noPk) := ⟨by rw [hs]; exact ⟨below_alloc HB5.out _, blk_alloc P5.out _, blk_new w5 _, HP5.out.below (below_alloc (Below.refl _ _) _), HQ5.out.below (below_alloc (Below.refl _ _) _)⟩⟩
  go_wp2_with fail
  rw [← hs]
  clear hs
  clear HB5 HP5 HQ5 P5
  generalize w5.heap.size = gq at HS ⊢
  with_reducible refine (num_c 0 s).mono ?_
  rintro e s1 ⟨rfl, hd⟩
  have HS1 := Aside0.mk (HS.out.next hd.below)
  clear hd
  obtain ⟨p0, p1, p2, p3, p4, p5, p6⟩ := cells7 HS1.out.bp
  go_wp2_with fail
  with_reducible refine (pack_same s1 _ _ noPk noPk HS1.out.lp (lies_no _)).mono ?_
  rintro e s2 ⟨v, rfl, hv, hb⟩
  have HS2 := Aside0.mk (HS1.out.next hb)
  obtain rfl : v = true := hv.2 rfl
  clear hv hb p0 p1 p2 p3 p4 p5 p6
  go_wp2_with fail
  with_reducible refine (num_c 71 s2).mono ?_
  rintro e s3 ⟨rfl, hd⟩
  have HS3 := Aside0.mk (HS2.out.next hd.below)
  clear hd
  obtain ⟨p0, p1, p2, p3, p4, p5, p6⟩ := cells7 HS3.out.bq
  go_wp2_with fail
  with_reducible refine (pack_same s3 _ _ noPk noPk HS3.out.lq (lies_no _)).mono ?_
  rintro e s4 ⟨v, rfl, hv, hb⟩
  have HS4 := Aside0.mk (HS3.out.next hb)
  obtain rfl : v = true := hv.2 rfl
  clear hv hb p0 p1 p2 p3 p4 p5 p6
  go_wp2_with fail
  obtain ⟨k, hk⟩ := sum_any [] (by decide)
  refine (pack_Sum.calls k none 0 [] 2166136261 s4 ⟨rfl, by decide, fun h => absurd h (by decide)⟩ (by decide) hk).mono ?_
  rintro e s5 ⟨rfl, ⟨⟨nd, rfl⟩⟩⟩
  have HE := Aside0.mk (pw_below_drewN HS4.out.below nd)
  generalize s4.drewN nd = s5 at HE ⊢
  clear hk
  go_wp2_with fail
  go_ret
  exact ⟨rfl, HE.out⟩
end Go.Proofs.Ytpbdkkahodaloaa.T
end

section
namespace Go.Proofs.Ytpbdkkahodaloaa.T
open Go.RowKit Go.Proofs.Ytpbdkkahodaloaa.PS Go.Proofs.Ytpbdkkahodaloaa.U Go.Proofs.Ytpbdkkahodaloaa.V Go.Proofs.Ytpbdkkahodaloaa.L Go.Proofs.YtpbdkkahodaloaaW.PrintWords Go.Proofs.YtpbdkkahodaloaaW.PrintMore
set_option linter.unusedVariables false
set_option maxRecDepth 100000
structure One (w s : World) (gp : Nat) (cs : Array Value) (u : Value) (p : Pk) : Prop where
  below : Below w.heap.size w s
  bp : s.heap[gp]? = some (.cells cs 33 (0, 0))
  lp : Lies s u p
theorem One.next {w s s2 : World} {gp : Nat} {cs : Array Value} {u : Value} {p : Pk} (h : One w s gp cs u p) (hb : Below s.heap.size s s2) : One w s2 gp cs u p := ⟨below_then h.below h.below.size hb, blk_below h.bp hb, h.lp.below hb⟩
end Go.Proofs.Ytpbdkkahodaloaa.T
end

section
namespace Go.Proofs.Ytpbdkkahodaloaa.T
open Go.RowKit Go.Proofs.Ytpbdkkahodaloaa.PS Go.Proofs.Ytpbdkkahodaloaa.U Go.Proofs.Ytpbdkkahodaloaa.V Go.Proofs.Ytpbdkkahodaloaa.L Go.Proofs.YtpbdkkahodaloaaW.PrintWords Go.Proofs.YtpbdkkahodaloaaW.PrintMore
set_option linter.unusedVariables false
set_option maxRecDepth 100000
theorem put_cases (p : Pk) : putS p = ([], 72) ∨ (putS p = (bytesPk p, 0) ∧ deepPk p = false ∧ (bytesPk p).length ≤ 131072) := by
  unfold putS
  by_cases h : deepPk p = true ∨ 131072 < (bytesPk p).length
  · rw [if_pos h]; exact .inl rfl
  · rw [if_neg h]
    refine .inr ⟨rfl, ?_, ?_⟩
    · cases hd : deepPk p with
      | true => exact absurd (.inl hd) h
      | false => rfl
    · exact Nat.le_of_not_lt fun x => h (.inr x)
theorem One.new {w : World} {u : Value} {cs : Array Value} {p : Pk} (h : Lies w u p) (hu : u = .agg cs) : One w (w.alloc (.cells cs 33)) w.heap.size cs u p := ⟨below_alloc (Below.refl _ _) _, blk_new w _, h.below (below_alloc (Below.refl _ _) _)⟩
end Go.Proofs.Ytpbdkkahodaloaa.T
end

section
namespace Go.Proofs.Ytpbdkkahodaloaa.J
open Go.RowKit Go.Proofs.Ytpbdkkahodaloaa.PS Go.Proofs.Ytpbdkkahodaloaa.U Go.Proofs.Ytpbdkkahodaloaa.V Go.Proofs.Ytpbdkkahodaloaa.L Go.Proofs.Ytpbdkkahodaloaa.T Go.Proofs.YtpbdkkahodaloaaW.PrintWords Go.Proofs.YtpbdkkahodaloaaW.PrintMore
set_option linter.unusedVariables false
set_option maxRecDepth 100000
set_option maxHeartbeats 8000000 in
theorem law_fits (p : Pk) (u : Value) (w : World) (hp : Lies w u p) (ok : okPk p) : Calls Try.prog 11 #[u] w (TruePost w) := by
  have HL0 := hp
  obtain ⟨A2, c2, A3, c3, A4, c4, A5, c5, A6, c6, rfl, _⟩ := hp
  have HS0 := Aside0.mk (One.new HL0 rfl)
  have HOK := Aside0.mk ok
  clear HL0 ok
  rename_i hrest
  clear hrest
  go_enter Try.func11, Try.ntmps11
  go_wp2_with fail
  generalize World.alloc w _ = s at HS0 ⊢
  generalize w.heap.size = gp at HS0 ⊢
  with_reducible refine (known_c s).mono ?_
  rintro e s1 ⟨rfl, hb⟩
  have HS1 := Aside0.mk (HS0.out.next hb)
  clear hb HS0
  obtain ⟨p0, p1, p2, p3, p4, p5, p6⟩ := cells7 HS1.out.bp
  go_wp2_with fail
  with_reducible refine (small_c s1 _ p HS1.out.lp).mono ?_
  rintro e s2 ⟨v, rfl, hb⟩
  have HS2 := Aside0.mk (HS1.out.next hb)
  clear hb p0 p1 p2 p3 p4 p5 p6 HS1
  cases v with
  | false =>
    go_wp2_with fail
    go_ret
    exact ⟨rfl, HS2.out.below⟩
  | true =>
    obtain ⟨p0, p1, p2, p3, p4, p5, p6⟩ := cells7 HS2.out.bp
    go_wp2_with fail
    with_reducible refine (check_c s2 _ p HS2.out.lp HOK.out).mono ?_
    rintro e s3 ⟨x0, x1, x2, XA, xn, xc, v, rfl, hv, hb⟩
    have HS3 := Aside0.mk ((HS2.out.next hb).next (bel (w' := s3.alloc (.cells #[.int .i64 x0, .int .i64 x1, .int .i64 x2, .slice XA xn xc] 91))))
    have HV := Aside0.mk hv
    clear hb hv p0 p1 p2 p3 p4 p5 p6 HS2
    by_cases h0 : v = 0
    case neg =>
      go_wp2_with fail
      go_ret
      exact ⟨rfl, HS3.out.below⟩
    subst h0
    obtain ⟨hd, hln, h15⟩ := HV.out rfl
    have hP : putS p = (bytesPk p, 0) := by
      rcases put_cases p with h | ⟨h, _, _⟩
      · unfold putS at h
        rw [if_neg (by rintro (h | h); exact absurd (h.symm.trans hd) (by decide); omega)] at h
        exact absurd (congrArg Prod.snd h) (show ¬ (0 : Int) = 72 from by decide)
      · exact h
    obtain ⟨ys, hys⟩ : ∃ ys, bytesPk p = ys := ⟨_, rfl⟩
    rw [hys] at hP h15
    have HLIM := Aside0.mk (show (head ++ encPk p).length + 4 ≤ LIM from by
      unfold bytesPk at hln
      rw [List.length_append, show ∀ n, (sum4 n).length = 4 from fun _ => rfl] at hln
      unfold LIM
      omega)
    have HP := Aside0.mk hP
    have h16 : (15 : Int) < (ys.length : Int) := by omega
    obtain ⟨p0, p1, p2, p3, p4, p5, p6⟩ := cells7 HS3.out.bp
    clear HV hd hln hP hys
    go_wp2_with fail
    with_reducible refine (put_as HP.out rfl HS3.out.lp HOK.out HLIM.out).mono ?_
    rintro e s4 ⟨D, d, rfl, hdc, hD, hb⟩
    have HS4 := Aside0.mk (HS3.out.next hb)
    clear hb hD hdc p0 p1 p2 p3 p4 p5 p6 HS3
    go_wp2_with fail
    with_reducible refine (num_c 0 s4).mono ?_
    rintro e s5 ⟨rfl, hd⟩
    have HS5 := Aside0.mk (HS4.out.next hd.below)
    clear hd HS4
    go_wp2_with fail
    go_ret
    exact ⟨rfl, HS5.out.below⟩
end Go.Proofs.Ytpbdkkahodaloaa.J
end

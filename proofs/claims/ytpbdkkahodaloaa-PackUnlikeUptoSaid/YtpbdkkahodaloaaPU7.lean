-- Part 7 of the texts of the claim PU (wrote by programs: words of the kit's print.sh, printed functions; and my own texts; joined by wip/tools/pack.py).
import Derived.Test.YtpbdkkahodaloaaPU6
import Derived.Laws.BitsAllLaws

section
namespace Go.Proofs.Ytpbdkkahodaloaa.U
open Go.RowKit Go.Lib Go.Proofs.Ytpbdkkahodaloaa.PS Go.Proofs.YtpbdkkahodaloaaW.PrintWords Go.Proofs.YtpbdkkahodaloaaW.PrintMore
set_option linter.unusedVariables false
set_option maxRecDepth 100000
def seven (n : Nat) : List Int := if n < 128 then [(n : Int)] else ((n % 128 + 128 : Nat) : Int) :: seven (n / 128)
termination_by n
theorem seven_low {n : Nat} (h : n < 128) : seven n = [(n : Int)] := by rw [seven, if_pos h]
theorem seven_high {n : Nat} (h : ¬ n < 128) : seven n = ((n % 128 + 128 : Nat) : Int) :: seven (n / 128) := by rw [seven, if_neg h]
theorem seven_len : ∀ (k n : Nat), n < 128 ^ (k + 1) → (seven n).length ≤ k + 1
  | 0, n, h => by rw [seven_low (by omega)]; simp
  | k + 1, n, h => by
    by_cases hs : n < 128
    · rw [seven_low hs]; simp
    · rw [seven_high hs, List.length_cons]
      have := seven_len k (n / 128) (by rw [Nat.pow_succ] at h; omega)
      omega
theorem seven_ten {n : Nat} (h : n < 18446744073709551616) : (seven n).length ≤ 10 := seven_len 9 n (by rw [show (128 : Nat) ^ (9 + 1) = 1180591620717411303424 by decide]; omega)
theorem or128 (m : Nat) : bits BinOp.or IntKind.u8 ((m : Int) % 256) 128 = ((m % 128 + 128 : Nat) : Int) := by
  have h : ∀ x : Fin 256, bits BinOp.or IntKind.u8 ((x.val : Nat) : Int) 128 = ((x.val % 128 + 128 : Nat) : Int) := by decide +kernel
  have h2 := h ⟨m % 256, by omega⟩
  simp only at h2
  rw [show ((m : Int) % 256) = ((m % 256 : Nat) : Int) by omega, h2]
  omega
theorem one_new (w : World) (v : Int) (x : Int) (hx : v = x) (t : TypeId) : ∀ j u, (nums .u8 [x])[j]? = some u → (w.alloc (.cells #[.int .u8 v] t)).cell? ((⟨w.heap.size, 0, none⟩ : Addr).add j) = some u := by
  subst hx
  simpa [nums] using World.news_of_block (cs := #[Value.int .u8 v]) (t := t) (fr := (0, 0)) (heap_alloc_new w _)
structure NumR (w : World) (base : World) (g r : Nat) (xs : List Int) (d : Bool) (n : Nat) (m : Nat) (wr : World) (zs : List Int) (r1 : Nat) : Prop where
  is : Wr wr base g r1 (xs ++ zs) d
  kp : Kp g r w wr
  row : r1 = r ∨ w.heap.size ≤ r1
  all : zs ++ seven m = seven n
  lt : m < 18446744073709551616
def NumRel (w : World) (base : World) (g r : Nat) (xs : List Int) (d : Bool) (n : Nat) (v : Value) (wr : World) : Prop := ∃ m zs r1, v = .int .u64 (m : Nat) ∧ NumR w base g r xs d n m wr zs r1
theorem NumR.last {w : World} {base : World} {g r : Nat} {xs : List Int} {d : Bool} {n m : Nat} {wr w3 : World} {zs : List Int} {r1 r' q c : Nat} (h : NumR w base g r xs d n m wr zs r1) (hm : m < 128) (hg : Grew wr w3 base g r1 r' q c (xs ++ zs ++ [(m : Int)]) d) :
    WPost base g r (xs ++ seven n) d w (.returned (.tuple #[])) (w3.setCell ⟨g, 0, none⟩ (.slice (some ⟨r', 0, none⟩) q c)) := by
  refine ⟨rfl, r', ?_, h.kp.trans hg.kp h.row, ?_⟩
  · rw [← h.all, seven_low hm, ← List.append_assoc]; exact hg.wr
  · have := h.kp.size; have := h.row; have := hg.row; omega
theorem NumR.next {w : World} {base : World} {g r : Nat} {xs : List Int} {d : Bool} {n m : Nat} {wr w3 : World} {zs : List Int} {r1 r' q c : Nat} (h : NumR w base g r xs d n m wr zs r1) (hm : ¬ m < 128) (hg : Grew wr w3 base g r1 r' q c (xs ++ zs ++ [((m % 128 + 128 : Nat) : Int)]) d) :
    NumR w base g r xs d n (m / 128) (w3.setCell ⟨g, 0, none⟩ (.slice (some ⟨r', 0, none⟩) q c)) (zs ++ [((m % 128 + 128 : Nat) : Int)]) r' := by
  refine ⟨?_, h.kp.trans hg.kp h.row, ?_, ?_, ?_⟩
  · rw [← List.append_assoc]; exact hg.wr
  · have := h.kp.size; have := h.row; have := hg.row; omega
  · rw [← h.all, seven_high hm, List.append_assoc]; rfl
  · have := h.lt; omega
set_option maxHeartbeats 1000000 in
theorem number_calls (base : World) (g r : Nat) (xs : List Int) (d : Bool) (n : Nat) (w : World) (h : Wr w base g r xs d) (hn : n < 18446744073709551616) (hl : (xs ++ seven n).length ≤ LIM) :
    Calls Try.prog 113 #[.pointer (some ⟨g, 0, none⟩), .int .u64 n] w (WPost base g r (xs ++ seven n) d w) := by
  have H0 := Aside0.mk h
  have HN := Aside0.mk hn
  have HL := Aside0.mk hl
  clear h hn hl
  go_enter Try.func113, Try.ntmps113
  go_wp2
  go_loopw [1] (fun v wr => NumRel w base g r xs d n v wr) (fun v _ => (intOf v).toNat)
  case atStart => exact ⟨n, [], r, rfl, by simpa using H0.out, Kp.refl _ _ _, .inl rfl, by simp, HN.out⟩
  case round =>
    obtain ⟨m, zs, r1, rfl, hR⟩ := hrel
    have HM := Aside0.mk hR.lt
    obtain ⟨c0, hc0, hc1, hf0, hf1, ho⟩ := hR.is.open
    obtain ⟨q, hq⟩ : ∃ q, (xs ++ zs).length = q := ⟨_, rfl⟩
    rw [hq] at hc0 ho
    have HO := Aside0.mk ho
    have HR := Aside0.mk hR
    have HQ := Aside0.mk hq
    clear ho hR hq
    have HS := Aside0.mk (show q + 1 ≤ LIM from by
      have h1 := HL.out
      have h2 := congrArg List.length HR.out.all
      have h4 := HQ.out
      have h5 : 1 ≤ (seven m).length := by rw [seven]; split <;> simp
      rw [List.length_append] at h1 h2 h4
      omega)
    by_cases hm : m < 128
    · have hb : decide ((128 : Int) ≤ (m : Int)) = false := decide_eq_false (by omega)
      go_wp2_with (at_builtin; refine wpList_put rfl _ _ rfl HR.out.is (below_alloc (Below.refl _ _) _) HQ.out HO.out rfl ⟨wr.heap.size, 0, none⟩ 1 1 [(m : Int)] rfl rfl (one_new _ _ _ rfl _) HS.out (by decide) ?_; intro r' c' w3 HG; obtain ⟨u0, hu0⟩ := HG.c0; have hz0 := HG.f0)
      go_end0
      exact NumR.last HR.out hm HG
    · have hb : decide ((128 : Int) ≤ (m : Int)) = true := decide_eq_true (by omega)
      go_wp2_with (at_builtin; refine wpList_put rfl _ _ rfl HR.out.is (below_alloc (Below.refl _ _) _) HQ.out HO.out rfl ⟨wr.heap.size, 0, none⟩ 1 1 [((m % 128 + 128 : Nat) : Int)] rfl rfl (one_new _ _ _ (or128 m) _) HS.out (by decide) ?_; intro r' c' w3 HG; obtain ⟨u0, hu0⟩ := HG.c0; have hz0 := HG.f0)
      go_roundw
      case rel => exact ⟨m / 128, _, r', by simp, HR.out.next hm HG⟩
      case measure => simp [intOf]; omega
def zig (n : Int) : Nat := if 0 ≤ n then (2 * n).toNat else (-2 * n - 1).toNat
theorem zig_lt {n : Int} (h0 : -9223372036854775808 ≤ n) (h1 : n ≤ 9223372036854775807) : zig n < 18446744073709551616 := by unfold zig; split <;> omega
theorem nat_flip (x : Nat) (h : x < 18446744073709551616) : x ^^^ 18446744073709551615 = 18446744073709551615 - x := by
  have h1 : (BitVec.ofNat 64 x ^^^ BitVec.allOnes 64) = ~~~ (BitVec.ofNat 64 x) := BitVec.xor_allOnes
  have h2 := congrArg BitVec.toNat h1
  rw [BitVec.toNat_xor, BitVec.toNat_not, BitVec.toNat_ofNat, BitVec.toNat_allOnes, Nat.mod_eq_of_lt (by omega)] at h2
  exact h2
theorem zig_is (n : Int) (h0 : -9223372036854775808 ≤ n) (h1 : n ≤ 9223372036854775807) : bits BinOp.xor IntKind.u64 (IntKind.u64.wrap (IntKind.u64.wrap n * 2)) (IntKind.u64.wrap (n / 9223372036854775808)) = ((zig n : Nat) : Int) := by
  by_cases hn : 0 ≤ n
  · rw [show n / 9223372036854775808 = 0 by omega, show IntKind.u64.wrap n = n by rw [IntKind.wrap_u64]; omega, show IntKind.u64.wrap (n * 2) = ((zig n : Nat) : Int) by rw [IntKind.wrap_u64]; unfold zig; rw [if_pos hn]; omega, show IntKind.u64.wrap 0 = ((0 : Nat) : Int) by rfl, u64_xor_nat _ _ (zig_lt h0 h1) (by omega)]
    simp
  · have e : IntKind.u64.wrap (IntKind.u64.wrap n * 2) = (((2 * n + 18446744073709551616).toNat : Nat) : Int) := by rw [IntKind.wrap_u64, IntKind.wrap_u64]; omega
    rw [show n / 9223372036854775808 = -1 by omega, e, show IntKind.u64.wrap (-1) = ((18446744073709551615 : Nat) : Int) by rfl, u64_xor_nat _ _ (by omega) (by omega), nat_flip _ (by omega)]
    unfold zig
    rw [if_neg hn]
    omega
set_option maxHeartbeats 1000000 in
theorem int_calls (base : World) (g r : Nat) (xs : List Int) (d : Bool) (n : Int) (w : World) (h : Wr w base g r xs d) (h0 : -9223372036854775808 ≤ n) (h1 : n ≤ 9223372036854775807) (hl : (xs ++ seven (zig n)).length ≤ LIM) :
    Calls Try.prog 43 #[.pointer (some ⟨g, 0, none⟩), .int .i64 n] w (WPost base g r (xs ++ seven (zig n)) d w) := by
  have H0 := Aside0.mk h
  have HL := Aside0.mk hl
  have HZ := Aside0.mk (zig_is n h0 h1)
  have HT := Aside0.mk (zig_lt h0 h1)
  clear h hl
  go_enter Try.func43, Try.ntmps43
  go_wp2_with fail
  go_at_call 113
  rw [HZ.out]
  refine (number_calls base g r xs d (zig n) w H0.out HT.out HL.out).mono ?_
  rintro e w' ⟨rfl, HP⟩
  go_wp2_with fail
  go_end0
  exact ⟨rfl, HP⟩
set_option maxHeartbeats 1000000 in
theorem text_calls (base : World) (g r : Nat) (xs : List Int) (d : Bool) (s : ByteArray) (w : World) (h : Wr w base g r xs d) (hl : (xs ++ (seven s.size ++ bytesOf s)).length ≤ LIM) :
    Calls Try.prog 42 #[.pointer (some ⟨g, 0, none⟩), .string s] w (WPost base g r (xs ++ (seven s.size ++ bytesOf s)) d w) := by
  have H0 := Aside0.mk h
  have HL := Aside0.mk hl
  have HT := Aside0.mk (show s.size < 18446744073709551616 by rw [List.length_append, List.length_append, bytesOf_length] at hl; unfold LIM at hl; omega)
  have HV := Aside0.mk (show IntKind.u64.wrap (s.size : Int) = ((s.size : Nat) : Int) by rw [IntKind.wrap_u64]; have := HT.out; omega)
  clear h hl
  go_enter Try.func42, Try.ntmps42
  go_wp2_with fail
  go_at_call 113
  rw [HV.out]
  refine (number_calls base g r xs d s.size w H0.out HT.out (by have := HL.out; simp only [List.length_append] at this ⊢; omega)).mono ?_
  rintro e w1 ⟨rfl, r1, hw1, hk1, hr1⟩
  obtain ⟨c0, hc0, hc1, hf0, hf1, ho⟩ := hw1.open
  obtain ⟨q, hq⟩ : ∃ q, (xs ++ seven s.size).length = q := ⟨_, rfl⟩
  rw [hq] at hc0 ho
  have HO := Aside0.mk ho
  have HQ := Aside0.mk hq
  have H1 := Aside0.mk hw1
  have HK := Aside0.mk hk1
  have HR := Aside0.mk hr1
  have HS := Aside0.mk (show q + s.size ≤ LIM by rw [← hq]; have := HL.out; simp only [List.length_append, bytesOf_length] at this ⊢; omega)
  clear ho hq hw1 hk1 hr1
  go_wp2_with (at_builtin; refine wpList_putText rfl _ _ rfl H1.out (Below.refl _ _) HQ.out HO.out rfl s rfl HS.out ?_; intro r' c' w3 HG; obtain ⟨u0, hu0⟩ := HG.c0; have hz0 := HG.f0)
  go_end0
  refine ⟨rfl, r', ?_, HK.out.trans HG.kp HR.out, ?_⟩
  · rw [← List.append_assoc]; exact HG.wr
  · have := HK.out.size; have := HR.out; have := HG.row; omega
set_option maxHeartbeats 1000000 in
theorem flag_calls (base : World) (g r : Nat) (xs : List Int) (d : Bool) (b : Bool) (w : World) (h : Wr w base g r xs d) (hl : (xs ++ [if b = true then (1 : Int) else 0]).length ≤ LIM) :
    Calls Try.prog 114 #[.pointer (some ⟨g, 0, none⟩), .bool b] w (WPost base g r (xs ++ [if b = true then 1 else 0]) d w) := by
  obtain ⟨c0, hc0, hc1, hf0, hf1, ho⟩ := h.open
  obtain ⟨q, hq⟩ : ∃ q, xs.length = q := ⟨_, rfl⟩
  rw [hq] at hc0 ho
  have HO := Aside0.mk ho
  have HQ := Aside0.mk hq
  have H0 := Aside0.mk h
  have HS := Aside0.mk (show q + 1 ≤ LIM by rw [← hq]; simpa using hl)
  clear h hl ho hq
  cases b with
  | true =>
    go_enter Try.func114, Try.ntmps114
    go_wp2_with (at_builtin; refine wpList_put rfl _ _ rfl H0.out (below_alloc (Below.refl _ _) _) HQ.out HO.out rfl ⟨w.heap.size, 0, none⟩ 1 1 [1] rfl rfl (one_new _ _ _ rfl _) HS.out (by decide) ?_; intro r' c' w3 HG; obtain ⟨u0, hu0⟩ := HG.c0; have hz0 := HG.f0)
    exact bodyPost_ret (results_none rfl _ _ _) rfl HG.post
  | false =>
    go_enter Try.func114, Try.ntmps114
    go_wp2_with (at_builtin; refine wpList_put rfl _ _ rfl H0.out (below_alloc (Below.refl _ _) _) HQ.out HO.out rfl ⟨w.heap.size, 0, none⟩ 1 1 [0] rfl rfl (one_new _ _ _ rfl _) HS.out (by decide) ?_; intro r' c' w3 HG; obtain ⟨u0, hu0⟩ := HG.c0; have hz0 := HG.f0)
    go_end0
    exact HG.post
end Go.Proofs.Ytpbdkkahodaloaa.U
end

section
namespace Go.Proofs.Ytpbdkkahodaloaa.U
open Go.RowKit Go.Lib Go.Proofs.Ytpbdkkahodaloaa.PS Go.Proofs.YtpbdkkahodaloaaW.PrintWords Go.Proofs.YtpbdkkahodaloaaW.PrintMore
set_option linter.unusedVariables false
structure St (base : World) (g r : Nat) (w : World) (xs : List Int) (d : Bool) (r' : Nat) (w' : World) : Prop where
  wr : Wr w' base g r' xs d
  kp : Kp g r w w'
  row : r' = r ∨ w.heap.size ≤ r'
theorem St.refl {base : World} {g r : Nat} {w : World} {xs : List Int} {d : Bool} (h : Wr w base g r xs d) : St base g r w xs d r w := ⟨h, Kp.refl _ _ _, .inl rfl⟩
theorem St.alloc {base : World} {g r r' : Nat} {w w' : World} {xs : List Int} {d : Bool} (h : St base g r w xs d r' w') (o : Obj) : St base g r w xs d r' (w'.alloc o) := ⟨h.wr.alloc o, h.kp.alloc o, h.row⟩
theorem St.drewN {base : World} {g r r' : Nat} {w w' : World} {xs : List Int} {d : Bool} (h : St base g r w xs d r' w') (n : Nat) : St base g r w xs d r' (w'.drewN n) := ⟨h.wr.drewN n, h.kp.drewN n, h.row⟩
theorem St.trans {base : World} {g r r1 r2 : Nat} {w w1 w2 : World} {xs ys : List Int} {d d2 : Bool} (h : St base g r w xs d r1 w1) (k : St base g r1 w1 ys d2 r2 w2) : St base g r w ys d2 r2 w2 :=
  ⟨k.wr, h.kp.trans k.kp h.row, by have := h.kp.size; have := h.row; have := k.row; omega⟩
theorem WPost.st {base : World} {g r : Nat} {xs : List Int} {d : Bool} {w w' : World} {e : Ending} (h : WPost base g r xs d w e w') : ∃ r', St base g r w xs d r' w' := by
  obtain ⟨_, r', h1, h2, h3⟩ := h
  exact ⟨r', h1, h2, h3⟩
theorem Grew.st {base : World} {g r r' n c : Nat} {w w3 : World} {xs : List Int} {d : Bool} (h : Grew w w3 base g r r' n c xs d) : St base g r w xs d r' (w3.setCell ⟨g, 0, none⟩ (.slice (some ⟨r', 0, none⟩) n c)) := ⟨h.wr, h.kp, h.row⟩
theorem WPost.ret {base : World} {g r : Nat} {xs : List Int} {d : Bool} {w w' : World} {e : Ending} (h : WPost base g r xs d w e w') : e = .returned (.tuple #[]) := h.1
theorem St.post {base : World} {g r r' : Nat} {xs ys : List Int} {d d2 : Bool} {w w' : World} (h : St base g r w xs d r' w') (he : xs = ys) (hd : d = d2) : WPost base g r ys d2 w (.returned (.tuple #[])) w' := by
  subst he; subst hd
  exact ⟨rfl, r', h.wr, h.kp, h.row⟩
structure Cap (w : World) (g r b : Nat) (cs : Array Value) (t : TypeId) : Prop where
  blk : w.heap[b]? = some (.cells cs t (0, 0))
  ne : b ≠ g
  row : b ≠ r
theorem Cap.st {base : World} {g r r' b : Nat} {w w' : World} {cs : Array Value} {t : TypeId} {xs : List Int} {d : Bool} (h : Cap w g r b cs t) (s : St base g r w xs d r' w') : Cap w' g r' b cs t :=
  ⟨s.kp.blk h.blk h.ne h.row, h.ne, by have := blk_lt h.blk; have := h.row; have := s.row; omega⟩
theorem Cap.alloc {g r b : Nat} {w : World} {cs : Array Value} {t : TypeId} (h : Cap w g r b cs t) (o : Obj) : Cap (w.alloc o) g r b cs t := ⟨blk_alloc h.blk o, h.ne, h.row⟩
theorem Cap.new {base : World} {g r : Nat} {w : World} {xs : List Int} {d : Bool} (h : Wr w base g r xs d) (cs : Array Value) (t : TypeId) : Cap (w.alloc (.cells cs t)) g r w.heap.size cs t :=
  ⟨blk_new w _, by have := h.lt; omega, by have := h.lt; omega⟩
theorem Cap.cell {g r b : Nat} {w : World} {cs : Array Value} {t : TypeId} (h : Cap w g r b cs t) (i : Nat) {v : Value} (hv : cs[i]? = some v) : w.cell? ⟨b, i, none⟩ = some v := (blk_cell h.blk i).trans hv
theorem Cap.lt {g r b : Nat} {w : World} {cs : Array Value} {t : TypeId} (h : Cap w g r b cs t) : b < w.heap.size := blk_lt h.blk
theorem lim_left {xs a b : List Int} (h : (xs ++ (a ++ b)).length ≤ LIM) : (xs ++ a).length ≤ LIM := by simp only [List.length_append] at h ⊢; omega
theorem lim_right {xs a b : List Int} (h : (xs ++ (a ++ b)).length ≤ LIM) : ((xs ++ a) ++ b).length ≤ LIM := by rw [List.append_assoc]; exact h
def encText (s : ByteArray) : List Int := seven s.size ++ bytesOf s
def encInt (n : Int) : List Int := seven (zig n)
def encFlag (b : Bool) : List Int := [if b = true then 1 else 0]
def encList {α : Type} (enc : α → List Int) (l : List α) : List Int := seven l.length ++ l.flatMap enc
def encBand (b : S74) : List Int := encInt b.f0 ++ encInt b.f1
def encOptions (o : S97) : List Int := encText o.f0 ++ encList encText o.f1
def encTable (t : S72) : List Int := encText t.f0 ++ encList encBand t.f1
def encGroup (g : S69) : List Int := encText g.f0 ++ encInt g.f1
structure i64 (n : Int) : Prop where
  lo : -9223372036854775808 ≤ n
  hi : n ≤ 9223372036854775807
theorem St.next {base : World} {g r r1 : Nat} {w w1 w2 : World} {xs ys : List Int} {d d2 : Bool} {e : Ending} (h : St base g r w xs d r1 w1) (hp : WPost base g r1 ys d2 w1 e w2) : e = .returned (.tuple #[]) ∧ ∃ r2, St base g r1 w1 ys d2 r2 w2 ∧ St base g r w ys d2 r2 w2 := by
  obtain ⟨r2, k⟩ := hp.st
  exact ⟨hp.1, r2, k, h.trans k⟩
theorem int_c {base : World} {g r r1 : Nat} {w0 : World} {xs : List Int} {d : Bool} {w : World} (h : St base g r w0 xs d r1 w) {n : Int} (hn : i64 n) (hl : (xs ++ encInt n).length ≤ LIM) :
    Calls Try.prog 43 #[.pointer (some ⟨g, 0, none⟩), .int .i64 n] w (WPost base g r1 (xs ++ encInt n) d w) := int_calls base g r1 xs d n w h.wr hn.lo hn.hi hl
theorem text_c {base : World} {g r r1 : Nat} {w0 : World} {xs : List Int} {d : Bool} {w : World} (h : St base g r w0 xs d r1 w) {s : ByteArray} (hl : (xs ++ encText s).length ≤ LIM) :
    Calls Try.prog 42 #[.pointer (some ⟨g, 0, none⟩), .string s] w (WPost base g r1 (xs ++ encText s) d w) := text_calls base g r1 xs d s w h.wr hl
theorem flag_c {base : World} {g r r1 : Nat} {w0 : World} {xs : List Int} {d : Bool} {w : World} (h : St base g r w0 xs d r1 w) {b : Bool} (hl : (xs ++ encFlag b).length ≤ LIM) :
    Calls Try.prog 114 #[.pointer (some ⟨g, 0, none⟩), .bool b] w (WPost base g r1 (xs ++ encFlag b) d w) := flag_calls base g r1 xs d b w h.wr hl
structure PutR {α : Type} (base : World) (g r : Nat) (w : World) (I : Nat → World → Prop) (enc : α → List Int) (dp : α → Bool) (l : List α) (xs : List Int) (d : Bool) (i : Nat) (r1 : Nat) (wr : World) : Prop where
  le : i ≤ l.length
  st : St base g r w (xs ++ seven l.length ++ (l.take i).flatMap enc) (d || (l.take i).any dp) r1 wr
  inv : I r1 wr
theorem PutR.next {α : Type} {base : World} {g r : Nat} {w : World} {I : Nat → World → Prop} {enc : α → List Int} {dp : α → Bool} {l : List α} {xs : List Int} {d : Bool} {i r1 r2 : Nat} {wr w2 : World} {x : α} (h : PutR base g r w I enc dp l xs d i r1 wr)
    (hx : l[i]? = some x) (s : St base g r1 wr ((xs ++ seven l.length ++ (l.take i).flatMap enc) ++ enc x) ((d || (l.take i).any dp) || dp x) r2 w2) (hI : I r2 w2) : PutR base g r w I enc dp l xs d (i + 1) r2 w2 := by
  have hl := (List.getElem?_eq_some_iff.1 hx).1
  have ht : l.take (i + 1) = l.take i ++ [x] := by rw [List.take_add_one, hx]; rfl
  refine ⟨hl, ?_, hI⟩
  have k := h.st.trans s
  rw [ht, List.flatMap_append, List.any_append]
  simpa [Bool.or_assoc, List.append_assoc] using k
theorem PutR.room {α : Type} {base : World} {g r : Nat} {w : World} {I : Nat → World → Prop} {enc : α → List Int} {dp : α → Bool} {l : List α} {xs : List Int} {d : Bool} {i r1 : Nat} {wr : World} {x : α} (h : PutR base g r w I enc dp l xs d i r1 wr)
    (hx : l[i]? = some x) (hl : (xs ++ encList enc l).length ≤ LIM) : ((xs ++ seven l.length ++ (l.take i).flatMap enc) ++ enc x).length ≤ LIM := by
  have e : l.flatMap enc = (l.take i).flatMap enc ++ (enc x ++ (l.drop (i + 1)).flatMap enc) := by
    conv => lhs; rw [← List.take_append_drop i l]
    rw [List.flatMap_append]
    congr 1
    have hl := (List.getElem?_eq_some_iff.1 hx).1
    rw [List.drop_eq_getElem_cons hl, List.flatMap_cons]
    congr 2
    exact (List.getElem?_eq_some_iff.1 hx).2
  unfold encList at hl
  rw [e] at hl
  simp only [List.length_append] at hl ⊢
  omega
theorem PutR.done {α : Type} {base : World} {g r : Nat} {w : World} {I : Nat → World → Prop} {enc : α → List Int} {dp : α → Bool} {l : List α} {xs : List Int} {d : Bool} {i r1 : Nat} {wr : World} (h : PutR base g r w I enc dp l xs d i r1 wr) (hi : ¬ i < l.length) :
    WPost base g r (xs ++ encList enc l) (d || l.any dp) w (.returned (.tuple #[])) wr := by
  refine h.st.post ?_ ?_
  · rw [List.take_of_length_le (by omega), List.append_assoc]; rfl
  · rw [List.take_of_length_le (by omega)]
end Go.Proofs.Ytpbdkkahodaloaa.U
end

section
namespace Go.Proofs.Ytpbdkkahodaloaa.U
open Go.RowKit Go.Lib Go.Proofs.Ytpbdkkahodaloaa.PS Go.Proofs.YtpbdkkahodaloaaW.PrintWords Go.Proofs.YtpbdkkahodaloaaW.PrintMore
set_option linter.unusedVariables false
set_option maxRecDepth 100000
theorem old_cell {w w1 : World} (h : Below w.heap.size w w1) {a : Addr} {v : Value} (hc : w.cell? a = some v) : w1.cell? a = some v := (h.cell (World.block_lt_of_cell? w a hc)).trans hc
set_option maxHeartbeats 2000000 in
theorem put49 (base : World) (g r n c : Nat) (A : Option Addr) (l : List S74) (xs : List Int) (d : Bool) (w : World) (I : Nat → World → Prop) (dp : S74 → Bool) (enc : S74 → List Int) (hn : l.length = n) (hC : Kd.C k74 base A n l) (h : Wr w base g r xs d) (hI0 : I r w)
    (hI : ∀ (r1 : Nat) (w1 : World) (r2 : Nat) (w2 : World) (ys : List Int) (d2 : Bool), I r1 w1 → St base g r1 w1 ys d2 r2 w2 → I r2 w2) (hl : (xs ++ encList enc l).length ≤ LIM)
    (item : ∀ (x : S74) (ys : List Int) (d1 : Bool) (r1 : Nat) (w1 : World), x ∈ l → Wr w1 base g r1 ys d1 → I r1 w1 → (ys ++ enc x).length ≤ LIM → Calls Try.prog 50 #[.pointer (some ⟨g, 0, none⟩), .agg #[.int .i64 x.f0, .int .i64 x.f1]] w1 (WPost base g r1 (ys ++ enc x) (d1 || dp x) w1)) :
    Calls Try.prog 49 #[.pointer (some ⟨g, 0, none⟩), .slice A n c, .func (.func 50) #[.pointer (some ⟨g, 0, none⟩)] #[]] w (WPost base g r (xs ++ encList enc l) (d || l.any dp) w) := by
  have HN := Aside0.mk hn
  have HC := Aside0.mk hC
  have H0 := Aside0.mk h
  have HI0 := Aside0.mk hI0
  have HI := Aside0.mk hI
  have HL := Aside0.mk hl
  have HIT := Aside0.mk item
  have hmax : n ≤ 9223372036854775807 := hC.2.1
  clear hn hC h hI0 hI hl item
  go_enter Try.func49, Try.ntmps49
  go_wp2_with fail
  go_at_call 113
  with_reducible refine (number_calls base g r xs d n w H0.out (by omega) (by have := HL.out; unfold encList at this; rw [HN.out] at this; exact lim_left this)).mono ?_
  intro e w1 hp
  obtain ⟨rfl, r1, hs, ht⟩ := (St.refl H0.out).next hp
  have H1 := Aside0.mk ht
  have HI1 := Aside0.mk (HI.out r w r1 w1 _ _ HI0.out ht)
  clear hp hs ht
  go_wp2_with fail
  go_loopw [15] (fun v wr => ∃ (i r2 : Nat), v = .int .i64 (i : Nat) ∧ Aside0 (PutR base g r w I enc dp l xs d i r2 wr)) (fun v _ => n - (intOf v).toNat)
  case atStart => exact ⟨0, r1, rfl, ⟨⟨Nat.zero_le _, by rw [HN.out]; simpa using H1.out, HI1.out⟩⟩⟩
  case round =>
    obtain ⟨i, r2, rfl, HP⟩ := hrel
    by_cases hlt : i < n
    · obtain ⟨x, hx⟩ : ∃ x, l[i]? = some x := ⟨_, List.getElem?_eq_getElem (by rw [HN.out]; exact hlt)⟩
      have HX := Aside0.mk hx
      obtain ⟨ad, hA, e0, e1⟩ := at_T74 HC.out (i : Int) (by omega) (by omega)
      have hrd : rd_T74 l (i : Int) = x := by unfold rd_T74; rw [Int.toNat_natCast, List.getD_eq_getElem?_getD, hx]; rfl
      rw [hrd] at e0 e1
      rw [Int.toNat_natCast] at e0 e1
      clear hrd
      replace e0 := old_cell HP.out.st.wr.dat e0
      replace e1 := old_cell HP.out.st.wr.dat e1
      subst hA
      have hb : decide ((i : Int) < (n : Int)) = true := decide_eq_true (by omega)
      clear hx
      go_wp2_with fail
      go_at_call 50
      with_reducible refine (HIT.out x _ _ r2 (wr.alloc (.cells #[.int .i64 x.f0, .int .i64 x.f1] 74)) (List.mem_of_getElem? HX.out) ((St.refl HP.out.st.wr).alloc (.cells #[.int .i64 x.f0, .int .i64 x.f1] 74)).wr (HI.out r2 wr r2 _ _ _ HP.out.inv ((St.refl HP.out.st.wr).alloc (.cells #[.int .i64 x.f0, .int .i64 x.f1] 74))) (HP.out.room HX.out HL.out)).mono ?_
      intro e w2 hp
      obtain ⟨rfl, r3, hs, ht⟩ := St.next ((St.refl HP.out.st.wr).alloc (.cells #[.int .i64 x.f0, .int .i64 x.f1] 74)) hp
      have HS := Aside0.mk ht
      clear hp hs ht
      go_wp2_with fail
      go_roundw
      case rel => exact ⟨i + 1, r3, by go_num, ⟨HP.out.next HX.out HS.out (HI.out r2 wr r3 _ _ _ HP.out.inv HS.out)⟩⟩
      case measure => simp [intOf]; omega
    · have hb : decide ((i : Int) < (n : Int)) = false := decide_eq_false (by omega)
      go_wp2_with fail
      go_end0
      exact HP.out.done (by rw [HN.out]; exact hlt)
set_option maxHeartbeats 2000000 in
theorem put46 (base : World) (g r n c : Nat) (A : Option Addr) (l : List ByteArray) (xs : List Int) (d : Bool) (w : World) (I : Nat → World → Prop) (dp : ByteArray → Bool) (enc : ByteArray → List Int) (hn : l.length = n) (hC : Kd.C Kd.string base A n l) (h : Wr w base g r xs d) (hI0 : I r w)
    (hI : ∀ (r1 : Nat) (w1 : World) (r2 : Nat) (w2 : World) (ys : List Int) (d2 : Bool), I r1 w1 → St base g r1 w1 ys d2 r2 w2 → I r2 w2) (hl : (xs ++ encList enc l).length ≤ LIM)
    (item : ∀ (x : ByteArray) (ys : List Int) (d1 : Bool) (r1 : Nat) (w1 : World), x ∈ l → Wr w1 base g r1 ys d1 → I r1 w1 → (ys ++ enc x).length ≤ LIM → Calls Try.prog 42 #[.pointer (some ⟨g, 0, none⟩), .string x] w1 (WPost base g r1 (ys ++ enc x) (d1 || dp x) w1)) :
    Calls Try.prog 46 #[.pointer (some ⟨g, 0, none⟩), .slice A n c, .func (.func 42) #[.pointer (some ⟨g, 0, none⟩)] #[]] w (WPost base g r (xs ++ encList enc l) (d || l.any dp) w) := by
  have HN := Aside0.mk hn
  have HC := Aside0.mk hC
  have H0 := Aside0.mk h
  have HI0 := Aside0.mk hI0
  have HI := Aside0.mk hI
  have HL := Aside0.mk hl
  have HIT := Aside0.mk item
  have hmax : n ≤ 9223372036854775807 := hC.2.1
  clear hn hC h hI0 hI hl item
  go_enter Try.func46, Try.ntmps46
  go_wp2_with fail
  go_at_call 113
  with_reducible refine (number_calls base g r xs d n w H0.out (by omega) (by have := HL.out; unfold encList at this; rw [HN.out] at this; exact lim_left this)).mono ?_
  intro e w1 hp
  obtain ⟨rfl, r1, hs, ht⟩ := (St.refl H0.out).next hp
  have H1 := Aside0.mk ht
  have HI1 := Aside0.mk (HI.out r w r1 w1 _ _ HI0.out ht)
  clear hp hs ht
  go_wp2_with fail
  go_loopw [15] (fun v wr => ∃ (i r2 : Nat), v = .int .i64 (i : Nat) ∧ Aside0 (PutR base g r w I enc dp l xs d i r2 wr)) (fun v _ => n - (intOf v).toNat)
  case atStart => exact ⟨0, r1, rfl, ⟨⟨Nat.zero_le _, by rw [HN.out]; simpa using H1.out, HI1.out⟩⟩⟩
  case round =>
    obtain ⟨i, r2, rfl, HP⟩ := hrel
    by_cases hlt : i < n
    · obtain ⟨x, hx⟩ : ∃ x, l[i]? = some x := ⟨_, List.getElem?_eq_getElem (by rw [HN.out]; exact hlt)⟩
      have HX := Aside0.mk hx
      obtain ⟨ad, cs, hA, hlen, hK, hc⟩ := Kd.C_get HC.out (⟨#[]⟩ : ByteArray) (i : Int) (by omega) (by omega)
      have hK : cs = [.string (l.getD (i : Int).toNat ⟨#[]⟩)] := hK
      rw [Int.toNat_natCast, List.getD_eq_getElem?_getD, hx] at hK
      rw [Int.toNat_natCast] at hc
      simp only [Option.getD_some] at hK
      subst hK
      have e0 : base.cell? (ad.add i) = some (.string x) := by have := hc 0 _ rfl; rwa [show Kd.string.sz = 1 from rfl, Nat.mul_one, Nat.add_zero] at this
      clear hK hc hlen
      replace e0 := old_cell HP.out.st.wr.dat e0
      subst hA
      have hb : decide ((i : Int) < (n : Int)) = true := decide_eq_true (by omega)
      clear hx
      go_wp2_with fail
      go_at_call 42
      with_reducible refine (HIT.out x _ _ r2 wr (List.mem_of_getElem? HX.out) (St.refl HP.out.st.wr).wr (HI.out r2 wr r2 _ _ _ HP.out.inv (St.refl HP.out.st.wr)) (HP.out.room HX.out HL.out)).mono ?_
      intro e w2 hp
      obtain ⟨rfl, r3, hs, ht⟩ := St.next (St.refl HP.out.st.wr) hp
      have HS := Aside0.mk ht
      clear hp hs ht
      go_wp2_with fail
      go_roundw
      case rel => exact ⟨i + 1, r3, by go_num, ⟨HP.out.next HX.out HS.out (HI.out r2 wr r3 _ _ _ HP.out.inv HS.out)⟩⟩
      case measure => simp [intOf]; omega
    · have hb : decide ((i : Int) < (n : Int)) = false := decide_eq_false (by omega)
      go_wp2_with fail
      go_end0
      exact HP.out.done (by rw [HN.out]; exact hlt)
set_option maxHeartbeats 2000000 in
theorem put44 (base : World) (g r n c : Nat) (cw : Nat) (A : Option Addr) (l : List S97) (xs : List Int) (d : Bool) (w : World) (I : Nat → World → Prop) (dp : S97 → Bool) (enc : S97 → List Int) (hn : l.length = n) (hC : Kd.C k97 base A n l) (h : Wr w base g r xs d) (hI0 : I r w)
    (hI : ∀ (r1 : Nat) (w1 : World) (r2 : Nat) (w2 : World) (ys : List Int) (d2 : Bool), I r1 w1 → St base g r1 w1 ys d2 r2 w2 → I r2 w2) (hl : (xs ++ encList enc l).length ≤ LIM)
    (item : ∀ (x : S97) (ys : List Int) (d1 : Bool) (r1 : Nat) (w1 : World) (A1 : Option Addr) (c1 : Nat), x ∈ l → x.f1.length ≤ c1 → Kd.string.C base A1 x.f1.length x.f1 → Wr w1 base g r1 ys d1 → I r1 w1 → (ys ++ enc x).length ≤ LIM → Calls Try.prog 45 #[.agg #[.string x.f0, .slice A1 x.f1.length c1], .pointer (some ⟨cw, 0, none⟩)] w1 (WPost base g r1 (ys ++ enc x) (d1 || dp x) w1)) :
    Calls Try.prog 44 #[.pointer (some ⟨g, 0, none⟩), .slice A n c, .func (.func 45) #[] #[.pointer (some ⟨cw, 0, none⟩)]] w (WPost base g r (xs ++ encList enc l) (d || l.any dp) w) := by
  have HN := Aside0.mk hn
  have HC := Aside0.mk hC
  have H0 := Aside0.mk h
  have HI0 := Aside0.mk hI0
  have HI := Aside0.mk hI
  have HL := Aside0.mk hl
  have HIT := Aside0.mk item
  have hmax : n ≤ 9223372036854775807 := hC.2.1
  clear hn hC h hI0 hI hl item
  go_enter Try.func44, Try.ntmps44
  go_wp2_with fail
  go_at_call 113
  with_reducible refine (number_calls base g r xs d n w H0.out (by omega) (by have := HL.out; unfold encList at this; rw [HN.out] at this; exact lim_left this)).mono ?_
  intro e w1 hp
  obtain ⟨rfl, r1, hs, ht⟩ := (St.refl H0.out).next hp
  have H1 := Aside0.mk ht
  have HI1 := Aside0.mk (HI.out r w r1 w1 _ _ HI0.out ht)
  clear hp hs ht
  go_wp2_with fail
  go_loopw [15] (fun v wr => ∃ (i r2 : Nat), v = .int .i64 (i : Nat) ∧ Aside0 (PutR base g r w I enc dp l xs d i r2 wr)) (fun v _ => n - (intOf v).toNat)
  case atStart => exact ⟨0, r1, rfl, ⟨⟨Nat.zero_le _, by rw [HN.out]; simpa using H1.out, HI1.out⟩⟩⟩
  case round =>
    obtain ⟨i, r2, rfl, HP⟩ := hrel
    by_cases hlt : i < n
    · obtain ⟨x, hx⟩ : ∃ x, l[i]? = some x := ⟨_, List.getElem?_eq_getElem (by rw [HN.out]; exact hlt)⟩
      have HX := Aside0.mk hx
      obtain ⟨ad, A1, c1, hA, e0, e1, l1, g1⟩ := at_T97 HC.out (i : Int) (by omega) (by omega)
      have hrd : rd_T97 l (i : Int) = x := by unfold rd_T97; rw [Int.toNat_natCast, List.getD_eq_getElem?_getD, hx]; rfl
      rw [hrd] at e0 e1 l1 g1
      rw [Int.toNat_natCast] at e0 e1
      clear hrd
      replace e0 := old_cell HP.out.st.wr.dat e0
      replace e1 := old_cell HP.out.st.wr.dat e1
      have L1 := Aside0.mk l1
      have G1 := Aside0.mk g1
      clear l1 g1
      subst hA
      have hb : decide ((i : Int) < (n : Int)) = true := decide_eq_true (by omega)
      clear hx
      go_wp2_with fail
      go_at_call 45
      with_reducible refine (HIT.out x _ _ r2 (wr.alloc (.cells #[.string x.f0, .slice A1 x.f1.length c1] 97)) A1 c1 (List.mem_of_getElem? HX.out) L1.out G1.out ((St.refl HP.out.st.wr).alloc (.cells #[.string x.f0, .slice A1 x.f1.length c1] 97)).wr (HI.out r2 wr r2 _ _ _ HP.out.inv ((St.refl HP.out.st.wr).alloc (.cells #[.string x.f0, .slice A1 x.f1.length c1] 97))) (HP.out.room HX.out HL.out)).mono ?_
      intro e w2 hp
      obtain ⟨rfl, r3, hs, ht⟩ := St.next ((St.refl HP.out.st.wr).alloc (.cells #[.string x.f0, .slice A1 x.f1.length c1] 97)) hp
      have HS := Aside0.mk ht
      clear hp hs ht
      go_wp2_with fail
      go_roundw
      case rel => exact ⟨i + 1, r3, by go_num, ⟨HP.out.next HX.out HS.out (HI.out r2 wr r3 _ _ _ HP.out.inv HS.out)⟩⟩
      case measure => simp [intOf]; omega
    · have hb : decide ((i : Int) < (n : Int)) = false := decide_eq_false (by omega)
      go_wp2_with fail
      go_end0
      exact HP.out.done (by rw [HN.out]; exact hlt)
set_option maxHeartbeats 2000000 in
theorem put47 (base : World) (g r n c : Nat) (cw : Nat) (A : Option Addr) (l : List S72) (xs : List Int) (d : Bool) (w : World) (I : Nat → World → Prop) (dp : S72 → Bool) (enc : S72 → List Int) (hn : l.length = n) (hC : Kd.C k72 base A n l) (h : Wr w base g r xs d) (hI0 : I r w)
    (hI : ∀ (r1 : Nat) (w1 : World) (r2 : Nat) (w2 : World) (ys : List Int) (d2 : Bool), I r1 w1 → St base g r1 w1 ys d2 r2 w2 → I r2 w2) (hl : (xs ++ encList enc l).length ≤ LIM)
    (item : ∀ (x : S72) (ys : List Int) (d1 : Bool) (r1 : Nat) (w1 : World) (A1 : Option Addr) (c1 : Nat), x ∈ l → x.f1.length ≤ c1 → k74.C base A1 x.f1.length x.f1 → Wr w1 base g r1 ys d1 → I r1 w1 → (ys ++ enc x).length ≤ LIM → Calls Try.prog 48 #[.agg #[.string x.f0, .slice A1 x.f1.length c1], .pointer (some ⟨cw, 0, none⟩)] w1 (WPost base g r1 (ys ++ enc x) (d1 || dp x) w1)) :
    Calls Try.prog 47 #[.pointer (some ⟨g, 0, none⟩), .slice A n c, .func (.func 48) #[] #[.pointer (some ⟨cw, 0, none⟩)]] w (WPost base g r (xs ++ encList enc l) (d || l.any dp) w) := by
  have HN := Aside0.mk hn
  have HC := Aside0.mk hC
  have H0 := Aside0.mk h
  have HI0 := Aside0.mk hI0
  have HI := Aside0.mk hI
  have HL := Aside0.mk hl
  have HIT := Aside0.mk item
  have hmax : n ≤ 9223372036854775807 := hC.2.1
  clear hn hC h hI0 hI hl item
  go_enter Try.func47, Try.ntmps47
  go_wp2_with fail
  go_at_call 113
  with_reducible refine (number_calls base g r xs d n w H0.out (by omega) (by have := HL.out; unfold encList at this; rw [HN.out] at this; exact lim_left this)).mono ?_
  intro e w1 hp
  obtain ⟨rfl, r1, hs, ht⟩ := (St.refl H0.out).next hp
  have H1 := Aside0.mk ht
  have HI1 := Aside0.mk (HI.out r w r1 w1 _ _ HI0.out ht)
  clear hp hs ht
  go_wp2_with fail
  go_loopw [15] (fun v wr => ∃ (i r2 : Nat), v = .int .i64 (i : Nat) ∧ Aside0 (PutR base g r w I enc dp l xs d i r2 wr)) (fun v _ => n - (intOf v).toNat)
  case atStart => exact ⟨0, r1, rfl, ⟨⟨Nat.zero_le _, by rw [HN.out]; simpa using H1.out, HI1.out⟩⟩⟩
  case round =>
    obtain ⟨i, r2, rfl, HP⟩ := hrel
    by_cases hlt : i < n
    · obtain ⟨x, hx⟩ : ∃ x, l[i]? = some x := ⟨_, List.getElem?_eq_getElem (by rw [HN.out]; exact hlt)⟩
      have HX := Aside0.mk hx
      obtain ⟨ad, A1, c1, hA, e0, e1, l1, g1⟩ := at_T72 HC.out (i : Int) (by omega) (by omega)
      have hrd : rd_T72 l (i : Int) = x := by unfold rd_T72; rw [Int.toNat_natCast, List.getD_eq_getElem?_getD, hx]; rfl
      rw [hrd] at e0 e1 l1 g1
      rw [Int.toNat_natCast] at e0 e1
      clear hrd
      replace e0 := old_cell HP.out.st.wr.dat e0
      replace e1 := old_cell HP.out.st.wr.dat e1
      have L1 := Aside0.mk l1
      have G1 := Aside0.mk g1
      clear l1 g1
      subst hA
      have hb : decide ((i : Int) < (n : Int)) = true := decide_eq_true (by omega)
      clear hx
      go_wp2_with fail
      go_at_call 48
      with_reducible refine (HIT.out x _ _ r2 (wr.alloc (.cells #[.string x.f0, .slice A1 x.f1.length c1] 72)) A1 c1 (List.mem_of_getElem? HX.out) L1.out G1.out ((St.refl HP.out.st.wr).alloc (.cells #[.string x.f0, .slice A1 x.f1.length c1] 72)).wr (HI.out r2 wr r2 _ _ _ HP.out.inv ((St.refl HP.out.st.wr).alloc (.cells #[.string x.f0, .slice A1 x.f1.length c1] 72))) (HP.out.room HX.out HL.out)).mono ?_
      intro e w2 hp
      obtain ⟨rfl, r3, hs, ht⟩ := St.next ((St.refl HP.out.st.wr).alloc (.cells #[.string x.f0, .slice A1 x.f1.length c1] 72)) hp
      have HS := Aside0.mk ht
      clear hp hs ht
      go_wp2_with fail
      go_roundw
      case rel => exact ⟨i + 1, r3, by go_num, ⟨HP.out.next HX.out HS.out (HI.out r2 wr r3 _ _ _ HP.out.inv HS.out)⟩⟩
      case measure => simp [intOf]; omega
    · have hb : decide ((i : Int) < (n : Int)) = false := decide_eq_false (by omega)
      go_wp2_with fail
      go_end0
      exact HP.out.done (by rw [HN.out]; exact hlt)
set_option maxHeartbeats 2000000 in
theorem put51 (base : World) (g r n c : Nat) (cw : Nat) (A : Option Addr) (l : List S69) (xs : List Int) (d : Bool) (w : World) (I : Nat → World → Prop) (dp : S69 → Bool) (enc : S69 → List Int) (hn : l.length = n) (hC : Kd.C k69 base A n l) (h : Wr w base g r xs d) (hI0 : I r w)
    (hI : ∀ (r1 : Nat) (w1 : World) (r2 : Nat) (w2 : World) (ys : List Int) (d2 : Bool), I r1 w1 → St base g r1 w1 ys d2 r2 w2 → I r2 w2) (hl : (xs ++ encList enc l).length ≤ LIM)
    (item : ∀ (x : S69) (ys : List Int) (d1 : Bool) (r1 : Nat) (w1 : World), x ∈ l → Wr w1 base g r1 ys d1 → I r1 w1 → (ys ++ enc x).length ≤ LIM → Calls Try.prog 52 #[.agg #[.string x.f0, .int .i64 x.f1], .pointer (some ⟨cw, 0, none⟩)] w1 (WPost base g r1 (ys ++ enc x) (d1 || dp x) w1)) :
    Calls Try.prog 51 #[.pointer (some ⟨g, 0, none⟩), .slice A n c, .func (.func 52) #[] #[.pointer (some ⟨cw, 0, none⟩)]] w (WPost base g r (xs ++ encList enc l) (d || l.any dp) w) := by
  have HN := Aside0.mk hn
  have HC := Aside0.mk hC
  have H0 := Aside0.mk h
  have HI0 := Aside0.mk hI0
  have HI := Aside0.mk hI
  have HL := Aside0.mk hl
  have HIT := Aside0.mk item
  have hmax : n ≤ 9223372036854775807 := hC.2.1
  clear hn hC h hI0 hI hl item
  go_enter Try.func51, Try.ntmps51
  go_wp2_with fail
  go_at_call 113
  with_reducible refine (number_calls base g r xs d n w H0.out (by omega) (by have := HL.out; unfold encList at this; rw [HN.out] at this; exact lim_left this)).mono ?_
  intro e w1 hp
  obtain ⟨rfl, r1, hs, ht⟩ := (St.refl H0.out).next hp
  have H1 := Aside0.mk ht
  have HI1 := Aside0.mk (HI.out r w r1 w1 _ _ HI0.out ht)
  clear hp hs ht
  go_wp2_with fail
  go_loopw [15] (fun v wr => ∃ (i r2 : Nat), v = .int .i64 (i : Nat) ∧ Aside0 (PutR base g r w I enc dp l xs d i r2 wr)) (fun v _ => n - (intOf v).toNat)
  case atStart => exact ⟨0, r1, rfl, ⟨⟨Nat.zero_le _, by rw [HN.out]; simpa using H1.out, HI1.out⟩⟩⟩
  case round =>
    obtain ⟨i, r2, rfl, HP⟩ := hrel
    by_cases hlt : i < n
    · obtain ⟨x, hx⟩ : ∃ x, l[i]? = some x := ⟨_, List.getElem?_eq_getElem (by rw [HN.out]; exact hlt)⟩
      have HX := Aside0.mk hx
      obtain ⟨ad, hA, e0, e1⟩ := at_T69 HC.out (i : Int) (by omega) (by omega)
      have hrd : rd_T69 l (i : Int) = x := by unfold rd_T69; rw [Int.toNat_natCast, List.getD_eq_getElem?_getD, hx]; rfl
      rw [hrd] at e0 e1
      rw [Int.toNat_natCast] at e0 e1
      clear hrd
      replace e0 := old_cell HP.out.st.wr.dat e0
      replace e1 := old_cell HP.out.st.wr.dat e1
      subst hA
      have hb : decide ((i : Int) < (n : Int)) = true := decide_eq_true (by omega)
      clear hx
      go_wp2_with fail
      go_at_call 52
      with_reducible refine (HIT.out x _ _ r2 (wr.alloc (.cells #[.string x.f0, .int .i64 x.f1] 69)) (List.mem_of_getElem? HX.out) ((St.refl HP.out.st.wr).alloc (.cells #[.string x.f0, .int .i64 x.f1] 69)).wr (HI.out r2 wr r2 _ _ _ HP.out.inv ((St.refl HP.out.st.wr).alloc (.cells #[.string x.f0, .int .i64 x.f1] 69))) (HP.out.room HX.out HL.out)).mono ?_
      intro e w2 hp
      obtain ⟨rfl, r3, hs, ht⟩ := St.next ((St.refl HP.out.st.wr).alloc (.cells #[.string x.f0, .int .i64 x.f1] 69)) hp
      have HS := Aside0.mk ht
      clear hp hs ht
      go_wp2_with fail
      go_roundw
      case rel => exact ⟨i + 1, r3, by go_num, ⟨HP.out.next HX.out HS.out (HI.out r2 wr r3 _ _ _ HP.out.inv HS.out)⟩⟩
      case measure => simp [intOf]; omega
    · have hb : decide ((i : Int) < (n : Int)) = false := decide_eq_false (by omega)
      go_wp2_with fail
      go_end0
      exact HP.out.done (by rw [HN.out]; exact hlt)
set_option maxHeartbeats 2000000 in
theorem put53 (base : World) (g r n c : Nat) (A : Option Addr) (l : List S77) (xs : List Int) (d : Bool) (w : World) (I : Nat → World → Prop) (dp : S77 → Bool) (enc : S77 → List Int) (hn : l.length = n) (hC : Kd.C k77 base A n l) (h : Wr w base g r xs d) (hI0 : I r w)
    (hI : ∀ (r1 : Nat) (w1 : World) (r2 : Nat) (w2 : World) (ys : List Int) (d2 : Bool), I r1 w1 → St base g r1 w1 ys d2 r2 w2 → I r2 w2) (hl : (xs ++ encList enc l).length ≤ LIM)
    (item : ∀ (x : S77) (ys : List Int) (d1 : Bool) (r1 : Nat) (w1 : World) (A6 : Option Addr) (c6 : Nat), x ∈ l → x.f6.length ≤ c6 → k100.C base A6 x.f6.length x.f6 → Wr w1 base g r1 ys d1 → I r1 w1 → (ys ++ enc x).length ≤ LIM → Calls Try.prog 54 #[.pointer (some ⟨g, 0, none⟩), .agg #[.string x.f0, .bool x.f1, .bool x.f2, .int .i64 x.f3, .int .i64 x.f4, .int .i64 x.f5, .slice A6 x.f6.length c6]] w1 (WPost base g r1 (ys ++ enc x) (d1 || dp x) w1)) :
    Calls Try.prog 53 #[.pointer (some ⟨g, 0, none⟩), .slice A n c, .func (.func 54) #[.pointer (some ⟨g, 0, none⟩)] #[]] w (WPost base g r (xs ++ encList enc l) (d || l.any dp) w) := by
  have HN := Aside0.mk hn
  have HC := Aside0.mk hC
  have H0 := Aside0.mk h
  have HI0 := Aside0.mk hI0
  have HI := Aside0.mk hI
  have HL := Aside0.mk hl
  have HIT := Aside0.mk item
  have hmax : n ≤ 9223372036854775807 := hC.2.1
  clear hn hC h hI0 hI hl item
  go_enter Try.func53, Try.ntmps53
  go_wp2_with fail
  go_at_call 113
  with_reducible refine (number_calls base g r xs d n w H0.out (by omega) (by have := HL.out; unfold encList at this; rw [HN.out] at this; exact lim_left this)).mono ?_
  intro e w1 hp
  obtain ⟨rfl, r1, hs, ht⟩ := (St.refl H0.out).next hp
  have H1 := Aside0.mk ht
  have HI1 := Aside0.mk (HI.out r w r1 w1 _ _ HI0.out ht)
  clear hp hs ht
  go_wp2_with fail
  go_loopw [15] (fun v wr => ∃ (i r2 : Nat), v = .int .i64 (i : Nat) ∧ Aside0 (PutR base g r w I enc dp l xs d i r2 wr)) (fun v _ => n - (intOf v).toNat)
  case atStart => exact ⟨0, r1, rfl, ⟨⟨Nat.zero_le _, by rw [HN.out]; simpa using H1.out, HI1.out⟩⟩⟩
  case round =>
    obtain ⟨i, r2, rfl, HP⟩ := hrel
    by_cases hlt : i < n
    · obtain ⟨x, hx⟩ : ∃ x, l[i]? = some x := ⟨_, List.getElem?_eq_getElem (by rw [HN.out]; exact hlt)⟩
      have HX := Aside0.mk hx
      obtain ⟨ad, A6, c6, hA, e0, e1, e2, e3, e4, e5, e6, l6, g6⟩ := at_T77 HC.out (i : Int) (by omega) (by omega)
      have hrd : rd_T77 l (i : Int) = x := by unfold rd_T77; rw [Int.toNat_natCast, List.getD_eq_getElem?_getD, hx]; rfl
      rw [hrd] at e0 e1 e2 e3 e4 e5 e6 l6 g6
      rw [Int.toNat_natCast] at e0 e1 e2 e3 e4 e5 e6
      clear hrd
      replace e0 := old_cell HP.out.st.wr.dat e0
      replace e1 := old_cell HP.out.st.wr.dat e1
      replace e2 := old_cell HP.out.st.wr.dat e2
      replace e3 := old_cell HP.out.st.wr.dat e3
      replace e4 := old_cell HP.out.st.wr.dat e4
      replace e5 := old_cell HP.out.st.wr.dat e5
      replace e6 := old_cell HP.out.st.wr.dat e6
      have L6 := Aside0.mk l6
      have G6 := Aside0.mk g6
      clear l6 g6
      subst hA
      have hb : decide ((i : Int) < (n : Int)) = true := decide_eq_true (by omega)
      clear hx
      go_wp2_with fail
      go_at_call 54
      with_reducible refine (HIT.out x _ _ r2 (wr.alloc (.cells #[.string x.f0, .bool x.f1, .bool x.f2, .int .i64 x.f3, .int .i64 x.f4, .int .i64 x.f5, .slice A6 x.f6.length c6] 77)) A6 c6 (List.mem_of_getElem? HX.out) L6.out G6.out ((St.refl HP.out.st.wr).alloc (.cells #[.string x.f0, .bool x.f1, .bool x.f2, .int .i64 x.f3, .int .i64 x.f4, .int .i64 x.f5, .slice A6 x.f6.length c6] 77)).wr (HI.out r2 wr r2 _ _ _ HP.out.inv ((St.refl HP.out.st.wr).alloc (.cells #[.string x.f0, .bool x.f1, .bool x.f2, .int .i64 x.f3, .int .i64 x.f4, .int .i64 x.f5, .slice A6 x.f6.length c6] 77))) (HP.out.room HX.out HL.out)).mono ?_
      intro e w2 hp
      obtain ⟨rfl, r3, hs, ht⟩ := St.next ((St.refl HP.out.st.wr).alloc (.cells #[.string x.f0, .bool x.f1, .bool x.f2, .int .i64 x.f3, .int .i64 x.f4, .int .i64 x.f5, .slice A6 x.f6.length c6] 77)) hp
      have HS := Aside0.mk ht
      clear hp hs ht
      go_wp2_with fail
      go_roundw
      case rel => exact ⟨i + 1, r3, by go_num, ⟨HP.out.next HX.out HS.out (HI.out r2 wr r3 _ _ _ HP.out.inv HS.out)⟩⟩
      case measure => simp [intOf]; omega
    · have hb : decide ((i : Int) < (n : Int)) = false := decide_eq_false (by omega)
      go_wp2_with fail
      go_end0
      exact HP.out.done (by rw [HN.out]; exact hlt)
set_option maxHeartbeats 2000000 in
theorem put55 (base : World) (g r n c : Nat) (A : Option Addr) (l : List S82) (xs : List Int) (d : Bool) (w : World) (I : Nat → World → Prop) (dp : S82 → Bool) (enc : S82 → List Int) (hn : l.length = n) (hC : Kd.C k82 base A n l) (h : Wr w base g r xs d) (hI0 : I r w)
    (hI : ∀ (r1 : Nat) (w1 : World) (r2 : Nat) (w2 : World) (ys : List Int) (d2 : Bool), I r1 w1 → St base g r1 w1 ys d2 r2 w2 → I r2 w2) (hl : (xs ++ encList enc l).length ≤ LIM)
    (item : ∀ (x : S82) (ys : List Int) (d1 : Bool) (r1 : Nat) (w1 : World) (A7 : Option Addr) (c7 : Nat), x ∈ l → x.f3.f4.length ≤ c7 → k80.C base A7 x.f3.f4.length x.f3.f4 → Wr w1 base g r1 ys d1 → I r1 w1 → (ys ++ enc x).length ≤ LIM → Calls Try.prog 56 #[.pointer (some ⟨g, 0, none⟩), .agg #[.string x.f0, .bool x.f1, .int .i64 x.f2, .int .i64 x.f3.f0, .int .i64 x.f3.f1, .int .i64 x.f3.f2, .int .i64 x.f3.f3, .slice A7 x.f3.f4.length c7, .string x.f4]] w1 (WPost base g r1 (ys ++ enc x) (d1 || dp x) w1)) :
    Calls Try.prog 55 #[.pointer (some ⟨g, 0, none⟩), .slice A n c, .func (.func 56) #[.pointer (some ⟨g, 0, none⟩)] #[]] w (WPost base g r (xs ++ encList enc l) (d || l.any dp) w) := by
  have HN := Aside0.mk hn
  have HC := Aside0.mk hC
  have H0 := Aside0.mk h
  have HI0 := Aside0.mk hI0
  have HI := Aside0.mk hI
  have HL := Aside0.mk hl
  have HIT := Aside0.mk item
  have hmax : n ≤ 9223372036854775807 := hC.2.1
  clear hn hC h hI0 hI hl item
  go_enter Try.func55, Try.ntmps55
  go_wp2_with fail
  go_at_call 113
  with_reducible refine (number_calls base g r xs d n w H0.out (by omega) (by have := HL.out; unfold encList at this; rw [HN.out] at this; exact lim_left this)).mono ?_
  intro e w1 hp
  obtain ⟨rfl, r1, hs, ht⟩ := (St.refl H0.out).next hp
  have H1 := Aside0.mk ht
  have HI1 := Aside0.mk (HI.out r w r1 w1 _ _ HI0.out ht)
  clear hp hs ht
  go_wp2_with fail
  go_loopw [15] (fun v wr => ∃ (i r2 : Nat), v = .int .i64 (i : Nat) ∧ Aside0 (PutR base g r w I enc dp l xs d i r2 wr)) (fun v _ => n - (intOf v).toNat)
  case atStart => exact ⟨0, r1, rfl, ⟨⟨Nat.zero_le _, by rw [HN.out]; simpa using H1.out, HI1.out⟩⟩⟩
  case round =>
    obtain ⟨i, r2, rfl, HP⟩ := hrel
    by_cases hlt : i < n
    · obtain ⟨x, hx⟩ : ∃ x, l[i]? = some x := ⟨_, List.getElem?_eq_getElem (by rw [HN.out]; exact hlt)⟩
      have HX := Aside0.mk hx
      obtain ⟨ad, A7, c7, hA, e0, e1, e2, e3, e4, e5, e6, e7, e8, l7, g7⟩ := at_T82 HC.out (i : Int) (by omega) (by omega)
      have hrd : rd_T82 l (i : Int) = x := by unfold rd_T82; rw [Int.toNat_natCast, List.getD_eq_getElem?_getD, hx]; rfl
      rw [hrd] at e0 e1 e2 e3 e4 e5 e6 e7 e8 l7 g7
      rw [Int.toNat_natCast] at e0 e1 e2 e3 e4 e5 e6 e7 e8
      clear hrd
      replace e0 := old_cell HP.out.st.wr.dat e0
      replace e1 := old_cell HP.out.st.wr.dat e1
      replace e2 := old_cell HP.out.st.wr.dat e2
      replace e3 := old_cell HP.out.st.wr.dat e3
      replace e4 := old_cell HP.out.st.wr.dat e4
      replace e5 := old_cell HP.out.st.wr.dat e5
      replace e6 := old_cell HP.out.st.wr.dat e6
      replace e7 := old_cell HP.out.st.wr.dat e7
      replace e8 := old_cell HP.out.st.wr.dat e8
      have L7 := Aside0.mk l7
      have G7 := Aside0.mk g7
      clear l7 g7
      subst hA
      have hb : decide ((i : Int) < (n : Int)) = true := decide_eq_true (by omega)
      clear hx
      go_wp2_with fail
      go_at_call 56
      with_reducible refine (HIT.out x _ _ r2 (wr.alloc (.cells #[.string x.f0, .bool x.f1, .int .i64 x.f2, .int .i64 x.f3.f0, .int .i64 x.f3.f1, .int .i64 x.f3.f2, .int .i64 x.f3.f3, .slice A7 x.f3.f4.length c7, .string x.f4] 82)) A7 c7 (List.mem_of_getElem? HX.out) L7.out G7.out ((St.refl HP.out.st.wr).alloc (.cells #[.string x.f0, .bool x.f1, .int .i64 x.f2, .int .i64 x.f3.f0, .int .i64 x.f3.f1, .int .i64 x.f3.f2, .int .i64 x.f3.f3, .slice A7 x.f3.f4.length c7, .string x.f4] 82)).wr (HI.out r2 wr r2 _ _ _ HP.out.inv ((St.refl HP.out.st.wr).alloc (.cells #[.string x.f0, .bool x.f1, .int .i64 x.f2, .int .i64 x.f3.f0, .int .i64 x.f3.f1, .int .i64 x.f3.f2, .int .i64 x.f3.f3, .slice A7 x.f3.f4.length c7, .string x.f4] 82))) (HP.out.room HX.out HL.out)).mono ?_
      intro e w2 hp
      obtain ⟨rfl, r3, hs, ht⟩ := St.next ((St.refl HP.out.st.wr).alloc (.cells #[.string x.f0, .bool x.f1, .int .i64 x.f2, .int .i64 x.f3.f0, .int .i64 x.f3.f1, .int .i64 x.f3.f2, .int .i64 x.f3.f3, .slice A7 x.f3.f4.length c7, .string x.f4] 82)) hp
      have HS := Aside0.mk ht
      clear hp hs ht
      go_wp2_with fail
      go_roundw
      case rel => exact ⟨i + 1, r3, by go_num, ⟨HP.out.next HX.out HS.out (HI.out r2 wr r3 _ _ _ HP.out.inv HS.out)⟩⟩
      case measure => simp [intOf]; omega
    · have hb : decide ((i : Int) < (n : Int)) = false := decide_eq_false (by omega)
      go_wp2_with fail
      go_end0
      exact HP.out.done (by rw [HN.out]; exact hlt)
set_option maxHeartbeats 2000000 in
theorem put115 (base : World) (g r n c : Nat) (A : Option Addr) (l : List S100) (xs : List Int) (d : Bool) (w : World) (I : Nat → World → Prop) (dp : S100 → Bool) (enc : S100 → List Int) (hn : l.length = n) (hC : Kd.C k100 base A n l) (h : Wr w base g r xs d) (hI0 : I r w)
    (hI : ∀ (r1 : Nat) (w1 : World) (r2 : Nat) (w2 : World) (ys : List Int) (d2 : Bool), I r1 w1 → St base g r1 w1 ys d2 r2 w2 → I r2 w2) (hl : (xs ++ encList enc l).length ≤ LIM)
    (item : ∀ (x : S100) (ys : List Int) (d1 : Bool) (r1 : Nat) (w1 : World) (A6 : Option Addr) (c6 : Nat) (A11 : Option Addr) (c11 : Nat), x ∈ l → x.f2.f4.length ≤ c6 → k80.C base A6 x.f2.f4.length x.f2.f4 → x.f3.f4.length ≤ c11 → k80.C base A11 x.f3.f4.length x.f3.f4 → Wr w1 base g r1 ys d1 → I r1 w1 → (ys ++ enc x).length ≤ LIM → Calls Try.prog 116 #[.pointer (some ⟨g, 0, none⟩), .agg #[.int .i64 x.f0, .bool x.f1, .int .i64 x.f2.f0, .int .i64 x.f2.f1, .int .i64 x.f2.f2, .int .i64 x.f2.f3, .slice A6 x.f2.f4.length c6, .int .i64 x.f3.f0, .int .i64 x.f3.f1, .int .i64 x.f3.f2, .int .i64 x.f3.f3, .slice A11 x.f3.f4.length c11]] w1 (WPost base g r1 (ys ++ enc x) (d1 || dp x) w1)) :
    Calls Try.prog 115 #[.pointer (some ⟨g, 0, none⟩), .slice A n c, .func (.func 116) #[.pointer (some ⟨g, 0, none⟩)] #[]] w (WPost base g r (xs ++ encList enc l) (d || l.any dp) w) := by
  have HN := Aside0.mk hn
  have HC := Aside0.mk hC
  have H0 := Aside0.mk h
  have HI0 := Aside0.mk hI0
  have HI := Aside0.mk hI
  have HL := Aside0.mk hl
  have HIT := Aside0.mk item
  have hmax : n ≤ 9223372036854775807 := hC.2.1
  clear hn hC h hI0 hI hl item
  go_enter Try.func115, Try.ntmps115
  go_wp2_with fail
  go_at_call 113
  with_reducible refine (number_calls base g r xs d n w H0.out (by omega) (by have := HL.out; unfold encList at this; rw [HN.out] at this; exact lim_left this)).mono ?_
  intro e w1 hp
  obtain ⟨rfl, r1, hs, ht⟩ := (St.refl H0.out).next hp
  have H1 := Aside0.mk ht
  have HI1 := Aside0.mk (HI.out r w r1 w1 _ _ HI0.out ht)
  clear hp hs ht
  go_wp2_with fail
  go_loopw [15] (fun v wr => ∃ (i r2 : Nat), v = .int .i64 (i : Nat) ∧ Aside0 (PutR base g r w I enc dp l xs d i r2 wr)) (fun v _ => n - (intOf v).toNat)
  case atStart => exact ⟨0, r1, rfl, ⟨⟨Nat.zero_le _, by rw [HN.out]; simpa using H1.out, HI1.out⟩⟩⟩
  case round =>
    obtain ⟨i, r2, rfl, HP⟩ := hrel
    by_cases hlt : i < n
    · obtain ⟨x, hx⟩ : ∃ x, l[i]? = some x := ⟨_, List.getElem?_eq_getElem (by rw [HN.out]; exact hlt)⟩
      have HX := Aside0.mk hx
      obtain ⟨ad, A6, c6, A11, c11, hA, e0, e1, e2, e3, e4, e5, e6, e7, e8, e9, e10, e11, l6, g6, l11, g11⟩ := at_T100 HC.out (i : Int) (by omega) (by omega)
      have hrd : rd_T100 l (i : Int) = x := by unfold rd_T100; rw [Int.toNat_natCast, List.getD_eq_getElem?_getD, hx]; rfl
      rw [hrd] at e0 e1 e2 e3 e4 e5 e6 e7 e8 e9 e10 e11 l6 g6 l11 g11
      rw [Int.toNat_natCast] at e0 e1 e2 e3 e4 e5 e6 e7 e8 e9 e10 e11
      clear hrd
      replace e0 := old_cell HP.out.st.wr.dat e0
      replace e1 := old_cell HP.out.st.wr.dat e1
      replace e2 := old_cell HP.out.st.wr.dat e2
      replace e3 := old_cell HP.out.st.wr.dat e3
      replace e4 := old_cell HP.out.st.wr.dat e4
      replace e5 := old_cell HP.out.st.wr.dat e5
      replace e6 := old_cell HP.out.st.wr.dat e6
      replace e7 := old_cell HP.out.st.wr.dat e7
      replace e8 := old_cell HP.out.st.wr.dat e8
      replace e9 := old_cell HP.out.st.wr.dat e9
      replace e10 := old_cell HP.out.st.wr.dat e10
      replace e11 := old_cell HP.out.st.wr.dat e11
      have L6 := Aside0.mk l6
      have G6 := Aside0.mk g6
      have L11 := Aside0.mk l11
      have G11 := Aside0.mk g11
      clear l6 g6 l11 g11
      subst hA
      have hb : decide ((i : Int) < (n : Int)) = true := decide_eq_true (by omega)
      clear hx
      go_wp2_with fail
      go_at_call 116
      with_reducible refine (HIT.out x _ _ r2 (wr.alloc (.cells #[.int .i64 x.f0, .bool x.f1, .int .i64 x.f2.f0, .int .i64 x.f2.f1, .int .i64 x.f2.f2, .int .i64 x.f2.f3, .slice A6 x.f2.f4.length c6, .int .i64 x.f3.f0, .int .i64 x.f3.f1, .int .i64 x.f3.f2, .int .i64 x.f3.f3, .slice A11 x.f3.f4.length c11] 100)) A6 c6 A11 c11 (List.mem_of_getElem? HX.out) L6.out G6.out L11.out G11.out ((St.refl HP.out.st.wr).alloc (.cells #[.int .i64 x.f0, .bool x.f1, .int .i64 x.f2.f0, .int .i64 x.f2.f1, .int .i64 x.f2.f2, .int .i64 x.f2.f3, .slice A6 x.f2.f4.length c6, .int .i64 x.f3.f0, .int .i64 x.f3.f1, .int .i64 x.f3.f2, .int .i64 x.f3.f3, .slice A11 x.f3.f4.length c11] 100)).wr (HI.out r2 wr r2 _ _ _ HP.out.inv ((St.refl HP.out.st.wr).alloc (.cells #[.int .i64 x.f0, .bool x.f1, .int .i64 x.f2.f0, .int .i64 x.f2.f1, .int .i64 x.f2.f2, .int .i64 x.f2.f3, .slice A6 x.f2.f4.length c6, .int .i64 x.f3.f0, .int .i64 x.f3.f1, .int .i64 x.f3.f2, .int .i64 x.f3.f3, .slice A11 x.f3.f4.length c11] 100))) (HP.out.room HX.out HL.out)).mono ?_
      intro e w2 hp
      obtain ⟨rfl, r3, hs, ht⟩ := St.next ((St.refl HP.out.st.wr).alloc (.cells #[.int .i64 x.f0, .bool x.f1, .int .i64 x.f2.f0, .int .i64 x.f2.f1, .int .i64 x.f2.f2, .int .i64 x.f2.f3, .slice A6 x.f2.f4.length c6, .int .i64 x.f3.f0, .int .i64 x.f3.f1, .int .i64 x.f3.f2, .int .i64 x.f3.f3, .slice A11 x.f3.f4.length c11] 100)) hp
      have HS := Aside0.mk ht
      clear hp hs ht
      go_wp2_with fail
      go_roundw
      case rel => exact ⟨i + 1, r3, by go_num, ⟨HP.out.next HX.out HS.out (HI.out r2 wr r3 _ _ _ HP.out.inv HS.out)⟩⟩
      case measure => simp [intOf]; omega
    · have hb : decide ((i : Int) < (n : Int)) = false := decide_eq_false (by omega)
      go_wp2_with fail
      go_end0
      exact HP.out.done (by rw [HN.out]; exact hlt)
set_option maxHeartbeats 2000000 in
theorem put141 (base : World) (g r n c : Nat) (cw cd : Nat) (A : Option Addr) (l : List S80) (xs : List Int) (d : Bool) (w : World) (I : Nat → World → Prop) (dp : S80 → Bool) (enc : S80 → List Int) (hn : l.length = n) (hC : Kd.C k80 base A n l) (h : Wr w base g r xs d) (hI0 : I r w)
    (hI : ∀ (r1 : Nat) (w1 : World) (r2 : Nat) (w2 : World) (ys : List Int) (d2 : Bool), I r1 w1 → St base g r1 w1 ys d2 r2 w2 → I r2 w2) (hl : (xs ++ encList enc l).length ≤ LIM)
    (item : ∀ (x : S80) (ys : List Int) (d1 : Bool) (r1 : Nat) (w1 : World) (A4 : Option Addr) (c4 : Nat), x ∈ l → x.f4.length ≤ c4 → k80.C base A4 x.f4.length x.f4 → Wr w1 base g r1 ys d1 → I r1 w1 → (ys ++ enc x).length ≤ LIM → Calls Try.prog 142 #[.agg #[.int .i64 x.f0, .int .i64 x.f1, .int .i64 x.f2, .int .i64 x.f3, .slice A4 x.f4.length c4], .pointer (some ⟨cw, 0, none⟩), .pointer (some ⟨cd, 0, none⟩)] w1 (WPost base g r1 (ys ++ enc x) (d1 || dp x) w1)) :
    Calls Try.prog 141 #[.pointer (some ⟨g, 0, none⟩), .slice A n c, .func (.func 142) #[] #[.pointer (some ⟨cw, 0, none⟩), .pointer (some ⟨cd, 0, none⟩)]] w (WPost base g r (xs ++ encList enc l) (d || l.any dp) w) := by
  have HN := Aside0.mk hn
  have HC := Aside0.mk hC
  have H0 := Aside0.mk h
  have HI0 := Aside0.mk hI0
  have HI := Aside0.mk hI
  have HL := Aside0.mk hl
  have HIT := Aside0.mk item
  have hmax : n ≤ 9223372036854775807 := hC.2.1
  clear hn hC h hI0 hI hl item
  go_enter Try.func141, Try.ntmps141
  go_wp2_with fail
  go_at_call 113
  with_reducible refine (number_calls base g r xs d n w H0.out (by omega) (by have := HL.out; unfold encList at this; rw [HN.out] at this; exact lim_left this)).mono ?_
  intro e w1 hp
  obtain ⟨rfl, r1, hs, ht⟩ := (St.refl H0.out).next hp
  have H1 := Aside0.mk ht
  have HI1 := Aside0.mk (HI.out r w r1 w1 _ _ HI0.out ht)
  clear hp hs ht
  go_wp2_with fail
  go_loopw [15] (fun v wr => ∃ (i r2 : Nat), v = .int .i64 (i : Nat) ∧ Aside0 (PutR base g r w I enc dp l xs d i r2 wr)) (fun v _ => n - (intOf v).toNat)
  case atStart => exact ⟨0, r1, rfl, ⟨⟨Nat.zero_le _, by rw [HN.out]; simpa using H1.out, HI1.out⟩⟩⟩
  case round =>
    obtain ⟨i, r2, rfl, HP⟩ := hrel
    by_cases hlt : i < n
    · obtain ⟨x, hx⟩ : ∃ x, l[i]? = some x := ⟨_, List.getElem?_eq_getElem (by rw [HN.out]; exact hlt)⟩
      have HX := Aside0.mk hx
      obtain ⟨ad, A4, c4, hA, e0, e1, e2, e3, e4, l4, g4⟩ := at_T80 HC.out (i : Int) (by omega) (by omega)
      have hrd : rd_T80 l (i : Int) = x := by unfold rd_T80; rw [Int.toNat_natCast, List.getD_eq_getElem?_getD, hx]; rfl
      rw [hrd] at e0 e1 e2 e3 e4 l4 g4
      rw [Int.toNat_natCast] at e0 e1 e2 e3 e4
      clear hrd
      replace e0 := old_cell HP.out.st.wr.dat e0
      replace e1 := old_cell HP.out.st.wr.dat e1
      replace e2 := old_cell HP.out.st.wr.dat e2
      replace e3 := old_cell HP.out.st.wr.dat e3
      replace e4 := old_cell HP.out.st.wr.dat e4
      have L4 := Aside0.mk l4
      have G4 := Aside0.mk g4
      clear l4 g4
      subst hA
      have hb : decide ((i : Int) < (n : Int)) = true := decide_eq_true (by omega)
      clear hx
      go_wp2_with fail
      go_at_call 142
      with_reducible refine (HIT.out x _ _ r2 (wr.alloc (.cells #[.int .i64 x.f0, .int .i64 x.f1, .int .i64 x.f2, .int .i64 x.f3, .slice A4 x.f4.length c4] 80)) A4 c4 (List.mem_of_getElem? HX.out) L4.out G4.out ((St.refl HP.out.st.wr).alloc (.cells #[.int .i64 x.f0, .int .i64 x.f1, .int .i64 x.f2, .int .i64 x.f3, .slice A4 x.f4.length c4] 80)).wr (HI.out r2 wr r2 _ _ _ HP.out.inv ((St.refl HP.out.st.wr).alloc (.cells #[.int .i64 x.f0, .int .i64 x.f1, .int .i64 x.f2, .int .i64 x.f3, .slice A4 x.f4.length c4] 80))) (HP.out.room HX.out HL.out)).mono ?_
      intro e w2 hp
      obtain ⟨rfl, r3, hs, ht⟩ := St.next ((St.refl HP.out.st.wr).alloc (.cells #[.int .i64 x.f0, .int .i64 x.f1, .int .i64 x.f2, .int .i64 x.f3, .slice A4 x.f4.length c4] 80)) hp
      have HS := Aside0.mk ht
      clear hp hs ht
      go_wp2_with fail
      go_roundw
      case rel => exact ⟨i + 1, r3, by go_num, ⟨HP.out.next HX.out HS.out (HI.out r2 wr r3 _ _ _ HP.out.inv HS.out)⟩⟩
      case measure => simp [intOf]; omega
    · have hb : decide ((i : Int) < (n : Int)) = false := decide_eq_false (by omega)
      go_wp2_with fail
      go_end0
      exact HP.out.done (by rw [HN.out]; exact hlt)
end Go.Proofs.Ytpbdkkahodaloaa.U
end

section
namespace Go.Proofs.Ytpbdkkahodaloaa.T
open Go.RowKit Go.Proofs.Ytpbdkkahodaloaa.PS Go.Proofs.Ytpbdkkahodaloaa.U Go.Proofs.YtpbdkkahodaloaaW.PrintWords Go.Proofs.YtpbdkkahodaloaaW.PrintMore
set_option linter.unusedVariables false
set_option maxRecDepth 100000
theorem toList_inj {a b : ByteArray} (h : a.toList = b.toList) : a = b := by
  rw [ByteArray.toList_eq, ByteArray.toList_eq] at h
  cases a; cases b
  simpa using h
theorem len_same {l m : Nat} (h : ((l : Int) != (m : Int)) = false) : l = m := by simp at h; omega
theorem same_no {α : Type} {a b : α} {w w' : World} (hb : Below w.heap.size w w')
    (h : ¬ a = b := by (intro e_; cases e_; first | exact absurd rfl (by assumption) | (have h_ : ∀ z : Int, ¬ ((z != z) = true) := (fun z => by simp); exact absurd (by assumption) (h_ _)))) : SamePost a b w (.returned (.bool false)) w' := ⟨false, rfl, Iff.intro (fun h => by cases h) (fun e => absurd e h), hb⟩
theorem same_yes {α : Type} {a b : α} {w w' : World} (h : a = b) (hb : Below w.heap.size w w') : SamePost a b w (.returned (.bool true)) w' := ⟨true, rfl, Iff.intro (fun _ => h) (fun _ => rfl), hb⟩
theorem drop_next {α : Type} {l m : List α} {i : Nat} {a b : α} (ha : l[i]? = some a) (hb : m[i]? = some b) (ht : l.take i = m.take i) (h : a = b) : l.take (i + 1) = m.take (i + 1) := by
  rw [List.take_add_one, List.take_add_one, ht, ha, hb, h]
theorem ne_at {α : Type} {l m : List α} {i : Nat} {a b : α} (ha : l[i]? = some a) (hb : m[i]? = some b) (h : ¬ a = b) : ¬ l = m := fun e => h (by rw [e, hb] at ha; exact (Option.some.inj ha).symm)
theorem take_all {α : Type} {l m : List α} {i : Nat} (hl : ¬ i < l.length) (hm : l.length = m.length) (h : l.take i = m.take i) : l = m := by
  rw [List.take_of_length_le (by omega), List.take_of_length_le (by omega)] at h; exact h
structure Two (w : World) (k : Nat) (u v : Value) (w' : World) : Prop where
  below : Below w.heap.size w w'
  one : w'.cell? ⟨w.heap.size, k, none⟩ = some u
  two : w'.cell? ⟨w.heap.size + 1, k, none⟩ = some v
theorem Two.next {w w' w2 : World} {k : Nat} {u v : Value} (h : Two w k u v w') (hb : Below w'.heap.size w' w2) : Two w k u v w2 := ⟨below_then h.below h.below.size hb, old_cell hb h.one, old_cell hb h.two⟩
theorem Two.new (w : World) (cs ds : Array Value) (t : TypeId) (k : Nat) {u v : Value} (h1 : cs[k]? = some u) (h2 : ds[k]? = some v) : Two w k u v ((w.alloc (.cells cs t)).alloc (.cells ds t)) := by
  refine ⟨below_alloc (below_alloc (Below.refl _ _) _) _, (blk_cell (blk_alloc (blk_new w _) _) k).trans h1, ?_⟩
  have := blk_new (w.alloc (.cells cs t)) (.cells ds t)
  rw [World.size_alloc] at this
  exact (blk_cell this k).trans h2
set_option maxHeartbeats 4000000 in
theorem line_same (x y : S77) (A : Option Addr) (c : Nat) (B : Option Addr) (d : Nat) (w : World) (hx : k100.C w A x.f6.length x.f6) (hy : k100.C w B y.f6.length y.f6) :
    Calls Try.prog 58 #[.agg #[.string x.f0, .bool x.f1, .bool x.f2, .int .i64 x.f3, .int .i64 x.f4, .int .i64 x.f5, .slice A x.f6.length c], .agg #[.string y.f0, .bool y.f1, .bool y.f2, .int .i64 y.f3, .int .i64 y.f4, .int .i64 y.f5, .slice B y.f6.length d]] w (SamePost x y w) := by
  obtain ⟨x0, x1, x2, x3, x4, x5, l⟩ := x
  obtain ⟨y0, y1, y2, y3, y4, y5, m⟩ := y
  replace hx : k100.C w A l.length l := hx
  replace hy : k100.C w B m.length m := hy
  show Calls Try.prog 58 #[.agg #[.string x0, .bool x1, .bool x2, .int .i64 x3, .int .i64 x4, .int .i64 x5, .slice A l.length c], .agg #[.string y0, .bool y1, .bool y2, .int .i64 y3, .int .i64 y4, .int .i64 y5, .slice B m.length d]] w (SamePost _ _ w)
  have HX := Aside0.mk hx
  have HY := Aside0.mk hy
  clear hx hy
  go_enter Try.func58, Try.ntmps58
  go_wp2_with fail
  all_goals try (go_ret; exact same_no (by repeat (first | exact Below.refl _ _ | apply below_alloc | apply pw_below_drewN | apply below_drew1)))
  rename_i g0 g1 g2 g3 g4 g5 g6 _ _
  have HM := Aside0.mk (len_same g6)
  rw [g6]
  have HE := Aside0.mk (show l = m → (⟨x0, x1, x2, x3, x4, x5, l⟩ : S77) = ⟨y0, y1, y2, y3, y4, y5, m⟩ from fun e => by rw [toList_inj g0, g1, g2, g3, g4, g5, e])
  have HN := Aside0.mk (show ¬ l = m → ¬ (⟨x0, x1, x2, x3, x4, x5, l⟩ : S77) = ⟨y0, y1, y2, y3, y4, y5, m⟩ from fun h e => h (by cases e; rfl))
  clear g0 g1 g2 g3 g4 g5 g6
  have hmax : l.length ≤ 9223372036854775807 := HX.out.2.1
  rw [← HM.out] at HY
  rw [← HM.out]
  go_loopg [5] (l.length + 1) (fun kq v5 w' => ∃ i : Nat, v5 = .int .i64 (i : Int) ∧ Aside0 (kq + i = l.length + 1) ∧ Aside0 (i ≤ l.length) ∧ Aside0 (l.take i = m.take i) ∧ Aside0 (Two w 6 (.slice A l.length c) (.slice B l.length d) w'))
  case atStart => exact ⟨0, rfl, ⟨by omega⟩, ⟨by omega⟩, ⟨rfl⟩, ⟨Two.new w _ _ _ 6 rfl rfl⟩⟩
  case round =>
    obtain ⟨i, rfl, HK, HI, HT, HW⟩ := hrel
    cases gk with
    | zero => exact absurd HK.out (by have := HI.out; omega)
    | succ k1 =>
      have a0 := HW.out.one
      have a1 := HW.out.two
      by_cases hlt : i < l.length
      · have hb0 : decide ((i : Int) < (l.length : Int)) = true := decide_eq_true (by omega)
        obtain ⟨a, ha⟩ : ∃ a, l[i]? = some a := ⟨_, List.getElem?_eq_getElem hlt⟩
        obtain ⟨b, hb⟩ : ∃ b, m[i]? = some b := ⟨_, List.getElem?_eq_getElem (by have := HM.out; omega)⟩
        have hra : rd_T100 l (i : Int) = a := by unfold rd_T100; rw [Int.toNat_natCast, List.getD_eq_getElem?_getD, ha]; rfl
        have hrb : rd_T100 m (i : Int) = b := by unfold rd_T100; rw [Int.toNat_natCast, List.getD_eq_getElem?_getD, hb]; rfl
        obtain ⟨ad, C1, c1, C2, c2, hA, e0, e1, e2, e3, e4, e5, e6, e7, e8, e9, e10, e11, l1, g1, l2, g2⟩ := at_T100 (Kd.C_below HX.out HW.out.below) (i : Int) (by omega) (by omega)
        obtain ⟨bd, D1, d1, D2, d2, hB, f0, f1, f2, f3, f4, f5, f6, f7, f8, f9, f10, f11, m1, j1, m2, j2⟩ := at_T100 (Kd.C_below HY.out HW.out.below) (i : Int) (by omega) (by omega)
        subst hA hB
        rw [hra] at e0 e1 e2 e3 e4 e5 e6 e7 e8 e9 e10 e11 l1 g1 l2 g2
        rw [hrb] at f0 f1 f2 f3 f4 f5 f6 f7 f8 f9 f10 f11 m1 j1 m2 j2
        rw [Int.toNat_natCast] at e0 e1 e2 e3 e4 e5 e6 e7 e8 e9 e10 e11 f0 f1 f2 f3 f4 f5 f6 f7 f8 f9 f10 f11
        have HNE := Aside0.mk (fun h => HN.out (ne_at ha hb h))
        have HNX := Aside0.mk (fun h => drop_next ha hb HT.out h)
        have HG := Aside0.mk (And.intro (And.intro l1 g1) (And.intro l2 g2))
        have HJ := Aside0.mk (And.intro (And.intro m1 j1) (And.intro m2 j2))
        clear hra hrb ha hb l1 g1 l2 g2 m1 j1 m2 j2
        have p0 : (0 : Int) ≤ (i : Int) := by omega
        have p1 : (i : Int) < (l.length : Int) := by omega
        have q0 := World.block_lt_of_cell? wr _ a0
        have q1 := World.block_lt_of_cell? wr _ a1
        have q2 := World.block_lt_of_cell? wr _ e0
        have q3 := World.block_lt_of_cell? wr _ f0
        have q0 : w.heap.size < wr.heap.size := q0
        have q1 : w.heap.size + 1 < wr.heap.size := q1
        go_wp2_with fail
        all_goals try (go_ret; exact same_no (by repeat (first | exact HW.out.below | apply below_alloc | apply pw_below_drewN | apply below_drew1)) (HNE.out (by (intro e_; cases e_; exact absurd rfl (by assumption)))))
        have HE0 := Aside0.mk (And.intro (show a.f0 = b.f0 by assumption) (show a.f1 = b.f1 by assumption))
        clear e0 e1 e2 e3 e4 e5 e6 e7 e8 e9 e10 e11 f0 f1 f2 f3 f4 f5 f6 f7 f8 f9 f10 f11 q2 q3
        with_reducible refine (expr_same a.f2 b.f2 C1 c1 D1 d1 _ (Kd.C_alloc (Kd.C_alloc HG.out.1.2 _) _) HG.out.1.1 (Kd.C_alloc (Kd.C_alloc HJ.out.1.2 _) _) HJ.out.1.1).mono ?_
        rintro e w2 ⟨v, rfl, hv, hb⟩
        have B0 := Aside0.mk (blk_below (blk_alloc (blk_new wr _) _) hb)
        have B1 := Aside0.mk (blk_below (blk_new (wr.alloc _) _) hb)
        rw [World.size_alloc] at B1
        have HW2 := Aside0.mk (HW.out.next (below_then (below_alloc (below_alloc (Below.refl wr.heap.size wr) _) _) (by rw [World.size_alloc, World.size_alloc]; omega) hb))
        have HV := Aside0.mk hv
        have HC2 := Aside0.mk (Kd.C_below (Kd.C_alloc (Kd.C_alloc HG.out.2.2 _) _) hb)
        have HD2 := Aside0.mk (Kd.C_below (Kd.C_alloc (Kd.C_alloc HJ.out.2.2 _) _) hb)
        clear hv hb a0 a1 q0 q1
        have a0 := HW2.out.one
        have a1 := HW2.out.two
        have q0 : w.heap.size < w2.heap.size := World.block_lt_of_cell? w2 _ a0
        have q1 : w.heap.size + 1 < w2.heap.size := World.block_lt_of_cell? w2 _ a1
        have e7 := (blk_cell B0.out 7).trans (show _ = some (Value.int .i64 a.f3.f0) from rfl)
        have e8 := (blk_cell B0.out 8).trans (show _ = some (Value.int .i64 a.f3.f1) from rfl)
        have e9 := (blk_cell B0.out 9).trans (show _ = some (Value.int .i64 a.f3.f2) from rfl)
        have e10 := (blk_cell B0.out 10).trans (show _ = some (Value.int .i64 a.f3.f3) from rfl)
        have e11 := (blk_cell B0.out 11).trans (show _ = some (Value.slice C2 a.f3.f4.length c2) from rfl)
        have f7 := (blk_cell B1.out 7).trans (show _ = some (Value.int .i64 b.f3.f0) from rfl)
        have f8 := (blk_cell B1.out 8).trans (show _ = some (Value.int .i64 b.f3.f1) from rfl)
        have f9 := (blk_cell B1.out 9).trans (show _ = some (Value.int .i64 b.f3.f2) from rfl)
        have f10 := (blk_cell B1.out 10).trans (show _ = some (Value.int .i64 b.f3.f3) from rfl)
        have f11 := (blk_cell B1.out 11).trans (show _ = some (Value.slice D2 b.f3.f4.length d2) from rfl)
        cases v with
        | false =>
          go_wp2_with fail
          go_ret
          exact same_no HW2.out.below (HNE.out (by (intro e_; cases e_; exact absurd (HV.out.2 rfl) (by simp))))
        | true =>
          go_wp2_with fail
          with_reducible refine (expr_same a.f3 b.f3 C2 c2 D2 d2 _ HC2.out HG.out.2.1 HD2.out HJ.out.2.1).mono ?_
          rintro e w3 ⟨v, rfl, hv, hb⟩
          have HW3 := Aside0.mk (HW2.out.next hb)
          have HV2 := Aside0.mk hv
          clear hv hb a0 a1 q0 q1 e7 e8 e9 e10 e11 f7 f8 f9 f10 f11
          cases v with
          | false =>
            go_wp2_with fail
            go_ret
            exact same_no HW3.out.below (HNE.out (by (intro e_; cases e_; exact absurd (HV2.out.2 rfl) (by simp))))
          | true =>
            go_wp2_with fail
            go_roundg k1
            case measure => omega
            case rel => exact ⟨i + 1, by simp, ⟨by have := HK.out; omega⟩, ⟨by omega⟩, ⟨HNX.out (by obtain ⟨a0, a1, a2, a3⟩ := a; obtain ⟨b0, b1, b2, b3⟩ := b; have h0 : a0 = b0 := HE0.out.1; have h1 : a1 = b1 := HE0.out.2; have h2 : a2 = b2 := HV.out.1 (by trivial); have h3 : a3 = b3 := HV2.out.1 (by trivial); rw [h0, h1, h2, h3])⟩, HW3⟩
      · have hb0 : decide ((i : Int) < (l.length : Int)) = false := decide_eq_false (by omega)
        have HF := Aside0.mk (same_yes (HE.out (take_all hlt HM.out HT.out)) HW.out.below)
        go_wp2_with fail
        go_ret
        exact HF.out
end Go.Proofs.Ytpbdkkahodaloaa.T
end

section
namespace Go.Proofs.Ytpbdkkahodaloaa.T
open Go.RowKit Go.Proofs.Ytpbdkkahodaloaa.PS Go.Proofs.Ytpbdkkahodaloaa.U Go.Proofs.YtpbdkkahodaloaaW.PrintWords Go.Proofs.YtpbdkkahodaloaaW.PrintMore
set_option linter.unusedVariables false
set_option maxRecDepth 100000
structure Boxes (w : World) (cs ds : Array Value) (t : TypeId) (w' : World) : Prop where
  below : Below w.heap.size w w'
  one : w'.heap[w.heap.size]? = some (.cells cs t (0, 0))
  two : w'.heap[w.heap.size + 1]? = some (.cells ds t (0, 0))
theorem Boxes.next {w w' w2 : World} {cs ds : Array Value} {t : TypeId} (h : Boxes w cs ds t w') (hb : Below w'.heap.size w' w2) : Boxes w cs ds t w2 := ⟨below_then h.below h.below.size hb, blk_below h.one hb, blk_below h.two hb⟩
theorem Boxes.new (w : World) (cs ds : Array Value) (t : TypeId) : Boxes w cs ds t ((w.alloc (.cells cs t)).alloc (.cells ds t)) := by
  refine ⟨below_alloc (below_alloc (Below.refl _ _) _) _, blk_alloc (blk_new w _) _, ?_⟩
  have := blk_new (w.alloc (.cells cs t)) (.cells ds t)
  rwa [World.size_alloc] at this
theorem Boxes.lt {w w' : World} {cs ds : Array Value} {t : TypeId} (h : Boxes w cs ds t w') : w.heap.size < w'.heap.size ∧ w.heap.size + 1 < w'.heap.size := ⟨blk_lt h.one, blk_lt h.two⟩
theorem str_at {w : World} {A : Option Addr} {l : List ByteArray} (h : Kd.string.C w A l.length l) {i : Nat} {x : ByteArray} (hx : l[i]? = some x) : ∃ ad, A = some ad ∧ w.cell? (ad.add i) = some (.string x) := by
  have hi := (List.getElem?_eq_some_iff.1 hx).1
  obtain ⟨ad, cs, hA, hlen, hK, hc⟩ := Kd.C_get h (⟨#[]⟩ : ByteArray) (i : Int) (by omega) (by omega)
  have hK : cs = [.string (l.getD (i : Int).toNat ⟨#[]⟩)] := hK
  rw [Int.toNat_natCast, List.getD_eq_getElem?_getD, hx] at hK
  rw [Int.toNat_natCast] at hc
  simp only [Option.getD_some] at hK
  subst hK
  exact ⟨ad, hA, by have := hc 0 _ rfl; rwa [show Kd.string.sz = 1 from rfl, Nat.mul_one, Nat.add_zero] at this⟩
theorem eqA74 (d : Nat) (w : World) (x0 y0 : Int) (x1 y1 : Int) : (Op.equalIn (d + 2) 74 (.agg #[.int .i64 x0, .int .i64 x1]) (.agg #[.int .i64 y0, .int .i64 y1])).run Try.prog w = .ok (x0 == y0 && (x1 == y1)) w := by
  refine eqA_of Try.underlying74 (by kernel_rfl) ?_
  refine eqf_cons (by rfl) (by go_simp; rfl) (by go_simp; rfl) (by go_simp) ?_
  exact eqf_last (by rfl) (by go_simp; rfl) (by go_simp; rfl) (by go_simp)
theorem eqA69 (d : Nat) (w : World) (x0 y0 : ByteArray) (x1 y1 : Int) : (Op.equalIn (d + 2) 69 (.agg #[.string x0, .int .i64 x1]) (.agg #[.string y0, .int .i64 y1])).run Try.prog w = .ok (x0.toList == y0.toList && (x1 == y1)) w := by
  refine eqA_of Try.underlying69 (by kernel_rfl) ?_
  refine eqf_cons (by rfl) (by go_simp; rfl) (by go_simp; rfl) (by go_simp) ?_
  exact eqf_last (by rfl) (by go_simp; rfl) (by go_simp; rfl) (by go_simp)
attribute [local go_sem high] eqA74 eqA69
theorem str_ne {s t : ByteArray} (h : (!s.toList == t.toList) = true) : ¬ s = t := by
  rintro rfl; simp at h
theorem str_eq {s t : ByteArray} (h : (!s.toList == t.toList) = false) : s = t := toList_inj (by simpa using h)
theorem band_eq {s t : S74} (h : (!s.f0 == t.f0) = false ∧ (!s.f1 == t.f1) = false) : s = t := by
  obtain ⟨a, b⟩ := s; obtain ⟨c, d⟩ := t
  have h1 : a = c := by simpa using h.1
  have h2 : b = d := by simpa using h.2
  rw [h1, h2]
theorem band_ne {s t : S74} (h : (!s.f0 == t.f0) = true ∨ (!s.f1 == t.f1) = true) : ¬ s = t := by
  rintro rfl
  rcases h with h | h <;> simp at h
theorem group_eq {s t : S69} (h : (!s.f0.toList == t.f0.toList) = false ∧ (!s.f1 == t.f1) = false) : s = t := by
  obtain ⟨a, b⟩ := s; obtain ⟨c, d⟩ := t
  have h1 : a = c := str_eq h.1
  have h2 : b = d := by simpa using h.2
  rw [h1, h2]
theorem group_ne {s t : S69} (h : (!s.f0.toList == t.f0.toList) = true ∨ (!s.f1 == t.f1) = true) : ¬ s = t := by
  rintro rfl
  rcases h with h | h <;> simp at h
def headsOf (p : Pk) : ByteArray × Int × List S97 × List S72 × List S69 := (p.name, p.year, p.options, p.tables, p.groups)
set_option maxHeartbeats 8000000 in
theorem heads_same (w : World) (u v : Value) (p q : Pk) (hp : Lies w u p) (hq : Lies w v q) : Calls Try.prog 57 #[u, v] w (SamePost (headsOf p) (headsOf q) w) := by
  obtain ⟨A2, c2, A3, c3, A4, c4, A5, c5, A6, c6, rfl, hx2, hx3, hx4, _, _⟩ := hp
  obtain ⟨B2, d2, B3, d3, B4, d4, B5, d5, B6, d6, rfl, hy2, hy3, hy4, _, _⟩ := hq
  obtain ⟨x0, x1, xo, xt, xg, xl, xc⟩ := p
  obtain ⟨y0, y1, yo, yt, yg, yl, yc⟩ := q
  replace hx2 : k97.C w A2 xo.length xo := hx2
  replace hx3 : k72.C w A3 xt.length xt := hx3
  replace hx4 : k69.C w A4 xg.length xg := hx4
  replace hy2 : k97.C w B2 yo.length yo := hy2
  replace hy3 : k72.C w B3 yt.length yt := hy3
  replace hy4 : k69.C w B4 yg.length yg := hy4
  show Calls Try.prog 57 #[.agg #[.string x0, .int .i64 x1, .slice A2 xo.length c2, .slice A3 xt.length c3, .slice A4 xg.length c4, .slice A5 xl.length c5, .slice A6 xc.length c6], .agg #[.string y0, .int .i64 y1, .slice B2 yo.length d2, .slice B3 yt.length d3, .slice B4 yg.length d4, .slice B5 yl.length d5, .slice B6 yc.length d6]] w (SamePost (x0, x1, xo, xt, xg) (y0, y1, yo, yt, yg) w)
  have HX2 := Aside0.mk hx2
  have HX3 := Aside0.mk hx3
  have HX4 := Aside0.mk hx4
  have HY2 := Aside0.mk hy2
  have HY3 := Aside0.mk hy3
  have HY4 := Aside0.mk hy4
  clear hx2 hx3 hx4 hy2 hy3 hy4
  go_enter Try.func57, Try.ntmps57
  go_wp2_with fail
  all_goals try (go_ret; exact same_no (by repeat (first | exact Below.refl _ _ | apply below_alloc | apply pw_below_drewN | apply below_drew1)))
  rename_i g0 g1 g2 g3 g4 _ _
  try rw [g4]
  obtain rfl := g1
  have HM2 := Aside0.mk (show xo.length = yo.length by omega)
  have HM3 := Aside0.mk (show xt.length = yt.length by omega)
  have HM4 := Aside0.mk (len_same g4)
  have HE := Aside0.mk (show xo = yo → xt = yt → xg = yg → (x0, x1, xo, xt, xg) = (y0, x1, yo, yt, yg) from fun a b c => by rw [toList_inj g0, a, b, c])
  have HN2 := Aside0.mk (show ¬ xo = yo → ¬ (x0, x1, xo, xt, xg) = (y0, x1, yo, yt, yg) from fun h e => h (by cases e; rfl))
  have HN3 := Aside0.mk (show ¬ xt = yt → ¬ (x0, x1, xo, xt, xg) = (y0, x1, yo, yt, yg) from fun h e => h (by cases e; rfl))
  have HN4 := Aside0.mk (show ¬ xg = yg → ¬ (x0, x1, xo, xt, xg) = (y0, x1, yo, yt, yg) from fun h e => h (by cases e; rfl))
  clear g0 g2 g3 g4
  rw [← HM2.out] at HY2
  rw [← HM3.out] at HY3
  rw [← HM4.out] at HY4
  rw [← HM2.out, ← HM3.out, ← HM4.out]
  have hmax2 : xo.length ≤ 9223372036854775807 := HX2.out.2.1
  go_loopg [5] (xo.length + 1) (fun kq v5 w' => ∃ i : Nat, v5 = .int .i64 (i : Int) ∧ Aside0 (kq + i = xo.length + 1) ∧ Aside0 (i ≤ xo.length) ∧ Aside0 (xo.take i = yo.take i) ∧ Aside0 (Boxes w #[.string x0, .int .i64 x1, .slice A2 xo.length c2, .slice A3 xt.length c3, .slice A4 xg.length c4, .slice A5 xl.length c5, .slice A6 xc.length c6] #[.string y0, .int .i64 x1, .slice B2 xo.length d2, .slice B3 xt.length d3, .slice B4 xg.length d4, .slice B5 yl.length d5, .slice B6 yc.length d6] 33 w'))
  case atStart => exact ⟨0, rfl, ⟨by omega⟩, ⟨by omega⟩, ⟨rfl⟩, ⟨Boxes.new w _ _ _⟩⟩
  case round =>
    obtain ⟨i, rfl, HK, HI, HT, HW⟩ := hrel
    cases gk with
    | zero => exact absurd HK.out (by have := HI.out; omega)
    | succ k1 =>
      have a0 := (blk_cell HW.out.one 2).trans (show _ = some (Value.slice A2 xo.length c2) from rfl)
      have a1 := (blk_cell HW.out.two 2).trans (show _ = some (Value.slice B2 xo.length d2) from rfl)
      obtain ⟨q0, q1⟩ := HW.out.lt
      by_cases hlt : i < xo.length
      · have hb0 : decide ((i : Int) < (xo.length : Int)) = true := decide_eq_true (by omega)
        obtain ⟨a, ha⟩ : ∃ a, xo[i]? = some a := ⟨_, List.getElem?_eq_getElem hlt⟩
        obtain ⟨b, hb⟩ : ∃ b, yo[i]? = some b := ⟨_, List.getElem?_eq_getElem (by have := HM2.out; omega)⟩
        have hra : rd_T97 xo (i : Int) = a := by unfold rd_T97; rw [Int.toNat_natCast, List.getD_eq_getElem?_getD, ha]; rfl
        have hrb : rd_T97 yo (i : Int) = b := by unfold rd_T97; rw [Int.toNat_natCast, List.getD_eq_getElem?_getD, hb]; rfl
        have HNE := Aside0.mk (fun h => HN2.out (ne_at ha hb h))
        have HNX := Aside0.mk (fun h => drop_next ha hb HT.out h)
        obtain ⟨ad, C1, c1, hA, e0, e1, l1, g1⟩ := at_T97 (Kd.C_below HX2.out HW.out.below) (i : Int) (by omega) (by omega)
        obtain ⟨bd, D1, d1, hB, f0, f1, m1, j1⟩ := at_T97 (Kd.C_below HY2.out HW.out.below) (i : Int) (by omega) (by omega)
        subst hA hB
        rw [hra] at e0 e1 l1 g1
        rw [hrb] at f0 f1 m1 j1
        rw [Int.toNat_natCast] at e0 e1 f0 f1
        have HG := Aside0.mk g1
        have HJ := Aside0.mk j1
        clear hra hrb ha hb l1 g1 m1 j1
        have p0 : (0 : Int) ≤ (i : Int) := by omega
        have p1 : (i : Int) < (xo.length : Int) := by omega
        have q2 := World.block_lt_of_cell? wr _ e0
        have q3 := World.block_lt_of_cell? wr _ f0
        go_wp2_with fail
        all_goals try (go_ret; exact same_no (by repeat (first | exact HW.out.below | apply below_alloc | apply pw_below_drewN | apply below_drew1)) (HNE.out (by (intro e_; cases e_; first | exact absurd rfl (by assumption) | (have h_ : ∀ z : Int, ¬ ((z != z) = true) := (fun z => by simp); exact absurd (by assumption) (h_ _))))))
        have r0 := toList_inj (show a.f0.toList = b.f0.toList by assumption)
        have r1 : ((a.f1.length : Int) != (b.f1.length : Int)) = false := by assumption
        rw [r1]
        have HM := Aside0.mk (len_same r1)
        have HQ := Aside0.mk (show a.f1 = b.f1 → a = b from fun h => by obtain ⟨_, _⟩ := a; obtain ⟨_, _⟩ := b; cases r0; cases h; rfl)
        rw [← HM.out] at HJ
        rw [← HM.out]
        have hmx : a.f1.length ≤ 9223372036854775807 := HG.out.2.1
        clear r0 r1 e0 e1 f0 f1 q2 q3 p0 p1
        obtain ⟨wq, hwq⟩ : ∃ wq, wq = wr := ⟨_, rfl⟩
        subst hwq
        go_loopg [8] (a.f1.length + 1) (fun kq v8 w' => ∃ j : Nat, v8 = .int .i64 (j : Int) ∧ Aside0 (kq + j = a.f1.length + 1) ∧ Aside0 (j ≤ a.f1.length) ∧ Aside0 (a.f1.take j = b.f1.take j) ∧ Aside0 (Two wq 1 (.slice C1 a.f1.length c1) (.slice D1 a.f1.length d1) w'))
        case atStart => exact ⟨0, rfl, ⟨by omega⟩, ⟨by omega⟩, ⟨rfl⟩, ⟨Two.new wq _ _ _ 1 rfl rfl⟩⟩
        case round =>
          obtain ⟨j, rfl, HKj, HIj, HTj, HWj⟩ := hrel
          cases gk with
          | zero => exact absurd HKj.out (by have := HIj.out; omega)
          | succ k2 =>
            have s0 := HWj.out.one
            have s1 := HWj.out.two
            by_cases hlj : j < a.f1.length
            · have hb1 : decide ((j : Int) < (a.f1.length : Int)) = true := decide_eq_true (by omega)
              obtain ⟨s, hs⟩ : ∃ s, a.f1[j]? = some s := ⟨_, List.getElem?_eq_getElem hlj⟩
              obtain ⟨t, ht⟩ : ∃ t, b.f1[j]? = some t := ⟨_, List.getElem?_eq_getElem (by have := HM.out; omega)⟩
              obtain ⟨sd, hA, e0⟩ := str_at (Kd.C_below HG.out HWj.out.below) hs
              have HJ2 := Kd.C_below HJ.out HWj.out.below
              rw [HM.out] at HJ2
              obtain ⟨td, hB, f0⟩ := str_at HJ2 ht
              clear HJ2
              subst hA hB
              have HNEj := Aside0.mk (fun h => HNE.out (fun e => ne_at hs ht h (by rw [e])))
              have HNXj := Aside0.mk (fun h => drop_next hs ht HTj.out h)
              have HBB := Aside0.mk (below_then HW.out.below HW.out.below.size HWj.out.below)
              clear hs ht
              have p0 : (0 : Int) ≤ (j : Int) := by omega
              have p1 : (j : Int) < (a.f1.length : Int) := by omega
              go_wp2_with fail
              go_quiet (fail)
              go_wp2_with fail
              all_goals try (go_ret; exact same_no (by repeat (first | exact HBB.out | apply below_alloc | apply pw_below_drewN | apply below_drew1)) (HNEj.out (by (intro e_; exact str_ne (by assumption) e_))))
              go_roundg k2
              case measure => omega
              case rel => exact ⟨j + 1, by simp, ⟨by have := HKj.out; omega⟩, ⟨by omega⟩, ⟨HNXj.out (str_eq (by assumption))⟩, ⟨HWj.out.next (pw_below_drewN (Below.refl _ _) _)⟩⟩
            · have hb1 : decide ((j : Int) < (a.f1.length : Int)) = false := decide_eq_false (by omega)
              have HQQ := Aside0.mk (HQ.out (take_all hlj HM.out HTj.out))
              go_wp2_with fail
              go_roundg k1
              case measure => omega
              case rel => exact ⟨i + 1, by simp, ⟨by have := HK.out; omega⟩, ⟨by omega⟩, ⟨HNX.out HQQ.out⟩, ⟨HW.out.next HWj.out.below⟩⟩
      · have hb0 : decide ((i : Int) < (xo.length : Int)) = false := decide_eq_false (by omega)
        have HR2 := Aside0.mk (take_all hlt HM2.out HT.out)
        have HP2 := HW
        clear HK HI HT HW hb0
        obtain ⟨v2, hv2⟩ : ∃ v2, v2 = wr := ⟨_, rfl⟩
        subst hv2
        go_wp2_with fail
        have hmax3 : xt.length ≤ 9223372036854775807 := HX3.out.2.1
        go_loopg [9] (xt.length + 1) (fun kq v5 w' => ∃ i : Nat, v5 = .int .i64 (i : Int) ∧ Aside0 (kq + i = xt.length + 1) ∧ Aside0 (i ≤ xt.length) ∧ Aside0 (xt.take i = yt.take i) ∧ Aside0 (Boxes w #[.string x0, .int .i64 x1, .slice A2 xo.length c2, .slice A3 xt.length c3, .slice A4 xg.length c4, .slice A5 xl.length c5, .slice A6 xc.length c6] #[.string y0, .int .i64 x1, .slice B2 xo.length d2, .slice B3 xt.length d3, .slice B4 xg.length d4, .slice B5 yl.length d5, .slice B6 yc.length d6] 33 w'))
        case atStart => exact ⟨0, rfl, ⟨by omega⟩, ⟨by omega⟩, ⟨rfl⟩, HP2⟩
        case round =>
          obtain ⟨i, rfl, HK, HI, HT, HW⟩ := hrel
          cases gk with
          | zero => exact absurd HK.out (by have := HI.out; omega)
          | succ k1 =>
            have a0 := (blk_cell HW.out.one 3).trans (show _ = some (Value.slice A3 xt.length c3) from rfl)
            have a1 := (blk_cell HW.out.two 3).trans (show _ = some (Value.slice B3 xt.length d3) from rfl)
            obtain ⟨q0, q1⟩ := HW.out.lt
            by_cases hlt : i < xt.length
            · have hb0 : decide ((i : Int) < (xt.length : Int)) = true := decide_eq_true (by omega)
              obtain ⟨a, ha⟩ : ∃ a, xt[i]? = some a := ⟨_, List.getElem?_eq_getElem hlt⟩
              obtain ⟨b, hb⟩ : ∃ b, yt[i]? = some b := ⟨_, List.getElem?_eq_getElem (by have := HM3.out; omega)⟩
              have hra : rd_T72 xt (i : Int) = a := by unfold rd_T72; rw [Int.toNat_natCast, List.getD_eq_getElem?_getD, ha]; rfl
              have hrb : rd_T72 yt (i : Int) = b := by unfold rd_T72; rw [Int.toNat_natCast, List.getD_eq_getElem?_getD, hb]; rfl
              have HNE := Aside0.mk (fun h => HN3.out (ne_at ha hb h))
              have HNX := Aside0.mk (fun h => drop_next ha hb HT.out h)
              obtain ⟨ad, C1, c1, hA, e0, e1, l1, g1⟩ := at_T72 (Kd.C_below HX3.out HW.out.below) (i : Int) (by omega) (by omega)
              obtain ⟨bd, D1, d1, hB, f0, f1, m1, j1⟩ := at_T72 (Kd.C_below HY3.out HW.out.below) (i : Int) (by omega) (by omega)
              subst hA hB
              rw [hra] at e0 e1 l1 g1
              rw [hrb] at f0 f1 m1 j1
              rw [Int.toNat_natCast] at e0 e1 f0 f1
              have HG := Aside0.mk g1
              have HJ := Aside0.mk j1
              clear hra hrb ha hb l1 g1 m1 j1
              have p0 : (0 : Int) ≤ (i : Int) := by omega
              have p1 : (i : Int) < (xt.length : Int) := by omega
              have q2 := World.block_lt_of_cell? wr _ e0
              have q3 := World.block_lt_of_cell? wr _ f0
              go_wp2_with fail
              all_goals try (go_ret; exact same_no (by repeat (first | exact HW.out.below | apply below_alloc | apply pw_below_drewN | apply below_drew1)) (HNE.out (by (intro e_; cases e_; first | exact absurd rfl (by assumption) | (have h_ : ∀ z : Int, ¬ ((z != z) = true) := (fun z => by simp); exact absurd (by assumption) (h_ _))))))
              have r0 := toList_inj (show a.f0.toList = b.f0.toList by assumption)
              have r1 : ((a.f1.length : Int) != (b.f1.length : Int)) = false := by assumption
              rw [r1]
              have HM := Aside0.mk (len_same r1)
              have HQ := Aside0.mk (show a.f1 = b.f1 → a = b from fun h => by obtain ⟨_, _⟩ := a; obtain ⟨_, _⟩ := b; cases r0; cases h; rfl)
              rw [← HM.out] at HJ
              rw [← HM.out]
              have hmx : a.f1.length ≤ 9223372036854775807 := HG.out.2.1
              clear r0 r1 e0 e1 f0 f1 q2 q3 p0 p1
              obtain ⟨wq, hwq⟩ : ∃ wq, wq = wr := ⟨_, rfl⟩
              subst hwq
              go_loopg [12] (a.f1.length + 1) (fun kq v8 w' => ∃ j : Nat, v8 = .int .i64 (j : Int) ∧ Aside0 (kq + j = a.f1.length + 1) ∧ Aside0 (j ≤ a.f1.length) ∧ Aside0 (a.f1.take j = b.f1.take j) ∧ Aside0 (Two wq 1 (.slice C1 a.f1.length c1) (.slice D1 a.f1.length d1) w'))
              case atStart => exact ⟨0, rfl, ⟨by omega⟩, ⟨by omega⟩, ⟨rfl⟩, ⟨Two.new wq _ _ _ 1 rfl rfl⟩⟩
              case round =>
                obtain ⟨j, rfl, HKj, HIj, HTj, HWj⟩ := hrel
                cases gk with
                | zero => exact absurd HKj.out (by have := HIj.out; omega)
                | succ k2 =>
                  have s0 := HWj.out.one
                  have s1 := HWj.out.two
                  by_cases hlj : j < a.f1.length
                  · have hb1 : decide ((j : Int) < (a.f1.length : Int)) = true := decide_eq_true (by omega)
                    obtain ⟨s, hs⟩ : ∃ s, a.f1[j]? = some s := ⟨_, List.getElem?_eq_getElem hlj⟩
                    obtain ⟨t, ht⟩ : ∃ t, b.f1[j]? = some t := ⟨_, List.getElem?_eq_getElem (by have := HM.out; omega)⟩
                    have hrs : rd_T74 a.f1 (j : Int) = s := by unfold rd_T74; rw [Int.toNat_natCast, List.getD_eq_getElem?_getD, hs]; rfl
                    have hrt : rd_T74 b.f1 (j : Int) = t := by unfold rd_T74; rw [Int.toNat_natCast, List.getD_eq_getElem?_getD, ht]; rfl
                    obtain ⟨sd, hA, e0, e1⟩ := at_T74 (Kd.C_below HG.out HWj.out.below) (j : Int) (by omega) (by omega)
                    obtain ⟨td, hB, f0, f1⟩ := at_T74 (Kd.C_below HJ.out HWj.out.below) (j : Int) (by omega) (by omega)
                    rw [hrs] at e0 e1
                    rw [hrt] at f0 f1
                    rw [Int.toNat_natCast] at e0 e1 f0 f1
                    clear hrs hrt
                    subst hA hB
                    have HNEj := Aside0.mk (fun h => HNE.out (fun e => ne_at hs ht h (by rw [e])))
                    have HNXj := Aside0.mk (fun h => drop_next hs ht HTj.out h)
                    have HBB := Aside0.mk (below_then HW.out.below HW.out.below.size HWj.out.below)
                    clear hs ht
                    have p0 : (0 : Int) ≤ (j : Int) := by omega
                    have p1 : (j : Int) < (a.f1.length : Int) := by omega
                    go_wp2_with fail
                    go_quiet (fail)
                    go_wp2_with fail
                    all_goals try (go_ret; exact same_no (by repeat (first | exact HBB.out | apply below_alloc | apply pw_below_drewN | apply below_drew1)) (HNEj.out (by (intro e_; exact band_ne (by assumption) e_))))
                    go_roundg k2
                    case measure => omega
                    case rel => exact ⟨j + 1, by simp, ⟨by have := HKj.out; omega⟩, ⟨by omega⟩, ⟨HNXj.out (band_eq (by assumption))⟩, ⟨HWj.out.next (pw_below_drewN (Below.refl _ _) _)⟩⟩
                  · have hb1 : decide ((j : Int) < (a.f1.length : Int)) = false := decide_eq_false (by omega)
                    have HQQ := Aside0.mk (HQ.out (take_all hlj HM.out HTj.out))
                    go_wp2_with fail
                    go_roundg k1
                    case measure => omega
                    case rel => exact ⟨i + 1, by simp, ⟨by have := HK.out; omega⟩, ⟨by omega⟩, ⟨HNX.out HQQ.out⟩, ⟨HW.out.next HWj.out.below⟩⟩
            · have hb0 : decide ((i : Int) < (xt.length : Int)) = false := decide_eq_false (by omega)
              have HR3 := Aside0.mk (take_all hlt HM3.out HT.out)
              have HP3 := HW
              clear HK HI HT HW hb0
              obtain ⟨v3, hv3⟩ : ∃ v3, v3 = wr := ⟨_, rfl⟩
              subst hv3
              go_wp2_with fail
              have hmax4 : xg.length ≤ 9223372036854775807 := HX4.out.2.1
              go_loopg [13] (xg.length + 1) (fun kq v5 w' => ∃ i : Nat, v5 = .int .i64 (i : Int) ∧ Aside0 (kq + i = xg.length + 1) ∧ Aside0 (i ≤ xg.length) ∧ Aside0 (xg.take i = yg.take i) ∧ Aside0 (Boxes w #[.string x0, .int .i64 x1, .slice A2 xo.length c2, .slice A3 xt.length c3, .slice A4 xg.length c4, .slice A5 xl.length c5, .slice A6 xc.length c6] #[.string y0, .int .i64 x1, .slice B2 xo.length d2, .slice B3 xt.length d3, .slice B4 xg.length d4, .slice B5 yl.length d5, .slice B6 yc.length d6] 33 w'))
              case atStart => exact ⟨0, rfl, ⟨by omega⟩, ⟨by omega⟩, ⟨rfl⟩, HP3⟩
              case round =>
                obtain ⟨i, rfl, HK, HI, HT, HW⟩ := hrel
                cases gk with
                | zero => exact absurd HK.out (by have := HI.out; omega)
                | succ k1 =>
                  have a0 := (blk_cell HW.out.one 4).trans (show _ = some (Value.slice A4 xg.length c4) from rfl)
                  have a1 := (blk_cell HW.out.two 4).trans (show _ = some (Value.slice B4 xg.length d4) from rfl)
                  obtain ⟨q0, q1⟩ := HW.out.lt
                  by_cases hlt : i < xg.length
                  · have hb0 : decide ((i : Int) < (xg.length : Int)) = true := decide_eq_true (by omega)
                    obtain ⟨a, ha⟩ : ∃ a, xg[i]? = some a := ⟨_, List.getElem?_eq_getElem hlt⟩
                    obtain ⟨b, hb⟩ : ∃ b, yg[i]? = some b := ⟨_, List.getElem?_eq_getElem (by have := HM4.out; omega)⟩
                    have hra : rd_T69 xg (i : Int) = a := by unfold rd_T69; rw [Int.toNat_natCast, List.getD_eq_getElem?_getD, ha]; rfl
                    have hrb : rd_T69 yg (i : Int) = b := by unfold rd_T69; rw [Int.toNat_natCast, List.getD_eq_getElem?_getD, hb]; rfl
                    have HNE := Aside0.mk (fun h => HN4.out (ne_at ha hb h))
                    have HNX := Aside0.mk (fun h => drop_next ha hb HT.out h)
                    obtain ⟨ad, hA, e0, e1⟩ := at_T69 (Kd.C_below HX4.out HW.out.below) (i : Int) (by omega) (by omega)
                    obtain ⟨bd, hB, f0, f1⟩ := at_T69 (Kd.C_below HY4.out HW.out.below) (i : Int) (by omega) (by omega)
                    subst hA hB
                    rw [hra] at e0 e1
                    rw [hrb] at f0 f1
                    rw [Int.toNat_natCast] at e0 e1 f0 f1
                    clear hra hrb ha hb
                    have p0 : (0 : Int) ≤ (i : Int) := by omega
                    have p1 : (i : Int) < (xg.length : Int) := by omega
                    go_wp2_with fail
                    go_quiet (fail)
                    go_wp2_with fail
                    all_goals try (go_ret; exact same_no (by repeat (first | exact HW.out.below | apply below_alloc | apply pw_below_drewN | apply below_drew1)) (HNE.out (by (intro e_; exact group_ne (by assumption) e_))))
                    go_roundg k1
                    case measure => omega
                    case rel => exact ⟨i + 1, by simp, ⟨by have := HK.out; omega⟩, ⟨by omega⟩, ⟨HNX.out (group_eq (by assumption))⟩, ⟨HW.out.next (pw_below_drewN (Below.refl _ _) _)⟩⟩
                  · have hb0 : decide ((i : Int) < (xg.length : Int)) = false := decide_eq_false (by omega)
                    have HR4 := Aside0.mk (take_all hlt HM4.out HT.out)
                    have HP4 := HW
                    clear HK HI HT HW hb0
                    obtain ⟨v4, hv4⟩ : ∃ v4, v4 = wr := ⟨_, rfl⟩
                    subst hv4
                    go_wp2_with fail
                    go_ret
                    exact same_yes (HE.out HR2.out HR3.out HR4.out) (by repeat (first | exact HP4.out.below | apply below_alloc | apply pw_below_drewN | apply below_drew1))
end Go.Proofs.Ytpbdkkahodaloaa.T
end

section
namespace Go.Proofs.Ytpbdkkahodaloaa.T
open Go.RowKit Go.Proofs.Ytpbdkkahodaloaa.PS Go.Proofs.Ytpbdkkahodaloaa.U Go.Proofs.YtpbdkkahodaloaaW.PrintWords Go.Proofs.YtpbdkkahodaloaaW.PrintMore
set_option linter.unusedVariables false
set_option maxRecDepth 100000
set_option maxHeartbeats 8000000 in
theorem pack_same (w : World) (u v : Value) (p q : Pk) (hp : Lies w u p) (hq : Lies w v q) : Calls Try.prog 20 #[u, v] w (SamePost p q w) := by
  obtain ⟨A2, c2, A3, c3, A4, c4, A5, c5, A6, c6, rfl, hx2, hx3, hx4, hx5, hx6, hxc⟩ := hp
  obtain ⟨B2, d2, B3, d3, B4, d4, B5, d5, B6, d6, rfl, hy2, hy3, hy4, hy5, hy6, hyc⟩ := hq
  obtain ⟨x0, x1, xo, xt, xg, xl, xc⟩ := p
  obtain ⟨y0, y1, yo, yt, yg, yl, yc⟩ := q
  replace hx2 : k97.C w A2 xo.length xo := hx2
  replace hx3 : k72.C w A3 xt.length xt := hx3
  replace hx4 : k69.C w A4 xg.length xg := hx4
  replace hx5 : k77.C w A5 xl.length xl := hx5
  replace hx6 : k82.C w A6 xc.length xc := hx6
  replace hy2 : k97.C w B2 yo.length yo := hy2
  replace hy3 : k72.C w B3 yt.length yt := hy3
  replace hy4 : k69.C w B4 yg.length yg := hy4
  replace hy5 : k77.C w B5 yl.length yl := hy5
  replace hy6 : k82.C w B6 yc.length yc := hy6
  show Calls Try.prog 20 #[.agg #[.string x0, .int .i64 x1, .slice A2 xo.length c2, .slice A3 xt.length c3, .slice A4 xg.length c4, .slice A5 xl.length c5, .slice A6 xc.length c6], .agg #[.string y0, .int .i64 y1, .slice B2 yo.length d2, .slice B3 yt.length d3, .slice B4 yg.length d4, .slice B5 yl.length d5, .slice B6 yc.length d6]] w (SamePost _ _ w)
  have HXA := Aside0.mk (show Lies w (.agg #[.string x0, .int .i64 x1, .slice A2 xo.length c2, .slice A3 xt.length c3, .slice A4 xg.length c4, .slice A5 xl.length c5, .slice A6 xc.length c6]) ⟨x0, x1, xo, xt, xg, xl, xc⟩ from ⟨A2, c2, A3, c3, A4, c4, A5, c5, A6, c6, rfl, hx2, hx3, hx4, hx5, hx6, hxc⟩)
  have HYA := Aside0.mk (show Lies w (.agg #[.string y0, .int .i64 y1, .slice B2 yo.length d2, .slice B3 yt.length d3, .slice B4 yg.length d4, .slice B5 yl.length d5, .slice B6 yc.length d6]) ⟨y0, y1, yo, yt, yg, yl, yc⟩ from ⟨B2, d2, B3, d3, B4, d4, B5, d5, B6, d6, rfl, hy2, hy3, hy4, hy5, hy6, hyc⟩)
  have HX5 := Aside0.mk hx5
  have HX6 := Aside0.mk hx6
  have HY5 := Aside0.mk hy5
  have HY6 := Aside0.mk hy6
  clear hx2 hx3 hx4 hx5 hx6 hy2 hy3 hy4 hy5 hy6 hxc hyc
  go_enter Try.func20, Try.ntmps20
  go_wp2_with fail
  with_reducible refine (heads_same _ _ _ ⟨x0, x1, xo, xt, xg, xl, xc⟩ ⟨y0, y1, yo, yt, yg, yl, yc⟩ (HXA.out.below (below_alloc (below_alloc (Below.refl _ _) _) _)) (HYA.out.below (below_alloc (below_alloc (Below.refl _ _) _) _))).mono ?_
  rintro e w2 ⟨v, rfl, hv, hb⟩
  have HW := Aside0.mk ((Boxes.new w _ _ 33).next hb)
  have a0 := (blk_cell HW.out.one 5).trans (show _ = some (Value.slice A5 xl.length c5) from rfl)
  have a1 := (blk_cell HW.out.two 5).trans (show _ = some (Value.slice B5 yl.length d5) from rfl)
  have a2 := (blk_cell HW.out.one 6).trans (show _ = some (Value.slice A6 xc.length c6) from rfl)
  have a3 := (blk_cell HW.out.two 6).trans (show _ = some (Value.slice B6 yc.length d6) from rfl)
  obtain ⟨q0, q1⟩ := HW.out.lt
  cases v with
  | false =>
    have HN := Aside0.mk (show ¬ (⟨x0, x1, xo, xt, xg, xl, xc⟩ : Pk) = ⟨y0, y1, yo, yt, yg, yl, yc⟩ from fun e => by cases e; exact absurd (hv.2 rfl) (by simp))
    go_wp2_with fail
    go_ret
    exact same_no HW.out.below HN.out
  | true =>
    have HV := Aside0.mk (hv.1 rfl)
    clear hv
    go_wp2_with fail
    all_goals try (go_ret; exact same_no HW.out.below)
    rename_i g5 g6 _ _
    try rw [g6]
    have HM5 := Aside0.mk (show xl.length = yl.length by omega)
    have HM6 := Aside0.mk (len_same g6)
    have HE := Aside0.mk (show xl = yl → xc = yc → (⟨x0, x1, xo, xt, xg, xl, xc⟩ : Pk) = ⟨y0, y1, yo, yt, yg, yl, yc⟩ from fun a b => by have h := HV.out; unfold headsOf at h; simp only [Prod.mk.injEq] at h; obtain ⟨h0, h1, h2, h3, h4⟩ := h; rw [h0, h1, h2, h3, h4, a, b])
    have HN5 := Aside0.mk (show ¬ xl = yl → ¬ (⟨x0, x1, xo, xt, xg, xl, xc⟩ : Pk) = ⟨y0, y1, yo, yt, yg, yl, yc⟩ from fun h e => h (by cases e; rfl))
    have HN6 := Aside0.mk (show ¬ xc = yc → ¬ (⟨x0, x1, xo, xt, xg, xl, xc⟩ : Pk) = ⟨y0, y1, yo, yt, yg, yl, yc⟩ from fun h e => h (by cases e; rfl))
    clear g5 g6
    rw [← HM5.out] at HY5 a1
    rw [← HM6.out] at HY6 a3
    rw [← HM5.out, ← HM6.out] at HW
    rw [← HM5.out, ← HM6.out]
    have hmax5 : xl.length ≤ 9223372036854775807 := HX5.out.2.1
    have hmax6 : xc.length ≤ 9223372036854775807 := HX6.out.2.1
    clear a0 a1 a2 a3 q0 q1
    go_loopg [5] (xl.length + 1) (fun kq v5 w' => ∃ i : Nat, v5 = .int .i64 (i : Int) ∧ Aside0 (kq + i = xl.length + 1) ∧ Aside0 (i ≤ xl.length) ∧ Aside0 (xl.take i = yl.take i) ∧ Aside0 (Boxes w #[.string x0, .int .i64 x1, .slice A2 xo.length c2, .slice A3 xt.length c3, .slice A4 xg.length c4, .slice A5 xl.length c5, .slice A6 xc.length c6] #[.string y0, .int .i64 y1, .slice B2 yo.length d2, .slice B3 yt.length d3, .slice B4 yg.length d4, .slice B5 xl.length d5, .slice B6 xc.length d6] 33 w'))
    case atStart => exact ⟨0, rfl, ⟨by omega⟩, ⟨by omega⟩, ⟨rfl⟩, HW⟩
    case round =>
      clear HW
      obtain ⟨i, rfl, HK, HI, HT, HW⟩ := hrel
      cases gk with
      | zero => exact absurd HK.out (by have := HI.out; omega)
      | succ k1 =>
        have a0 := (blk_cell HW.out.one 5).trans (show _ = some (Value.slice A5 xl.length c5) from rfl)
        have a1 := (blk_cell HW.out.two 5).trans (show _ = some (Value.slice B5 xl.length d5) from rfl)
        obtain ⟨q0, q1⟩ := HW.out.lt
        by_cases hlt : i < xl.length
        · have hb0 : decide ((i : Int) < (xl.length : Int)) = true := decide_eq_true (by omega)
          obtain ⟨a, ha⟩ : ∃ a, xl[i]? = some a := ⟨_, List.getElem?_eq_getElem hlt⟩
          obtain ⟨b, hb⟩ : ∃ b, yl[i]? = some b := ⟨_, List.getElem?_eq_getElem (by have := HM5.out; omega)⟩
          have hra : rd_T77 xl (i : Int) = a := by unfold rd_T77; rw [Int.toNat_natCast, List.getD_eq_getElem?_getD, ha]; rfl
          have hrb : rd_T77 yl (i : Int) = b := by unfold rd_T77; rw [Int.toNat_natCast, List.getD_eq_getElem?_getD, hb]; rfl
          have HNE := Aside0.mk (fun h => HN5.out (ne_at ha hb h))
          have HNX := Aside0.mk (fun h => drop_next ha hb HT.out h)
          obtain ⟨ad, C1, c1, hA, e0, e1, e2, e3, e4, e5, e6, l1, g1⟩ := at_T77 (Kd.C_below HX5.out HW.out.below) (i : Int) (by omega) (by omega)
          obtain ⟨bd, D1, d1, hB, f0, f1, f2, f3, f4, f5, f6, m1, j1⟩ := at_T77 (Kd.C_below HY5.out HW.out.below) (i : Int) (by omega) (by omega)
          subst hA hB
          rw [hra] at e0 e1 e2 e3 e4 e5 e6 l1 g1
          rw [hrb] at f0 f1 f2 f3 f4 f5 f6 m1 j1
          rw [Int.toNat_natCast] at e0 e1 e2 e3 e4 e5 e6 f0 f1 f2 f3 f4 f5 f6
          have HG := Aside0.mk g1
          have HJ := Aside0.mk j1
          have cw := Aside0.mk (fun (W : World) (hW : Below wr.heap.size wr W) => line_same a b C1 c1 D1 d1 W (Kd.C_below HG.out hW) (Kd.C_below HJ.out hW))
          clear hra hrb ha hb l1 g1 m1 j1
          have p0 : (0 : Int) ≤ (i : Int) := by omega
          have p1 : (i : Int) < (xl.length : Int) := by omega
          have hdr : Below wr.heap.size wr wr := Below.refl _ _
          go_upto_region 6 with (fail)
          go_region_held3 (fun w' => w'.cell? ⟨w.heap.size, 5, none⟩ = some (.slice (some ad) xl.length c5) ∧ w'.cell? ⟨w.heap.size + 1, 5, none⟩ = some (.slice (some bd) xl.length d5) ∧ w'.cell? (ad.add (i * 7)) = some (.string a.f0) ∧ w'.cell? ⟨(ad.add (i * 7)).block, (ad.add (i * 7)).off + 1, none⟩ = some (.bool a.f1) ∧ w'.cell? ⟨(ad.add (i * 7)).block, (ad.add (i * 7)).off + 2, none⟩ = some (.bool a.f2) ∧ w'.cell? ⟨(ad.add (i * 7)).block, (ad.add (i * 7)).off + 3, none⟩ = some (.int .i64 a.f3) ∧ w'.cell? ⟨(ad.add (i * 7)).block, (ad.add (i * 7)).off + 4, none⟩ = some (.int .i64 a.f4) ∧ w'.cell? ⟨(ad.add (i * 7)).block, (ad.add (i * 7)).off + 5, none⟩ = some (.int .i64 a.f5) ∧ w'.cell? ⟨(ad.add (i * 7)).block, (ad.add (i * 7)).off + 6, none⟩ = some (.slice C1 a.f6.length c1) ∧ w'.cell? (bd.add (i * 7)) = some (.string b.f0) ∧ w'.cell? ⟨(bd.add (i * 7)).block, (bd.add (i * 7)).off + 1, none⟩ = some (.bool b.f1) ∧ w'.cell? ⟨(bd.add (i * 7)).block, (bd.add (i * 7)).off + 2, none⟩ = some (.bool b.f2) ∧ w'.cell? ⟨(bd.add (i * 7)).block, (bd.add (i * 7)).off + 3, none⟩ = some (.int .i64 b.f3) ∧ w'.cell? ⟨(bd.add (i * 7)).block, (bd.add (i * 7)).off + 4, none⟩ = some (.int .i64 b.f4) ∧ w'.cell? ⟨(bd.add (i * 7)).block, (bd.add (i * 7)).off + 5, none⟩ = some (.int .i64 b.f5) ∧ w'.cell? ⟨(bd.add (i * 7)).block, (bd.add (i * 7)).off + 6, none⟩ = some (.slice D1 b.f6.length d1) ∧ Below wr.heap.size wr w')
            (first | ((try go_split_ands); refine ⟨?_, ?_, ?_, ?_, ?_, ?_, ?_, ?_, ?_, ?_, ?_, ?_, ?_, ?_, ?_, ?_, ?_⟩ <;> (first | assumption | exact Below.refl _ _ | exact below_drew1 (by assumption) | exact old_cell (by assumption) (by assumption) | exact below_then (by assumption) (Below.size (by assumption)) (by assumption) | go_keep)))
            (first | (go_at_call 58; refine (cw.out _ (by first | assumption | exact below_drew (Below.refl _ _) | exact below_drew (by assumption))).mono ?_; rintro e w' ⟨v, rfl, hv, hbv⟩))
          have HB := Aside0.mk (below_then (below_drew (Below.refl wr.heap.size wr)) (Nat.le_refl _) hbv)
          have HV5 := Aside0.mk hv
          clear hv hbv
          cases v with
          | false =>
            go_wp2_with fail
            go_ret
            exact same_no (below_then HW.out.below HW.out.below.size HB.out) (HNE.out (fun e_ => absurd (HV5.out.2 e_) (by simp)))
          | true =>
            go_wp2_with fail
            go_roundg k1
            case measure => omega
            case rel => exact ⟨i + 1, by simp, ⟨by have := HK.out; omega⟩, ⟨by omega⟩, ⟨HNX.out (HV5.out.1 (by trivial))⟩, ⟨HW.out.next HB.out⟩⟩
        · have hb0 : decide ((i : Int) < (xl.length : Int)) = false := decide_eq_false (by omega)
          have HR5 := Aside0.mk (take_all hlt HM5.out HT.out)
          have HP5 := HW
          clear HK HI HT HW
          obtain ⟨v5, hv5⟩ : ∃ v5, v5 = wr := ⟨_, rfl⟩
          subst hv5
          have a2 := (blk_cell HP5.out.one 6).trans (show _ = some (Value.slice A6 xc.length c6) from rfl)
          have a3 := (blk_cell HP5.out.two 6).trans (show _ = some (Value.slice B6 xc.length d6) from rfl)
          go_wp2_with fail
          clear a0 a1 a2 a3 q0 q1
          go_loopg [6] (xc.length + 1) (fun kq v6 w' => ∃ i : Nat, v6 = .int .i64 (i : Int) ∧ Aside0 (kq + i = xc.length + 1) ∧ Aside0 (i ≤ xc.length) ∧ Aside0 (xc.take i = yc.take i) ∧ Aside0 (Boxes w #[.string x0, .int .i64 x1, .slice A2 xo.length c2, .slice A3 xt.length c3, .slice A4 xg.length c4, .slice A5 xl.length c5, .slice A6 xc.length c6] #[.string y0, .int .i64 y1, .slice B2 yo.length d2, .slice B3 yt.length d3, .slice B4 yg.length d4, .slice B5 xl.length d5, .slice B6 xc.length d6] 33 w'))
          case atStart => exact ⟨0, rfl, ⟨by omega⟩, ⟨by omega⟩, ⟨rfl⟩, HP5⟩
          case round =>
            clear HP5
            obtain ⟨i, rfl, HK, HI, HT, HW⟩ := hrel
            cases gk with
            | zero => exact absurd HK.out (by have := HI.out; omega)
            | succ k2 =>
              have a0 := (blk_cell HW.out.one 6).trans (show _ = some (Value.slice A6 xc.length c6) from rfl)
              have a1 := (blk_cell HW.out.two 6).trans (show _ = some (Value.slice B6 xc.length d6) from rfl)
              obtain ⟨q0, q1⟩ := HW.out.lt
              by_cases hlt : i < xc.length
              · have hb0 : decide ((i : Int) < (xc.length : Int)) = true := decide_eq_true (by omega)
                obtain ⟨a, ha⟩ : ∃ a, xc[i]? = some a := ⟨_, List.getElem?_eq_getElem hlt⟩
                obtain ⟨b, hb⟩ : ∃ b, yc[i]? = some b := ⟨_, List.getElem?_eq_getElem (by have := HM6.out; omega)⟩
                have hra : rd_T82 xc (i : Int) = a := by unfold rd_T82; rw [Int.toNat_natCast, List.getD_eq_getElem?_getD, ha]; rfl
                have hrb : rd_T82 yc (i : Int) = b := by unfold rd_T82; rw [Int.toNat_natCast, List.getD_eq_getElem?_getD, hb]; rfl
                have HNE := Aside0.mk (fun h => HN6.out (ne_at ha hb h))
                have HNX := Aside0.mk (fun h => drop_next ha hb HT.out h)
                obtain ⟨ad, C1, c1, hA, e0, e1, e2, e3, e4, e5, e6, e7, e8, l1, g1⟩ := at_T82 (Kd.C_below HX6.out HW.out.below) (i : Int) (by omega) (by omega)
                obtain ⟨bd, D1, d1, hB, f0, f1, f2, f3, f4, f5, f6, f7, f8, m1, j1⟩ := at_T82 (Kd.C_below HY6.out HW.out.below) (i : Int) (by omega) (by omega)
                subst hA hB
                rw [hra] at e0 e1 e2 e3 e4 e5 e6 e7 e8 l1 g1
                rw [hrb] at f0 f1 f2 f3 f4 f5 f6 f7 f8 m1 j1
                rw [Int.toNat_natCast] at e0 e1 e2 e3 e4 e5 e6 e7 e8 f0 f1 f2 f3 f4 f5 f6 f7 f8
                have HG := Aside0.mk (And.intro l1 g1)
                have HJ := Aside0.mk (And.intro m1 j1)
                clear hra hrb ha hb l1 g1 m1 j1
                have p0 : (0 : Int) ≤ (i : Int) := by omega
                have p1 : (i : Int) < (xc.length : Int) := by omega
                have q2 := World.block_lt_of_cell? wr _ e0
                have q3 := World.block_lt_of_cell? wr _ f0
                go_wp2_with fail
                all_goals try (go_ret; exact same_no (by repeat (first | exact HW.out.below | apply below_alloc | apply pw_below_drewN | apply below_drew1)) (HNE.out (by (intro e_; cases e_; exact absurd rfl (by assumption)))))
                have r0 := toList_inj (show a.f0.toList = b.f0.toList by assumption)
                have r4 := toList_inj (show a.f4.toList = b.f4.toList by assumption)
                have HQ := Aside0.mk (show a.f3 = b.f3 → a = b from fun h => by
                  have r1 : a.f1 = b.f1 := by assumption
                  have r2 : a.f2 = b.f2 := by assumption
                  obtain ⟨_, _, _, _, _⟩ := a; obtain ⟨_, _, _, _, _⟩ := b; cases r0; cases r1; cases r2; cases r4; cases h; rfl)
                clear r0 r4
                with_reducible refine (expr_same a.f3 b.f3 C1 c1 D1 d1 _ (Kd.C_alloc (Kd.C_alloc HG.out.2 _) _) HG.out.1 (Kd.C_alloc (Kd.C_alloc HJ.out.2 _) _) HJ.out.1).mono ?_
                rintro e w2 ⟨v, rfl, hv, hb⟩
                have HB := Aside0.mk (below_then (below_alloc (below_alloc (Below.refl wr.heap.size wr) _) _) (by rw [World.size_alloc, World.size_alloc]; omega) hb)
                have HV6 := Aside0.mk hv
                clear hv hb a0 a1 q0 q1 q2 q3
                cases v with
                | false =>
                  go_wp2_with fail
                  go_ret
                  exact same_no (below_then HW.out.below HW.out.below.size HB.out) (HNE.out (fun e_ => absurd (HV6.out.2 (by rw [e_])) (by simp)))
                | true =>
                  go_wp2_with fail
                  go_roundg k2
                  case measure => omega
                  case rel => exact ⟨i + 1, by simp, ⟨by have := HK.out; omega⟩, ⟨by omega⟩, ⟨HNX.out (HQ.out (HV6.out.1 (by trivial)))⟩, ⟨HW.out.next HB.out⟩⟩
              · have hb0 : decide ((i : Int) < (xc.length : Int)) = false := decide_eq_false (by omega)
                have HF := Aside0.mk (same_yes (HE.out HR5.out (take_all hlt HM6.out HT.out)) HW.out.below)
                go_wp2_with fail
                go_ret
                exact HF.out
end Go.Proofs.Ytpbdkkahodaloaa.T
end

section
namespace Go.Proofs.Ytpbdkkahodaloaa.T
open Go.RowKit Go.Proofs.Ytpbdkkahodaloaa.PS Go.Proofs.Ytpbdkkahodaloaa.U Go.Proofs.YtpbdkkahodaloaaW.PrintWords Go.Proofs.YtpbdkkahodaloaaW.PrintMore
set_option linter.unusedVariables false
def Ends {α : Type} (g : Nat → Option α) : Prop := ∃ v, Ev g v
theorem Ends.step {α : Type} {g f : Nat → Option α} (h : ∀ k, g (k + 1) = f k) (k : Ends f) : Ends g := k.elim fun v hv => ⟨v, Ev.step h hv⟩
theorem Ends.now {α : Type} (r : α) : Ends (fun _ => some r) := ⟨r, Ev.now r⟩
theorem Ends.bind {α β : Type} {g : Nat → Option α} {f : Nat → α → Option β} (h : Ends g) (k : ∀ a, Ends (fun n => f n a)) : Ends (fun n => (g n).bind (f n)) := by
  obtain ⟨a, ha⟩ := h
  obtain ⟨v, hv⟩ := k a
  exact ⟨v, Ev.bind ha hv⟩
structure WideP (lo : List S97) (lt : List S72) (ll : List S77) (lc : List S82) : Prop where
  o : lo.length ≤ 9223372036854775807
  t : lt.length ≤ 9223372036854775807
  l : ll.length ≤ 9223372036854775807
  c : lc.length ≤ 9223372036854775807
  l1 : ∀ a ∈ ll, a.f6.length ≤ 9223372036854775807 ∧ ∀ b ∈ a.f6, WideE b.f2 ∧ WideE b.f3
  c1 : ∀ a ∈ lc, WideE a.f3
section
variable {lo : List S97} {lt : List S72} {ll : List S77} {lc : List S82} (H : WideP lo lt ll lc) (x0 : ByteArray) (x1 : Int) (lg : List S69)
include H
theorem ends_l4 : ∀ (d i : Nat) (n : Int), i + d = lc.length → Ends (fun k => levylaw7_small.l4 k n (i : Int) x0 x1 lo lt lg ll lc)
  | 0, i, n, hi => by
    refine Ends.step (f := fun _ => some (decide (n ≤ 32768))) (fun k => ?_) (Ends.now _)
    simp only [levylaw7_small.l4]
    rw [if_neg (by omega)]
  | d + 1, i, n, hi => by
    have := H.c
    obtain ⟨a, ha⟩ : ∃ a, lc[i]? = some a := ⟨_, List.getElem?_eq_getElem (by omega)⟩
    have hr : rd_T82 lc (i : Int) = a := by unfold rd_T82; rw [Int.toNat_natCast, List.getD_eq_getElem?_getD, ha]; rfl
    have hw : wrap64 ((i : Int) + 1) = ((i + 1 : Nat) : Int) := by unfold wrap64; omega
    by_cases h : n ≤ 32768
    · refine Ends.step (fun k => ?_) (Ends.bind (f := fun k t => levylaw7_small.l4 k (wrap64 ((wrap64 ((wrap64 (n + t)) + (a.f0.size : Int))) + (a.f4.size : Int))) ((i + 1 : Nat) : Int) x0 x1 lo lt lg ll lc) (nodes_ev (H.c1 a (List.mem_of_getElem? ha)) 32768) (fun v => ends_l4 d (i + 1) _ (by omega)))
      simp only [levylaw7_small.l4]
      rw [if_pos (by omega), if_pos h, if_pos (by omega), hr, hw]
    · refine Ends.step (f := fun _ => some (decide (n ≤ 32768))) (fun k => ?_) (Ends.now _)
      simp only [levylaw7_small.l4]
      rw [if_pos (by omega), if_neg h]
theorem ends_l3 (i : Nat) (a : S77) (ha : ll[i]? = some a) (next : ∀ n, Ends (fun k => levylaw7_small.l2 k n ((i + 1 : Nat) : Int) x0 x1 lo lt lg ll lc)) : ∀ (d j : Nat) (n : Int), j + d = a.f6.length → Ends (fun k => levylaw7_small.l3 k n (i : Int) (j : Int) x0 x1 lo lt lg ll lc) := by
  have hi := (List.getElem?_eq_some_iff.1 ha).1
  have hll := H.l
  have hr : rd_T77 ll (i : Int) = a := by unfold rd_T77; rw [Int.toNat_natCast, List.getD_eq_getElem?_getD, ha]; rfl
  have hw : wrap64 ((i : Int) + 1) = ((i + 1 : Nat) : Int) := by unfold wrap64; omega
  obtain ⟨h6, hb⟩ := H.l1 a (List.mem_of_getElem? ha)
  have off : ∀ (n : Int) (j : Int), Ends (fun k => levylaw7_small.j7 k n (i : Int) j false x0 x1 lo lt lg ll lc) := fun n j => by
    refine Ends.step (fun k => ?_) (next n)
    simp only [levylaw7_small.j7]
    rw [if_neg (by simp), hw]
  intro d
  induction d with
  | zero =>
    intro j n hj
    refine Ends.step (fun k => ?_) (off n (j : Int))
    simp only [levylaw7_small.l3]
    rw [if_pos (by omega), if_pos (by omega), hr, if_neg (by omega)]
  | succ d ih =>
    intro j n hj
    obtain ⟨b, hbj⟩ : ∃ b, a.f6[j]? = some b := ⟨_, List.getElem?_eq_getElem (by omega)⟩
    have hrb : rd_T100 a.f6 (j : Int) = b := by unfold rd_T100; rw [Int.toNat_natCast, List.getD_eq_getElem?_getD, hbj]; rfl
    have hwj : wrap64 ((j : Int) + 1) = ((j + 1 : Nat) : Int) := by unfold wrap64; omega
    obtain ⟨e2, e3⟩ := hb b (List.mem_of_getElem? hbj)
    have on : Ends (fun k => levylaw7_small.j7 k n (i : Int) (j : Int) true x0 x1 lo lt lg ll lc) := by
      refine Ends.step (fun k => ?_) (Ends.bind (f := fun k t => (levylaw7_nodes.f k b.f3.f0 b.f3.f1 b.f3.f2 b.f3.f3 b.f3.f4 32768).bind fun u => levylaw7_small.l3 k (wrap64 ((wrap64 (n + t)) + u)) (i : Int) ((j + 1 : Nat) : Int) x0 x1 lo lt lg ll lc) (nodes_ev e2 32768)
        (fun v => Ends.bind (f := fun k u => levylaw7_small.l3 k (wrap64 ((wrap64 (n + v)) + u)) (i : Int) ((j + 1 : Nat) : Int) x0 x1 lo lt lg ll lc) (nodes_ev e3 32768) (fun u => ih (j + 1) _ (by omega))))
      simp only [levylaw7_small.j7]
      rw [if_pos trivial, if_pos (by omega), if_pos (by omega), hr, if_pos (by omega), if_pos (by omega), hrb, hwj]
    have any : ∀ b0 : Bool, Ends (fun k => levylaw7_small.j7 k n (i : Int) (j : Int) b0 x0 x1 lo lt lg ll lc) := fun b0 => by
      cases b0 with
      | true => exact on
      | false => exact off n _
    refine Ends.step (fun k => ?_) (any (decide (n ≤ 32768)))
    simp only [levylaw7_small.l3]
    rw [if_pos (by omega), if_pos (by omega), hr, if_pos (by omega)]
theorem ends_l2 : ∀ (d i : Nat) (n : Int), i + d = ll.length → Ends (fun k => levylaw7_small.l2 k n (i : Int) x0 x1 lo lt lg ll lc) := by
  have off : ∀ (n i : Int), Ends (fun k => levylaw7_small.j5 k n i false x0 x1 lo lt lg ll lc) := fun n i => by
    refine Ends.step (fun k => ?_) (ends_l4 H x0 x1 lg lc.length 0 n (by omega))
    simp only [levylaw7_small.j5]
    rw [if_neg (by simp)]; rfl
  have hll := H.l
  intro d
  induction d with
  | zero =>
    intro i n hi
    refine Ends.step (fun k => ?_) (off n (i : Int))
    simp only [levylaw7_small.l2]
    rw [if_neg (by omega)]
  | succ d ih =>
    intro i n hi
    obtain ⟨a, ha⟩ : ∃ a, ll[i]? = some a := ⟨_, List.getElem?_eq_getElem (by omega)⟩
    have hr : rd_T77 ll (i : Int) = a := by unfold rd_T77; rw [Int.toNat_natCast, List.getD_eq_getElem?_getD, ha]; rfl
    have any : ∀ b0 : Bool, Ends (fun k => levylaw7_small.j5 k n (i : Int) b0 x0 x1 lo lt lg ll lc) := fun b0 => by
      cases b0 with
      | true =>
        refine Ends.step (fun k => ?_) (ends_l3 H x0 x1 lg i a ha (fun n => ih (i + 1) n (by omega)) a.f6.length 0 (wrap64 (n + (a.f0.size : Int))) (by omega))
        simp only [levylaw7_small.j5]
        rw [if_pos trivial, if_pos (by omega), if_pos (by omega), hr]; rfl
      | false => exact off n _
    refine Ends.step (fun k => ?_) (any (decide (n ≤ 32768)))
    simp only [levylaw7_small.l2]
    rw [if_pos (by omega)]
theorem ends_l1 : ∀ (d i : Nat) (n : Int), i + d = lt.length → Ends (fun k => levylaw7_small.l1 k n (i : Int) x0 x1 lo lt lg ll lc) := by
  have off : ∀ (n : Int), Ends (fun k => levylaw7_small.j3 k n x0 x1 lo lt lg ll lc) := fun n => by
    refine Ends.step (fun k => ?_) (ends_l2 H x0 x1 lg ll.length 0 n (by omega))
    simp only [levylaw7_small.j3]; rfl
  have hlt := H.t
  intro d
  induction d with
  | zero =>
    intro i n hi
    refine Ends.step (fun k => ?_) (off n)
    simp only [levylaw7_small.l1]
    rw [if_neg (by omega)]
  | succ d ih =>
    intro i n hi
    have hw : wrap64 ((i : Int) + 1) = ((i + 1 : Nat) : Int) := by unfold wrap64; omega
    by_cases h : n ≤ 32768
    · refine Ends.step (fun k => ?_) (ih (i + 1) (wrap64 (n + ((rd_T72 lt (i : Int)).f1.length : Int))) (by omega))
      simp only [levylaw7_small.l1]
      rw [if_pos (by omega), if_pos h, if_pos (by omega), hw]
    · refine Ends.step (fun k => ?_) (off n)
      simp only [levylaw7_small.l1]
      rw [if_pos (by omega), if_neg h]
theorem ends_l0 : ∀ (d i : Nat) (n : Int), i + d = lo.length → Ends (fun k => levylaw7_small.l0 k n (i : Int) x0 x1 lo lt lg ll lc) := by
  have off : ∀ (n : Int), Ends (fun k => levylaw7_small.j1 k n x0 x1 lo lt lg ll lc) := fun n => by
    refine Ends.step (fun k => ?_) (ends_l1 H x0 x1 lg lt.length 0 n (by omega))
    simp only [levylaw7_small.j1]; rfl
  have hlo := H.o
  intro d
  induction d with
  | zero =>
    intro i n hi
    refine Ends.step (fun k => ?_) (off n)
    simp only [levylaw7_small.l0]
    rw [if_neg (by omega)]
  | succ d ih =>
    intro i n hi
    have hw : wrap64 ((i : Int) + 1) = ((i + 1 : Nat) : Int) := by unfold wrap64; omega
    by_cases h : n ≤ 32768
    · refine Ends.step (fun k => ?_) (ih (i + 1) (wrap64 (n + ((rd_T97 lo (i : Int)).f1.length : Int))) (by omega))
      simp only [levylaw7_small.l0]
      rw [if_pos (by omega), if_pos h, if_pos (by omega), hw]
    · refine Ends.step (fun k => ?_) (off n)
      simp only [levylaw7_small.l0]
      rw [if_pos (by omega), if_neg h]
end
def SmallPost (w : World) (e : Ending) (w' : World) : Prop := ∃ v, e = .returned (.bool v) ∧ Below w.heap.size w w'
theorem mem_at {α : Type} {d : Kd α} {w : World} {A : Option Addr} {n : Nat} {l : List α} (hC : Kd.C d w A n l) (hn : l.length = n) (z : α) {a : α} (ha : a ∈ l) : ∃ cs, d.K w a cs := by
  obtain ⟨i, hi⟩ := List.getElem?_of_mem ha
  have hi0 := (List.getElem?_eq_some_iff.1 hi).1
  obtain ⟨ad, c, _, _, hKa, _⟩ := Kd.C_get hC z (i : Int) (by omega) (by omega)
  have e : (l.getD (i : Int).toNat z) = a := by rw [Int.toNat_natCast, List.getD_eq_getElem?_getD, hi]; rfl
  rw [e] at hKa
  exact ⟨c, hKa⟩
theorem small_c (w : World) (u : Value) (p : Pk) (hp : Lies w u p) : Calls Try.prog 14 #[u] w (SmallPost w) := by
  obtain ⟨A2, c2, A3, c3, A4, c4, A5, c5, A6, c6, rfl, hx2, hx3, hx4, hx5, hx6, g2, g3, g4, g5, g6⟩ := hp
  have hW : WideP p.options p.tables p.lines p.checks := by
    refine ⟨hx2.2.1, hx3.2.1, hx5.2.1, hx6.2.1, fun a ha => ?_, fun a ha => ?_⟩
    · obtain ⟨cs, hK⟩ := mem_at hx5 rfl z77 ha
      obtain ⟨A, c, _, _, hC⟩ := k77_open hK
      refine ⟨hC.2.1, fun b hb => ?_⟩
      obtain ⟨cs, hK⟩ := mem_at hC rfl z100 hb
      obtain ⟨A6, c6, A11, c11, _, _, h6, _, h11⟩ := k100_open hK
      exact ⟨.mk _ (wide_list h6 rfl).1 (wide_list h6 rfl).2, .mk _ (wide_list h11 rfl).1 (wide_list h11 rfl).2⟩
    · obtain ⟨cs, hK⟩ := mem_at hx6 rfl z82 ha
      obtain ⟨A, c, _, _, hC⟩ := k82_open hK
      exact .mk _ (wide_list hC rfl).1 (wide_list hC rfl).2
  obtain ⟨v, hv⟩ := ends_l0 hW p.name p.year p.groups p.options.length 0 (wrap64 ((wrap64 ((wrap64 ((wrap64 ((wrap64 ((p.name.size : Int) + (p.options.length : Int))) + (p.tables.length : Int))) + (p.groups.length : Int))) + (p.lines.length : Int))) + (p.checks.length : Int))) (by omega)
  obtain ⟨k, hk⟩ := hv.rounds
  refine (levylaw7_small.calls k p.name p.year A2 c2 p.options A3 c3 p.tables A4 c4 p.groups A5 c5 p.lines A6 c6 p.checks v w hx2 g2 hx3 g3 hx4 g4 hx5 g5 hx6 g6 hk).mono ?_
  rintro e w' ⟨rfl, hb⟩
  exact ⟨v, rfl, hb⟩
end Go.Proofs.Ytpbdkkahodaloaa.T
end

section
set_option linter.unusedSimpArgs false
set_option linter.unusedVariables false
namespace Go.Proofs.Ytpbdkkahodaloaa.V
open Go.RowKit Go.Proofs.Ytpbdkkahodaloaa.PS Go.Proofs.YtpbdkkahodaloaaW.PrintWords Go.Proofs.YtpbdkkahodaloaaW.PrintLast Go.Proofs.YtpbdkkahodaloaaW.PrintMore
structure R3 where
  at_ : Int
  err : Int
  bad : Int
def bytes (l : List Int) : Prop := ∀ c ∈ l, 0 ≤ c ∧ c ≤ 255
structure Good (b : List Int) (s : R3) : Prop where
  lo : 0 ≤ s.at_
  hi : s.at_ ≤ b.length
def failR (e a : Int) (s : R3) : R3 := if s.err = 0 then ⟨s.at_, e, a⟩ else s
def shortR (b : List Int) (s : R3) : R3 := failR 70 b.length s
theorem fail_is (b : List Int) (s : R3) (e a : Int) : pack_reader_fail.f b s.at_ s.err s.bad e a = some ((failR e a s).at_, (failR e a s).err, (failR e a s).bad) := by
  unfold pack_reader_fail.f failR
  split <;> rfl
theorem short_is (b : List Int) (s : R3) : pack_reader_short.f b s.at_ s.err s.bad = some ((shortR b s).at_, (shortR b s).err, (shortR b s).bad) := by
  unfold pack_reader_short.f
  rw [fail_is]; rfl
theorem failR_good {b : List Int} {s : R3} (h : Good b s) (e a : Int) : Good b (failR e a s) := by
  unfold failR; split
  · exact ⟨h.lo, h.hi⟩
  · exact h
theorem failR_at (e a : Int) (s : R3) : (failR e a s).at_ = s.at_ := by unfold failR; split <;> rfl
def numL (b : List Int) (fr : Int) : Nat → Int → Nat → R3 → Int × R3
  | 0, _, _, s => (0, s)
  | f + 1, n, i, s => if s.err = 0 then (if s.at_ = b.length then (0, shortR b s) else
      if (i = 9 ∧ rd b s.at_ > 1) ∨ (0 < i ∧ rd b s.at_ = 0) then (0, failR 71 fr s) else
      if rd b s.at_ < 128 then (n + rd b s.at_ % 128 * 128 ^ i, ⟨s.at_ + 1, s.err, s.bad⟩) else numL b fr f (n + rd b s.at_ % 128 * 128 ^ i) (i + 1) ⟨s.at_ + 1, s.err, s.bad⟩)
    else (0, s)
def numR (b : List Int) (s : R3) : Int × R3 := numL b s.at_ 10 0 0 s
theorem numL_good (b : List Int) (fr : Int) : ∀ (f : Nat) (n : Int) (i : Nat) (s : R3), Good b s → Good b (numL b fr f n i s).2
  | 0, n, i, s, h => h
  | f + 1, n, i, s, h => by
    unfold numL
    split
    · split
      · exact failR_good h _ _
      · rename_i h1
        split
        · exact failR_good h _ _
        · have h2 : Good b ⟨s.at_ + 1, s.err, s.bad⟩ := ⟨by have := h.lo; show 0 ≤ s.at_ + 1; omega, by have := h.hi; show s.at_ + 1 ≤ _; omega⟩
          split
          · exact h2
          · exact numL_good b fr f _ _ _ h2
    · exact h
theorem numR_good {b : List Int} {s : R3} (h : Good b s) : Good b (numR b s).2 := numL_good b _ _ _ _ s h
theorem and127 (c : Nat) (h : c < 256) : bits BinOp.and IntKind.u8 (c : Int) 127 = ((c % 128 : Nat) : Int) := by
  have h : ∀ x : Fin 256, bits BinOp.and IntKind.u8 ((x.val : Nat) : Int) 127 = ((x.val % 128 : Nat) : Int) := by decide +kernel
  exact h ⟨c, by omega⟩
theorem pow128 (i : Nat) : (128 : Nat) ^ i = 2 ^ (7 * i) := by rw [Nat.pow_mul]
theorem join7 (n i c : Nat) (hi : i ≤ 9) (hn : n < 128 ^ i) (hc : c < 256) (hc9 : i = 9 → c ≤ 1) :
    bits BinOp.or IntKind.u64 (n : Int) (shl .u64 (IntKind.u64.wrap (bits BinOp.and IntKind.u8 (c : Int) 127)) (wrap64 (7 * (i : Int)))) = ((n + c % 128 * 128 ^ i : Nat) : Int) ∧ n + c % 128 * 128 ^ i < 18446744073709551616 ∧ (i < 9 → n + c % 128 * 128 ^ i < 128 ^ (i + 1)) := by
  rw [and127 c hc]
  have hw : wrap64 (7 * (i : Int)) = ((7 * i : Nat) : Int) := by unfold wrap64; omega
  have hu : IntKind.u64.wrap ((c % 128 : Nat) : Int) = ((c % 128 : Nat) : Int) := by rw [IntKind.wrap_u64]; omega
  rw [hw, hu]
  have e : (2 : Nat) ^ (7 * i) = 128 ^ i := (pow128 i).symm
  have hp9 : (128 : Nat) ^ i ≤ 128 ^ 9 := Nat.pow_le_pow_right (by decide) hi
  have hlt : c % 128 * 128 ^ i < 18446744073709551616 := by
    by_cases h9 : i = 9
    · subst h9
      have := hc9 rfl
      have h2 : c % 128 ≤ 1 := by omega
      calc c % 128 * 128 ^ 9 ≤ 1 * 128 ^ 9 := Nat.mul_le_mul_right _ h2
        _ < 18446744073709551616 := by decide
    · have h8 : (128 : Nat) ^ i ≤ 128 ^ 8 := Nat.pow_le_pow_right (by decide) (by omega)
      calc c % 128 * 128 ^ i ≤ 127 * 128 ^ 8 := Nat.mul_le_mul (by omega) h8
        _ < 18446744073709551616 := by decide
  have hs : shl .u64 ((c % 128 : Nat) : Int) ((7 * i : Nat) : Int) = ((c % 128 * 128 ^ i : Nat) : Int) := by
    unfold shl
    rw [Int.toNat_natCast, Nat.min_eq_left (by show 7 * i ≤ 64; omega)]
    have : ((c % 128 : Nat) : Int) * 2 ^ (7 * i) = ((c % 128 * 128 ^ i : Nat) : Int) := by rw [← e]; push_cast; rfl
    rw [this, IntKind.wrap_u64]
    omega
  have hn64 : n < 18446744073709551616 := Nat.lt_of_lt_of_le hn (Nat.le_trans hp9 (by decide))
  have hor : n ||| c % 128 * 128 ^ i = n + c % 128 * 128 ^ i := by
    rw [Nat.or_comm, nat_join (7 * i) (c % 128 * 128 ^ i) n (by rw [e]; exact Nat.mul_mod_left _ _) (by rw [e]; exact hn), Nat.add_comm]
  have hsum : n + c % 128 * 128 ^ i < 18446744073709551616 := by
    have h1 : n ||| c % 128 * 128 ^ i < 2 ^ 64 := Nat.or_lt_two_pow (by omega) (by omega)
    rw [hor] at h1
    omega
  refine ⟨?_, hsum, fun h9 => ?_⟩
  · rw [hs, u64_or_nat n _ hn64 hlt, hor]
  · rw [Nat.pow_succ]
    have : c % 128 * 128 ^ i ≤ 127 * 128 ^ i := Nat.mul_le_mul_right _ (by omega)
    omega
theorem rd_byte {l : List Int} (hl : bytes l) {i : Int} (h0 : 0 ≤ i) (h : i < l.length) : ∃ c : Nat, rd l i = (c : Int) ∧ c < 256 := by
  have e : rd l i = l[i.toNat]'(by omega) := by simp [rd, List.getD_eq_getElem?_getD, List.getElem?_eq_getElem (by omega : i.toNat < l.length)]
  have hb := hl _ (List.getElem_mem (by omega : i.toNat < l.length))
  refine ⟨(l[i.toNat]'(by omega)).toNat, ?_, ?_⟩
  · rw [e]; omega
  · omega
theorem wrap_next {x : Int} (h0 : 0 ≤ x) (h1 : x ≤ 9223372036854775806) : wrap64 (x + 1) = x + 1 := by unfold wrap64; omega
theorem wrap_next' {i : Nat} (h1 : i ≤ 9223372036854775806) : wrap64 ((i : Int) + 1) = ((i + 1 : Nat) : Int) := by unfold wrap64; omega
theorem wrap_seven {i : Nat} (h : i ≤ 9) : 0 ≤ wrap64 (7 * (i : Int)) := by
  have e : wrap64 (7 * (i : Int)) = ((7 * i : Nat) : Int) := by unfold wrap64; omega
  rw [e]; omega
attribute [local irreducible] rd
set_option maxHeartbeats 1000000 in
theorem num_ev (b : List Int) (hb : bytes b) (hl : b.length ≤ 9223372036854775806) (fr : Int) : ∀ (f i n : Nat) (s : R3), Good b s → f + i = 10 → i ≤ 9 → n < 128 ^ i →
    Ev (fun k => pack_reader_number.l0 k fr (n : Int) (i : Int) b s.at_ s.err s.bad) ((numL b fr f n i s).1, (numL b fr f n i s).2.at_, (numL b fr f n i s).2.err, (numL b fr f n i s).2.bad)
  | 0, i, n, s, h, hf, hi, hn => by omega
  | f + 1, i, n, s, h, hf, hi, hn => by
    by_cases he : s.err = 0
    · by_cases ha : s.at_ = (b.length : Int)
      · refine Ev.step (f := fun _ => some (0, (shortR b s).at_, (shortR b s).err, (shortR b s).bad)) (fun k => ?_) ?_
        · simp only [pack_reader_number.l0]
          rw [if_pos he, if_pos ha, short_is]; rfl
        · unfold numL
          rw [if_pos he, if_pos ha]
          exact Ev.now _
      · have h0 := h.lo
        have h1 : s.at_ < (b.length : Int) := by have := h.hi; omega
        obtain ⟨c, hc, hc2⟩ := rd_byte hb h0 h1
        have hj : ∀ x : Bool, (x = true ↔ ((i = 9 ∧ rd b s.at_ > 1) ∨ (0 < i ∧ rd b s.at_ = 0))) → Ev (fun k => pack_reader_number.j1 k fr (n : Int) (i : Int) (rd b s.at_) x b s.at_ s.err s.bad) ((numL b fr (f + 1) n i s).1, (numL b fr (f + 1) n i s).2.at_, (numL b fr (f + 1) n i s).2.err, (numL b fr (f + 1) n i s).2.bad) := by
          intro x hx
          unfold numL
          rw [if_pos he, if_neg ha]
          by_cases hbad : (i = 9 ∧ rd b s.at_ > 1) ∨ (0 < i ∧ rd b s.at_ = 0)
          · rw [if_pos hbad]
            refine Ev.step (f := fun _ => some (0, (failR 71 fr s).at_, (failR 71 fr s).err, (failR 71 fr s).bad)) (fun k => ?_) (Ev.now _)
            simp only [pack_reader_number.j1]
            rw [if_pos (hx.mpr hbad), fail_is]; rfl
          · rw [if_neg hbad]
            have hxf : ¬ x = true := fun h => hbad (hx.mp h)
            obtain ⟨j1, j2, j3⟩ := join7 n i c hi hn hc2 (fun h9 => by
              have : ¬ (i = 9 ∧ rd b s.at_ > 1) := fun h => hbad (.inl h)
              rw [hc] at this
              omega)
            rw [hc]
            have hcm : ((c : Int)) % 128 = ((c % 128 : Nat) : Int) := by omega
            have hval : (n : Int) + (c : Int) % 128 * 128 ^ i = ((n + c % 128 * 128 ^ i : Nat) : Int) := by rw [hcm]; push_cast; rfl
            rw [hval]
            by_cases hlo : (c : Int) < 128
            · rw [if_pos hlo]
              refine Ev.step (f := fun _ => some (((n + c % 128 * 128 ^ i : Nat) : Int), s.at_ + 1, s.err, s.bad)) (fun k => ?_) (Ev.now _)
              simp only [pack_reader_number.j1]
              rw [if_neg hxf, if_pos (wrap_seven hi), if_pos hlo, j1, wrap_next h0 (by omega)]
            · rw [if_neg hlo]
              have hi9 : i < 9 := by
                by_cases h9 : i = 9
                · exfalso
                  have : ¬ (i = 9 ∧ rd b s.at_ > 1) := fun h => hbad (.inl h)
                  rw [hc] at this
                  omega
                · omega
              refine Ev.step (fun k => ?_) (num_ev b hb hl fr f (i + 1) (n + c % 128 * 128 ^ i) ⟨s.at_ + 1, s.err, s.bad⟩ ⟨by show 0 ≤ s.at_ + 1; omega, by show s.at_ + 1 ≤ _; omega⟩ (by omega) (by omega) (j3 hi9))
              simp only [pack_reader_number.j1]
              rw [if_neg hxf, if_pos (wrap_seven hi), if_neg hlo, j1, wrap_next h0 (by omega), wrap_next' (by omega)]
        by_cases h9 : i = 9
        · by_cases hg : rd b s.at_ > 1
          · refine Ev.step (fun k => ?_) (hj true ⟨fun _ => .inl ⟨h9, hg⟩, fun _ => rfl⟩)
            simp only [pack_reader_number.l0]
            rw [if_pos he, if_neg ha, if_pos h0, if_pos h1, if_pos (show (i : Int) = 9 by rw [h9]; rfl), if_pos hg]
          · refine Ev.step (fun k => ?_) (hj (rd b s.at_ == 0) ⟨fun h => .inr ⟨by rw [h9]; decide, by simpa using h⟩, fun h => (by rcases h with h | h; exact absurd h.2 hg; simpa using h.2)⟩)
            simp only [pack_reader_number.l0]
            rw [if_pos he, if_neg ha, if_pos h0, if_pos h1, if_pos (show (i : Int) = 9 by rw [h9]; rfl), if_neg hg, if_pos (show (i : Int) > 0 by rw [h9]; decide)]
        · by_cases hi0 : 0 < i
          · refine Ev.step (fun k => ?_) (hj (rd b s.at_ == 0) ⟨fun h => .inr ⟨hi0, by simpa using h⟩, fun h => (by rcases h with h | h; exact absurd h.1 h9; simpa using h.2)⟩)
            simp only [pack_reader_number.l0]
            rw [if_pos he, if_neg ha, if_pos h0, if_pos h1, if_neg (show ¬ ((i : Int) = 9) from fun h => h9 (by omega)), if_pos (show (i : Int) > 0 by omega)]
          · refine Ev.step (fun k => ?_) (hj false ⟨fun h => absurd h (by decide), fun h => h.elim (fun h => absurd h.1 h9) (fun h => absurd h.1 hi0)⟩)
            simp only [pack_reader_number.l0]
            rw [if_pos he, if_neg ha, if_pos h0, if_pos h1, if_neg (show ¬ ((i : Int) = 9) from fun h => h9 (by omega)), if_neg (show ¬ ((i : Int) > 0) from fun h => hi0 (by omega))]
    · refine Ev.step (f := fun _ => some (0, s.at_, s.err, s.bad)) (fun k => ?_) ?_
      · simp only [pack_reader_number.l0]
        rw [if_neg he]
      · unfold numL
        rw [if_neg he]
        exact Ev.now _
theorem numR_ev (b : List Int) (hb : bytes b) (hl : b.length ≤ 9223372036854775806) (s : R3) (h : Good b s) : Ev (fun k => pack_reader_number.f k b s.at_ s.err s.bad) ((numR b s).1, (numR b s).2.at_, (numR b s).2.err, (numR b s).2.bad) :=
  num_ev b hb hl s.at_ 10 0 0 s h (by omega) (by omega) (by decide)
end Go.Proofs.Ytpbdkkahodaloaa.V
end

section
set_option linter.unusedSimpArgs false
set_option linter.unusedVariables false
namespace Go.Proofs.Ytpbdkkahodaloaa.V
open Go.RowKit Go.Proofs.Ytpbdkkahodaloaa.PS Go.Proofs.YtpbdkkahodaloaaW.PrintWords Go.Proofs.YtpbdkkahodaloaaW.PrintLast Go.Proofs.YtpbdkkahodaloaaW.PrintMore
attribute [local irreducible] rd
theorem numL_range (b : List Int) (hb : bytes b) (fr : Int) : ∀ (f i n : Nat) (s : R3), Good b s → f + i = 10 → i ≤ 9 → n < 128 ^ i → 0 ≤ (numL b fr f n i s).1 ∧ (numL b fr f n i s).1 < 18446744073709551616
  | 0, i, n, s, h, hf, hi, hn => by omega
  | f + 1, i, n, s, h, hf, hi, hn => by
    unfold numL
    split
    · split
      · exact ⟨Int.le_refl 0, by show (0 : Int) < _; omega⟩
      · rename_i he ha
        split
        · exact ⟨Int.le_refl 0, by show (0 : Int) < _; omega⟩
        · rename_i hbad
          have h0 := h.lo
          have h1 : s.at_ < (b.length : Int) := by have := h.hi; omega
          obtain ⟨c, hc, hc2⟩ := rd_byte hb h0 h1
          obtain ⟨j1, j2, j3⟩ := join7 n i c hi hn hc2 (fun h9 => by
            have : ¬ (i = 9 ∧ rd b s.at_ > 1) := fun h => hbad (.inl h)
            rw [hc] at this
            omega)
          have hval : (n : Int) + rd b s.at_ % 128 * 128 ^ i = ((n + c % 128 * 128 ^ i : Nat) : Int) := by rw [hc, show ((c : Int)) % 128 = ((c % 128 : Nat) : Int) by omega]; push_cast; rfl
          rw [hval]
          split
          · exact ⟨by show (0 : Int) ≤ ((n + c % 128 * 128 ^ i : Nat) : Int); omega, by show ((n + c % 128 * 128 ^ i : Nat) : Int) < _; omega⟩
          · rename_i hlo
            have hi9 : i < 9 := by
              by_cases h9 : i = 9
              · exfalso
                have : ¬ (i = 9 ∧ rd b s.at_ > 1) := fun h => hbad (.inl h)
                rw [hc] at this hlo
                omega
              · omega
            exact numL_range b hb fr f (i + 1) _ _ ⟨by show 0 ≤ s.at_ + 1; omega, by show s.at_ + 1 ≤ _; omega⟩ (by omega) (by omega) (j3 hi9)
    · exact ⟨Int.le_refl 0, by show (0 : Int) < _; omega⟩
theorem numR_range {b : List Int} (hb : bytes b) {s : R3} (h : Good b s) : 0 ≤ (numR b s).1 ∧ (numR b s).1 < 18446744073709551616 := numL_range b hb s.at_ 10 0 0 s h (by omega) (by omega) (by decide)
def unz (n : Int) : Int := if n % 2 = 0 then n / 2 else -(n / 2) - 1
theorem i64_xor0 (a : Int) (h0 : -9223372036854775808 ≤ a) (h1 : a ≤ 9223372036854775807) : bits BinOp.xor IntKind.i64 a 0 = a := by
  show IntKind.i64.wrap ((BitVec.ofInt 64 a ^^^ BitVec.ofInt 64 0).toNat : Int) = _
  rw [show BitVec.ofInt 64 0 = 0#64 by rfl, BitVec.xor_zero, BitVec.toNat_ofInt, IntKind.wrap_i64]
  omega
theorem i64_xor1 (a : Int) (h0 : -9223372036854775808 ≤ a) (h1 : a ≤ 9223372036854775807) : bits BinOp.xor IntKind.i64 a (-1) = -a - 1 := by
  show IntKind.i64.wrap ((BitVec.ofInt 64 a ^^^ BitVec.ofInt 64 (-1)).toNat : Int) = _
  rw [show BitVec.ofInt 64 (-1) = BitVec.allOnes 64 by decide, BitVec.xor_allOnes, BitVec.toNat_not, BitVec.toNat_ofInt, IntKind.wrap_i64]
  omega
theorem and1 (n : Nat) (h : n < 18446744073709551616) : bits BinOp.and IntKind.u64 (n : Int) 1 = ((n % 2 : Nat) : Int) := by
  have := u64_and_nat n 1 h (by omega)
  rw [Nat.and_one_is_mod] at this
  exact this
theorem unz_is (n : Int) (h0 : 0 ≤ n) (h1 : n < 18446744073709551616) : bits BinOp.xor IntKind.i64 (wrap64 (n / 2)) (wrap64 (-(wrap64 (bits BinOp.and IntKind.u64 n 1)))) = unz n := by
  obtain ⟨m, rfl⟩ := Int.eq_ofNat_of_zero_le h0
  rw [and1 m (by omega)]
  have hw : wrap64 ((m : Int) / 2) = (m : Int) / 2 := by unfold wrap64; omega
  rw [hw]
  unfold unz
  by_cases he : (m : Int) % 2 = 0
  · rw [if_pos he, show m % 2 = 0 by omega, show wrap64 (-(wrap64 ((0 : Nat) : Int))) = 0 by unfold wrap64; omega]
    exact i64_xor0 ((m : Int) / 2) (by omega) (by omega)
  · rw [if_neg he, show m % 2 = 1 by omega, show wrap64 (-(wrap64 ((1 : Nat) : Int))) = -1 by unfold wrap64; omega]
    exact i64_xor1 ((m : Int) / 2) (by omega) (by omega)
def intR (b : List Int) (s : R3) : Int × R3 := (unz (numR b s).1, (numR b s).2)
def byteR (b : List Int) (s : R3) : Int × R3 := if s.err = 0 then (if s.at_ = b.length then (0, shortR b s) else (rd b s.at_, ⟨s.at_ + 1, s.err, s.bad⟩)) else (0, s)
def flagR (b : List Int) (s : R3) : Bool × R3 := ((byteR b s).1 == 1, if (byteR b s).1 > 1 then failR 71 s.at_ (byteR b s).2 else (byteR b s).2)
def givenR (b : List Int) (says is : Int) (s : R3) : Int × R3 := if bits .and .u8 says is = 0 ∨ ¬ s.err = 0 then (0, s) else ((intR b s).1, if (intR b s).1 = 0 then failR 71 s.at_ (intR b s).2 else (intR b s).2)
def bandR (b : List Int) (s : R3) : S74 × R3 := (⟨(intR b s).1, (intR b (intR b s).2).1⟩, (intR b (intR b s).2).2)
theorem intR_good {b : List Int} {s : R3} (h : Good b s) : Good b (intR b s).2 := numR_good h
theorem byteR_good {b : List Int} {s : R3} (h : Good b s) : Good b (byteR b s).2 := by
  unfold byteR
  split
  · split
    · exact failR_good h _ _
    · exact ⟨by have := h.lo; show 0 ≤ s.at_ + 1; omega, by have := h.hi; show s.at_ + 1 ≤ _; omega⟩
  · exact h
theorem flagR_good {b : List Int} {s : R3} (h : Good b s) : Good b (flagR b s).2 := by
  unfold flagR
  show Good b (if _ then _ else _)
  split
  · exact failR_good (byteR_good h) _ _
  · exact byteR_good h
theorem givenR_good {b : List Int} {s : R3} (h : Good b s) (says is : Int) : Good b (givenR b says is s).2 := by
  unfold givenR
  split
  · exact h
  · show Good b (if _ then _ else _)
    split
    · exact failR_good (intR_good h) _ _
    · exact intR_good h
theorem intR_ev {b : List Int} (hb : bytes b) (hl : b.length ≤ 9223372036854775806) {s : R3} (h : Good b s) : Ev (fun k => pack_reader_int.f k b s.at_ s.err s.bad) ((intR b s).1, (intR b s).2.at_, (intR b s).2.err, (intR b s).2.bad) := by
  have hr := numR_range hb h
  unfold pack_reader_int.f
  refine Ev.bind (numR_ev b hb hl s h) (Ev.congr (fun k => ?_) (Ev.now _))
  simp only [unz_is _ hr.1 hr.2]
  rfl
theorem byte_is {b : List Int} (hl : b.length ≤ 9223372036854775806) {s : R3} (h : Good b s) : pack_reader_byte.f b s.at_ s.err s.bad = some ((byteR b s).1, (byteR b s).2.at_, (byteR b s).2.err, (byteR b s).2.bad) := by
  have h0 := h.lo
  have h1 := h.hi
  unfold pack_reader_byte.f byteR
  by_cases he : s.err = 0
  · rw [if_pos he, if_pos he]
    by_cases ha : s.at_ = (b.length : Int)
    · rw [if_pos ha, if_pos ha, short_is]; rfl
    · rw [if_neg ha, if_neg ha, wrap_next h0 (by omega), show s.at_ + 1 - 1 = s.at_ by omega, show wrap64 s.at_ = s.at_ by unfold wrap64; omega, if_pos h0, if_pos (by omega)]
  · rw [if_neg he, if_neg he]
theorem flag_is {b : List Int} (hl : b.length ≤ 9223372036854775806) {s : R3} (h : Good b s) : pack_reader_flag.f b s.at_ s.err s.bad = some ((flagR b s).1, (flagR b s).2.at_, (flagR b s).2.err, (flagR b s).2.bad) := by
  unfold pack_reader_flag.f flagR
  rw [byte_is hl h]
  simp only [Option.bind_some]
  by_cases hc : (byteR b s).1 > 1
  · rw [if_pos hc, if_pos hc, fail_is]; rfl
  · rw [if_neg hc, if_neg hc]
theorem given_ev {b : List Int} (hb : bytes b) (hl : b.length ≤ 9223372036854775806) {s : R3} (h : Good b s) (says is : Int) : Ev (fun k => pack_reader_given.f k b s.at_ s.err s.bad says is) ((givenR b says is s).1, (givenR b says is s).2.at_, (givenR b says is s).2.err, (givenR b says is s).2.bad) := by
  have hj : ∀ x : Bool, (x = true ↔ (bits .and .u8 says is = 0 ∨ ¬ s.err = 0)) → Ev (fun k => pack_reader_given.j0 k x b s.at_ s.err s.bad) ((givenR b says is s).1, (givenR b says is s).2.at_, (givenR b says is s).2.err, (givenR b says is s).2.bad) := by
    intro x hx
    unfold givenR
    by_cases hc : bits .and .u8 says is = 0 ∨ ¬ s.err = 0
    · rw [if_pos hc]
      refine Ev.step (f := fun _ => some (0, s.at_, s.err, s.bad)) (fun k => ?_) (Ev.now _)
      simp only [pack_reader_given.j0]
      rw [if_pos (hx.mpr hc)]
    · rw [if_neg hc]
      have hxf : ¬ x = true := fun e => hc (hx.mp e)
      refine Ev.step (f := fun k => (pack_reader_int.f k b s.at_ s.err s.bad).bind fun bt182 => (if bt182.1 = 0 then ((pack_reader_fail.f b bt182.2.1 bt182.2.2.1 bt182.2.2.2 71 s.at_).bind fun bt186 => (some (bt182.1, bt186.1, bt186.2.1, bt186.2.2))) else (some (bt182.1, bt182.2.1, bt182.2.2.1, bt182.2.2.2)))) (fun k => ?_) (Ev.bind (intR_ev hb hl h) (Ev.congr (fun k => ?_) (Ev.now _)))
      · simp only [pack_reader_given.j0]
        rw [if_neg hxf]
      · simp only []
        by_cases hz : (intR b s).1 = 0
        · rw [if_pos hz, if_pos hz, fail_is]; rfl
        · rw [if_neg hz, if_neg hz]
  unfold pack_reader_given.f
  by_cases ha : bits .and .u8 says is = 0
  · refine Ev.congr (fun k => ?_) (hj true ⟨fun _ => .inl ha, fun _ => rfl⟩)
    rw [if_pos ha]
  · refine Ev.congr (fun k => ?_) (hj (s.err != 0) ⟨fun e => .inr (by simpa using e), fun e => by simpa using e.resolve_left ha⟩)
    rw [if_neg ha]
theorem band_ev {b : List Int} (hb : bytes b) (hl : b.length ≤ 9223372036854775806) {s : R3} (h : Good b s) : Ev (fun k => pack_reader_band.f k b s.at_ s.err s.bad) ((bandR b s).1.f0, (bandR b s).1.f1, (bandR b s).2.at_, (bandR b s).2.err, (bandR b s).2.bad) := by
  unfold pack_reader_band.f
  refine Ev.bind (intR_ev hb hl h) (Ev.bind (intR_ev hb hl (intR_good h)) (Ev.now _))
structure Rd (w0 w : World) (g : Nat) (b : List Int) (s : R3) : Prop where
  is : IsS151 w0 w g b s.at_ s.err s.bad
  dat : Below w0.heap.size w0 w
  good : Good b s
  byt : bytes b
  len : b.length ≤ 131072
def RP (w0 : World) (g : Nat) (b : List Int) (s' : R3) (v : Value) (w : World) (e : Ending) (w' : World) : Prop := e = .returned v ∧ Rd w0 w' g b s' ∧ KeepBut w w' g none
section
variable {w0 w : World} {g : Nat} {b : List Int} {s : R3}
theorem fail_r (h : Rd w0 w g b s) (e a : Int) : Calls Try.prog 91 #[.pointer (some ⟨g, 0, none⟩), .int .i64 e, .int .i64 a] w (RP w0 g b (failR e a s) (.tuple #[]) w) :=
  (pack_reader_fail.calls g b s.at_ s.err s.bad e a _ _ _ w0 w h.is h.dat (fail_is b s e a)).mono fun e' w' ⟨he, hi, hb, hk⟩ => ⟨he, ⟨hi, hb, failR_good h.good _ _, h.byt, h.len⟩, hk⟩
theorem short_r (h : Rd w0 w g b s) : Calls Try.prog 90 #[.pointer (some ⟨g, 0, none⟩)] w (RP w0 g b (shortR b s) (.tuple #[]) w) :=
  (pack_reader_short.calls g b s.at_ s.err s.bad _ _ _ w0 w h.is h.dat (short_is b s)).mono fun e' w' ⟨he, hi, hb, hk⟩ => ⟨he, ⟨hi, hb, failR_good h.good _ _, h.byt, h.len⟩, hk⟩
theorem number_r (h : Rd w0 w g b s) : Calls Try.prog 121 #[.pointer (some ⟨g, 0, none⟩)] w (RP w0 g b (numR b s).2 (.int .u64 (numR b s).1) w) := by
  obtain ⟨k, hk⟩ := numR_ev b h.byt (by have := h.len; omega) s h.good
  exact (pack_reader_number.calls k g b s.at_ s.err s.bad _ _ _ _ w0 w h.is h.dat (hk k (Nat.le_refl _))).mono fun e' w' ⟨he, hi, hb, hk⟩ => ⟨he, ⟨hi, hb, numR_good h.good, h.byt, h.len⟩, hk⟩
theorem int_r (h : Rd w0 w g b s) : Calls Try.prog 93 #[.pointer (some ⟨g, 0, none⟩)] w (RP w0 g b (intR b s).2 (.int .i64 (intR b s).1) w) := by
  obtain ⟨k, hk⟩ := intR_ev h.byt (by have := h.len; omega) h.good
  exact (pack_reader_int.calls k g b s.at_ s.err s.bad _ _ _ _ w0 w h.is h.dat (hk k (Nat.le_refl _))).mono fun e' w' ⟨he, hi, hb, hk⟩ => ⟨he, ⟨hi, hb, intR_good h.good, h.byt, h.len⟩, hk⟩
theorem byte_r (h : Rd w0 w g b s) : Calls Try.prog 143 #[.pointer (some ⟨g, 0, none⟩)] w (RP w0 g b (byteR b s).2 (.int .u8 (byteR b s).1) w) :=
  (pack_reader_byte.calls g b s.at_ s.err s.bad _ _ _ _ w0 w h.is h.dat (byte_is (by have := h.len; omega) h.good)).mono fun e' w' ⟨he, hi, hb, hk⟩ => ⟨he, ⟨hi, hb, byteR_good h.good, h.byt, h.len⟩, hk⟩
theorem flag_r (h : Rd w0 w g b s) : Calls Try.prog 125 #[.pointer (some ⟨g, 0, none⟩)] w (RP w0 g b (flagR b s).2 (.bool (flagR b s).1) w) :=
  (pack_reader_flag.calls g b s.at_ s.err s.bad _ _ _ _ w0 w h.is h.dat (flag_is (by have := h.len; omega) h.good)).mono fun e' w' ⟨he, hi, hb, hk⟩ => ⟨he, ⟨hi, hb, flagR_good h.good, h.byt, h.len⟩, hk⟩
theorem given_r (h : Rd w0 w g b s) (says is : Int) : Calls Try.prog 144 #[.pointer (some ⟨g, 0, none⟩), .int .u8 says, .int .u8 is] w (RP w0 g b (givenR b says is s).2 (.int .i64 (givenR b says is s).1) w) := by
  obtain ⟨k, hk⟩ := given_ev h.byt (by have := h.len; omega) h.good says is
  exact (pack_reader_given.calls k g b s.at_ s.err s.bad says is _ _ _ _ w0 w h.is h.dat (hk k (Nat.le_refl _))).mono fun e' w' ⟨he, hi, hb, hk⟩ => ⟨he, ⟨hi, hb, givenR_good h.good _ _, h.byt, h.len⟩, hk⟩
theorem band_r (h : Rd w0 w g b s) : Calls Try.prog 124 #[.pointer (some ⟨g, 0, none⟩)] w (RP w0 g b (bandR b s).2 (.agg #[.int .i64 (bandR b s).1.f0, .int .i64 (bandR b s).1.f1]) w) := by
  obtain ⟨k, hk⟩ := band_ev h.byt (by have := h.len; omega) h.good
  exact (pack_reader_band.calls k g b s.at_ s.err s.bad _ _ _ _ _ w0 w h.is h.dat (hk k (Nat.le_refl _))).mono fun e' w' ⟨he, hi, hb, hk⟩ => ⟨he, ⟨hi, hb, intR_good (intR_good h.good), h.byt, h.len⟩, hk⟩
end
end Go.Proofs.Ytpbdkkahodaloaa.V
end

section
set_option linter.unusedSimpArgs false
set_option linter.unusedVariables false
namespace Go.Proofs.Ytpbdkkahodaloaa.V
open Go.RowKit Go.Proofs.Ytpbdkkahodaloaa.PS Go.Proofs.YtpbdkkahodaloaaW.PrintWords Go.Proofs.YtpbdkkahodaloaaW.PrintMore
set_option maxRecDepth 100000
def textR (b : List Int) (s : R3) : ByteArray × R3 :=
  if (numR b s).1 > b.length - (numR b s).2.at_ then (⟨#[]⟩, shortR b (numR b s).2)
  else (strOfNums ((b.drop (numR b s).2.at_.toNat).take (numR b s).1.toNat), ⟨(numR b s).2.at_ + (numR b s).1, (numR b s).2.err, (numR b s).2.bad⟩)
theorem Rd.drewN {w0 w : World} {g : Nat} {b : List Int} {s : R3} (h : Rd w0 w g b s) (n : Nat) : Rd w0 (w.drewN n) g b s := ⟨h.is.drewN n, pw_below_drewN h.dat n, h.good, h.byt, h.len⟩
theorem Rd.move {w0 w : World} {g : Nat} {b : List Int} {s : R3} (h : Rd w0 w g b s) (a : Int) (h0 : 0 ≤ a) (h1 : a ≤ b.length) : Rd w0 (w.setCell ⟨g, 1, none⟩ (.int .i64 a)) g b ⟨a, s.err, s.bad⟩ :=
  ⟨h.is.set_1 a, h.dat.setCell h.is.ge _, ⟨h0, h1⟩, h.byt, h.len⟩
theorem info5' : (Try.prog.info? 5).map (fun i => (i.zero, i.size, i.bytes)) = some (some (.int .u8 0), 1, 1) := by kernel_rfl
theorem cut_text (w : World) {A : Option Addr} {c : Nat} {b : List Int} (hC : Kd.C (Kd.int .u8) w A b.length b) (hcap : b.length ≤ c) (a n : Int) (h0 : 0 ≤ a) (hn : 0 ≤ n) (h1 : a + n ≤ b.length) :
    ∃ A2 m2 c2, (∀ W, (Instr.slice 23 (.slice A b.length c) (some (.int .i64 a)) (some (.int .i64 (a + n))) none).run Try.prog W = .ok (.slice A2 m2 c2) W) ∧ ∀ j, (convert 23 9 (.slice A2 m2 c2)).run Try.prog (w.drewN j) = .ok (.string (strOfNums ((b.drop a.toNat).take n.toNat))) (w.drewN j) := by
  obtain ⟨i0, hi0, hz0, hz1, hz2⟩ := info_parts info5'
  refine ⟨_, _, _, cut_mid 23 5 .i64 .i64 Try.underlying23 hi0 1 hz1 A b.length c a (a + n) h0 (by omega) h1 hcap, fun j => ?_⟩
  have hm := Kd.C_mid (lo := a.toNat) (hi := (a + n).toNat) hC (by omega) (by omega) hcap
  have e : (b.take (a + n).toNat).drop a.toNat = (b.drop a.toNat).take n.toNat := by rw [List.drop_take, show (a + n).toNat - a.toNat = n.toNat by omega]
  have hl : ((b.take (a + n).toNat).drop a.toNat).length = (a + n).toNat - a.toNat := by rw [List.length_drop, List.length_take]; omega
  rw [hl, e] at hm
  exact Kd.C_string Try.underlying23 Try.underlying5 Try.underlying9 (Kd.C_drewN hm j)
set_option maxHeartbeats 4000000 in
theorem text_r {w0 w : World} {g : Nat} {b : List Int} {s : R3} (h : Rd w0 w g b s) : Calls Try.prog 92 #[.pointer (some ⟨g, 0, none⟩)] w (RP w0 g b (textR b s).2 (.string (textR b s).1) w) := by
  have H0 := Aside0.mk h
  have hr := numR_range h.byt h.good
  have hg := numR_good h.good
  clear h
  go_enter Try.func92, Try.ntmps92
  go_wp2_with fail
  go_at_call 121
  with_reducible refine (number_r H0.out).mono ?_
  intro e w1 hp
  obtain ⟨rfl, hR, hK⟩ := hp
  obtain ⟨n, hn0⟩ : ∃ n, (numR b s).1 = n := ⟨_, rfl⟩
  obtain ⟨s1, hs0⟩ : ∃ s1, (numR b s).2 = s1 := ⟨_, rfl⟩
  rw [hs0] at hg hR
  rw [hn0] at hr ⊢
  have HT := Aside0.mk (show textR b s = if n > b.length - s1.at_ then (⟨#[]⟩, shortR b s1) else (strOfNums ((b.drop s1.at_.toNat).take n.toNat), ⟨s1.at_ + n, s1.err, s1.bad⟩) by unfold textR; rw [hn0, hs0])
  clear hn0 hs0
  obtain ⟨a, er, bd⟩ := s1
  have ha0 : 0 ≤ a := hg.lo
  have ha1 : a ≤ b.length := hg.hi
  have HR := Aside0.mk hR
  have HK := Aside0.mk hK
  have hlen := hR.len
  obtain ⟨A, c, hb, hge, hC, hcap⟩ := hR.is
  have c0 := cellS151_0 hb
  have c1 := cellS151_1 hb
  have c2 := cellS151_2 hb
  have c3 := cellS151_3 hb
  have f1 : w1.frozen? ⟨g, 1, none⟩ = false := blk_frozen hb 1
  have HB := Aside0.mk hb
  have HC := Aside0.mk hC
  have HGE := Aside0.mk hge
  have HCAP := Aside0.mk hcap
  clear hR hK hb hge hC hcap hg
  by_cases hn : n > b.length - a
  · have HT2 := Aside0.mk (HT.out.trans (if_pos hn))
    have e1 : IntKind.i64.wrap ((b.length : Int) - a) = (b.length : Int) - a := by rw [IntKind.wrap_i64]; omega
    have e2 : IntKind.u64.wrap ((b.length : Int) - a) = (b.length : Int) - a := by rw [IntKind.wrap_u64]; omega
    have hb1 : decide ((b.length : Int) - a < n) = true := decide_eq_true hn
    go_wp2_with fail
    go_quiet (fail)
    go_wp2_with fail
    go_at_call 90
    with_reducible refine (short_r (HR.out.drewN nq)).mono ?_
    intro e w2 hp
    obtain ⟨rfl, hR2, hK2⟩ := hp
    have HR2 := Aside0.mk hR2
    have HK2 := Aside0.mk hK2
    clear hR2 hK2
    go_wp2_with fail
    go_ret
    exact ⟨by rw [HT2.out]; rfl, by rw [HT2.out]; exact HR2.out, (keep_drewN HK.out nq).trans HK2.out (.inl rfl)⟩
  · have HT2 := Aside0.mk (HT.out.trans (if_neg hn))
    have e1 : IntKind.i64.wrap ((b.length : Int) - a) = (b.length : Int) - a := by rw [IntKind.wrap_i64]; omega
    have e2 : IntKind.u64.wrap ((b.length : Int) - a) = (b.length : Int) - a := by rw [IntKind.wrap_u64]; omega
    have hb1 : decide ((b.length : Int) - a < n) = false := decide_eq_false hn
    go_wp2_with fail
    go_quiet (fail)
    clear e1 e2
    have hn1 : n ≤ 131072 := by omega
    go_upto_region 6 with (fail)
    have c4 : ((w1.drewN nq).setCell ⟨g, 1, none⟩ (.int .i64 (a + n))).cell? ⟨g, 1, none⟩ = some (.int .i64 (a + n)) := by go_simp
    have c5 : ((w1.drewN nq).setCell ⟨g, 1, none⟩ (.int .i64 (a + n))).cell? ⟨g, 0, none⟩ = some (.slice A b.length c) := by go_simp
    have e1 : IntKind.i64.wrap (a + n - n) = a := by rw [IntKind.wrap_i64]; omega
    have HR2 := Aside0.mk ((HR.out.drewN nq).move (a + n) (by omega) (by omega))
    have HK2 := Aside0.mk ((keep_drewN HK.out nq).set_ 1 (.int .i64 (a + n)))
    generalize (w1.drewN nq).setCell ⟨g, 1, none⟩ (.int .i64 (a + n)) = w2 at c4 c5 HR2 HK2 ⊢
    obtain ⟨A2, m2, cc2, hs, hv⟩ := cut_text w2 (Kd.C_below HC.out HR2.out.dat) HCAP.out a n ha0 hr.1 (by omega)
    go_quiet (fail)
    go_wp2_with fail
    go_ret
    exact ⟨by rw [HT2.out]; rfl, by rw [HT2.out]; exact HR2.out.drewN _, keep_drewN HK2.out _⟩
def listL {α : Type} (item : R3 → α × R3) : Nat → R3 → List α × R3
  | 0, s => ([], s)
  | n + 1, s => if s.err = 0 then ((item s).1 :: (listL item n (item s).2).1, (listL item n (item s).2).2) else ([], s)
def headR (b : List Int) (s : R3) : Nat × R3 := ((numR b s).1.toNat, if (numR b s).1 > b.length - (numR b s).2.at_ then shortR b (numR b s).2 else (numR b s).2)
def listR {α : Type} (b : List Int) (item : R3 → α × R3) (s : R3) : List α × R3 := listL item (headR b s).1 (headR b s).2
theorem listL_err {α : Type} (item : R3 → α × R3) (n : Nat) (s : R3) (h : ¬ s.err = 0) : listL item n s = ([], s) := by
  cases n with
  | zero => rfl
  | succ n => simp only [listL]; rw [if_neg h]
theorem headR_small {b : List Int} {s : R3} (hb : bytes b) (h : Good b s) : (headR b s).2.err = 0 → ((headR b s).1 : Int) ≤ b.length := by
  have hr := numR_range hb h
  have hg := numR_good h
  have := hg.lo
  unfold headR
  show (if _ then _ else _ : R3).err = 0 → (((numR b s).1.toNat : Nat) : Int) ≤ b.length
  split
  · intro he
    exfalso
    unfold shortR failR at he
    split at he
    · have he : (70 : Int) = 0 := he
      omega
    · contradiction
  · intro _; omega
def IP {α : Type} (d : Kd α) (w0 : World) (g : Nat) (b : List Int) (x : α) (s' : R3) (w : World) (e : Ending) (w' : World) : Prop := ∃ cs, e = .returned (.agg cs.toArray) ∧ d.M w' w.heap.size (fun _ => True) x cs ∧ Rd w0 w' g b s' ∧ KeepBut w w' g none
def MP {α : Type} (d : Kd α) (t : Nat) (w0 : World) (g : Nat) (b : List Int) (l : List α) (s' : R3) (w : World) (e : Ending) (w' : World) : Prop := ∃ v, e = .returned v ∧ d.R t w' w.heap.size (fun _ => True) v l ∧ Rd w0 w' g b s' ∧ KeepBut w w' g none
structure LisR {α : Type} (d : Kd α) (t : Nat) (w0 w : World) (g : Nat) (b : List Int) (I : World → Prop) (item : R3 → α × R3) (n : Nat) (s1 : R3) (m : Nat) (s2 : R3) (l : List α) (v : Value) (wr : World) : Prop where
  rd : Rd w0 wr g b s2
  keep : KeepBut w wr g none
  row : d.R t wr w.heap.size (fun k => k ≠ g) v l
  inv : I wr
  all : listL item n s1 = (l ++ (listL item m s2).1, (listL item m s2).2)
  sum : l.length + m = n
  fst : l = [] → s2 = s1
  few : l = [] ∨ n ≤ 131072
theorem Rd.grown {w0 w w1 : World} {g : Nat} {b : List Int} {s : R3} {row : Option Nat} (h : Rd w0 w g b s) (hg : w.grownBy w1 row) (hne : some g ≠ row) (hr : ∀ k, row = some k → w0.heap.size ≤ k) : Rd w0 w1 g b s :=
  ⟨h.is.grown hg hne, h.dat.grown hg h.dat.size hr, h.good, h.byt, h.len⟩
theorem Rd.lt {w0 w : World} {g : Nat} {b : List Int} {s : R3} (h : Rd w0 w g b s) : g < w.heap.size ∧ w0.heap.size ≤ g := ⟨h.is.lt, h.is.ge⟩
section
variable {α : Type} {d : Kd α} {t : Nat} {w0 w : World} {g : Nat} {b : List Int} {I : World → Prop} {item : R3 → α × R3} {n : Nat} {s1 : R3}
theorem LisR.start {w2 : World} (hr : Rd w0 w2 g b s1) (hk : KeepBut w w2 g none) (hi : I w2) : LisR d t w0 w g b I item n s1 n s1 [] (.slice none 0 0) w2 :=
  ⟨hr, hk, Kd.R_nil _ _ _ _ _, hi, by simp, by simp, fun _ => rfl, .inl rfl⟩
theorem LisR.done {m : Nat} {s2 : R3} {l : List α} {v : Value} {wr : World} (h : LisR d t w0 w g b I item n s1 m s2 l v wr) (hm : m = 0 ∨ ¬ s2.err = 0) : MP d t w0 g b (listL item n s1).1 (listL item n s1).2 w (.returned v) wr := by
  have e : listL item m s2 = ([], s2) := by
    rcases hm with rfl | he
    · rfl
    · exact listL_err item m s2 he
  have ha := h.all
  rw [e, List.append_nil] at ha
  rw [ha]
  exact ⟨v, rfl, Kd.R_mono h.row (fun _ _ => trivial), h.rd, h.keep⟩
theorem LisR.few' {m : Nat} {s2 : R3} {l : List α} {v : Value} {wr : World} (h : LisR d t w0 w g b I item n s1 m s2 l v wr) (hs : s1.err = 0 → n ≤ 131072) (he : s2.err = 0) : n ≤ 131072 := by
  rcases h.few with hl | hn
  · exact hs (by rw [← h.fst hl]; exact he)
  · exact hn
theorem LisR.next {m : Nat} {s2 : R3} {l : List α} {v v1 : Value} {wr w2 w3 : World} (h : LisR d t w0 w g b I item n s1 (m + 1) s2 l v wr) (hs : s1.err = 0 → n ≤ 131072) (he : s2.err = 0) (hgw : g < w.heap.size)
    (hI : ∀ w1 w2 : World, I w1 → (∀ k, k < w.heap.size → k ≠ g → w2.heap[k]? = w1.heap[k]?) → I w2)
    (hr : Rd w0 w2 g b (item s2).2) (hk : KeepBut wr w2 g none) (ho : d.R t w3 w.heap.size (fun k => k ≠ g) v1 (l ++ [(item s2).1])) (hg : w2.grownBy w3 v.ownBlock) : LisR d t w0 w g b I item n s1 m (item s2).2 (l ++ [(item s2).1]) v1 w3 := by
  have hne : some g ≠ v.ownBlock := fun e => h.row.1 g e.symm rfl
  have hlow : ∀ k, v.ownBlock = some k → w.heap.size ≤ k := fun k hk' => by obtain ⟨inner, ho'⟩ := Kd.R_own h.row; exact (ho'.lt k hk').1
  have hwr : w.heap.size ≤ wr.heap.size := h.keep.1
  have hk2 : KeepBut w w2 g none := h.keep.trans hk (.inl rfl)
  refine ⟨hr.grown hg hne (fun k hk' => by have := hlow k hk'; have := h.rd.lt; omega), hk2.trans (KeepBut.of_grown hg g) ?_, ho, ?_, ?_, ?_, fun e => ?_, .inr (h.few' hs he)⟩
  · rcases hv : v.ownBlock with _ | k
    · exact .inl rfl
    · exact .inr ⟨k, rfl, hlow k hv⟩
  · refine hI wr w3 h.inv (fun k hk' hkg => ?_)
    rw [hg.block k (Nat.lt_of_lt_of_le hk' hk2.1) (fun e => by have := hlow k e.symm; omega)]
    exact hk.2 k (Nat.lt_of_lt_of_le hk' hwr) hkg (by simp)
  · rw [h.all]
    simp only [listL]
    rw [if_pos he]
    simp
  · have := h.sum; rw [List.length_append, List.length_singleton]; omega
  · simp at e
end
end Go.Proofs.Ytpbdkkahodaloaa.V
end

section
set_option linter.unusedVariables false
namespace Go.Proofs.Ytpbdkkahodaloaa.V
open Go.RowKit Go.Proofs.Ytpbdkkahodaloaa.PS Go.Proofs.YtpbdkkahodaloaaW.PrintWords Go.Proofs.YtpbdkkahodaloaaW.PrintMore
set_option maxRecDepth 100000
theorem info9' : (Try.prog.info? 9).map (fun i => (i.zero, i.size, i.bytes)) = some (some (.string ⟨#[]⟩), 1, 16) := by kernel_rfl
set_option maxHeartbeats 4000000 in
theorem list122 (w0 w : World) (g : Nat) (b : List Int) (s : R3) (I : World → Prop) (item : R3 → ByteArray × R3) (h : Rd w0 w g b s) (hI0 : I w) (hI : ∀ w1 w2 : World, I w1 → (∀ k, k < w.heap.size → k ≠ g → w2.heap[k]? = w1.heap[k]?) → I w2)
    (hit : ∀ (s2 : R3) (w2 : World), Rd w0 w2 g b s2 → I w2 → w.heap.size ≤ w2.heap.size → Calls Try.prog 92 #[.pointer (some ⟨g, 0, none⟩)] w2 (RP w0 g b (item s2).2 (.string (item s2).1) w2)) :
    Calls Try.prog 122 #[.pointer (some ⟨g, 0, none⟩), .func (.func 92) #[.pointer (some ⟨g, 0, none⟩)] #[]] w (MP Kd.string 9 w0 g b (listR b item s).1 (listR b item s).2 w) := by
  have H0 := Aside0.mk h
  have HI0 := Aside0.mk hI0
  have HI := Aside0.mk hI
  have HIT := Aside0.mk hit
  have hr := numR_range h.byt h.good
  have hg := numR_good h.good
  have HSM := Aside0.mk (headR_small h.byt h.good)
  have HGW := Aside0.mk h.lt.1
  clear h hI0 hI hit
  go_enter Try.func122, Try.ntmps122
  go_wp2_with fail
  go_at_call 121
  with_reducible refine (number_r H0.out).mono ?_
  intro e w1 hp
  obtain ⟨rfl, hR, hK⟩ := hp
  obtain ⟨n, hn0⟩ : ∃ n : Nat, (numR b s).1 = (n : Int) := ⟨(numR b s).1.toNat, by omega⟩
  obtain ⟨s1, hs0⟩ : ∃ s1, (numR b s).2 = s1 := ⟨_, rfl⟩
  rw [hs0] at hg hR
  rw [hn0] at hr ⊢
  have HH := Aside0.mk (show headR b s = (n, if (n : Int) > b.length - s1.at_ then shortR b s1 else s1) by unfold headR; rw [hn0, hs0, Int.toNat_natCast])
  clear hn0 hs0
  obtain ⟨a, er, bd⟩ := s1
  have ha0 : 0 ≤ a := hg.lo
  have ha1 : a ≤ b.length := hg.hi
  have hlen := hR.len
  have HR := Aside0.mk hR
  have HK := Aside0.mk hK
  have HI1 := Aside0.mk (HI.out w w1 HI0.out (fun k hk hkg => hK.2 k hk hkg (by simp)))
  obtain ⟨A, c, hb, hge, hC, hcap⟩ := hR.is
  have c0 := cellS151_0 hb
  have c1 := cellS151_1 hb
  clear hR hK hb hge hC hcap hg
  have e1 : IntKind.i64.wrap ((b.length : Int) - a) = (b.length : Int) - a := by rw [IntKind.wrap_i64]; omega
  have e2 : IntKind.u64.wrap ((b.length : Int) - a) = (b.length : Int) - a := by rw [IntKind.wrap_u64]; omega
  by_cases hn : (n : Int) > b.length - a
  case' pos =>
    have hb1 : decide ((b.length : Int) - a < (n : Int)) = true := decide_eq_true hn
    have HH2 := Aside0.mk (HH.out.trans (by rw [if_pos hn] : _ = (n, shortR b ⟨a, er, bd⟩)))
    go_wp2_with fail
    go_quiet (fail)
    clear e1 e2
    go_wp2_with fail
    go_at_call 90
    with_reducible refine (short_r (HR.out.drewN nq)).mono ?_
    intro e w2 hp
    obtain ⟨rfl, hR2, hK2⟩ := hp
    have HI2 := Aside0.mk (HI.out w1 w2 HI1.out (fun k hk hkg => hK2.2 k (Nat.lt_of_lt_of_le hk HK.out.1) hkg (by simp)))
    have HK2 := Aside0.mk ((keep_drewN HK.out nq).trans hK2 (.inl rfl))
    have HR2 := Aside0.mk hR2
    clear hR2 hK2 c0 c1 hb1
    generalize shortR b ⟨a, er, bd⟩ = s2 at HH2 HR2
    clear HR HK HI1 HH hn
    go_wp2_with fail
  case' neg =>
    have hb1 : decide ((b.length : Int) - a < (n : Int)) = false := decide_eq_false hn
    have HH2 := Aside0.mk (HH.out.trans (by rw [if_neg hn] : _ = (n, (⟨a, er, bd⟩ : R3))))
    go_wp2_with fail
    go_quiet (fail)
    clear e1 e2
    have HI2 := Aside0.mk (HI.out w1 (w1.drewN nq) HI1.out (fun _ _ _ => rfl))
    have HK2 := Aside0.mk (keep_drewN HK.out nq)
    have HR2 := Aside0.mk (HR.out.drewN nq)
    clear c0 c1 hb1
    generalize (⟨a, er, bd⟩ : R3) = s2 at HH2 HR2
    clear HR HK HI1 HH hn
    generalize w1.drewN nq = w2 at HI2 HK2 HR2 ⊢
    go_wp2_with fail
  all_goals (
    rw [HH2.out] at HSM
    have HS2 := Aside0.mk (show s2.err = 0 → n ≤ 131072 from fun h => by have := HSM.out h; omega)
    go_loopw [5, 6] (fun v5 v6 wr => ∃ (m : Nat) (s3 : R3) (l : List ByteArray), v5 = .int .u64 (m : Nat) ∧ Aside0 (LisR Kd.string 9 w0 w g b I item n s2 m s3 l v6 wr)) (fun v5 _ _ => (intOf v5).toNat)
    case atStart => exact ⟨n, s2, [], rfl, ⟨LisR.start HR2.out HK2.out HI2.out⟩⟩
    case round =>
      obtain ⟨m, s3, l, rfl, HL⟩ := hrel
      have hmn : m ≤ n := by have := HL.out.sum; omega
      obtain ⟨A3, cc3, hb3, hge3, hC3, hcap3⟩ := HL.out.rd.is
      have d2 := cellS151_2 hb3
      clear hb3 hge3 hC3 hcap3
      obtain ⟨a3, er3, bd3⟩ := s3
      by_cases hm : m = 0
      · have hb2 : decide ((0 : Int) < (m : Int)) = false := decide_eq_false (by omega)
        have HM := Aside0.mk hm
        have hm2 : ¬ 0 < m := by omega
        clear hm
        go_wp2_with fail
        go_ret
        rw [show listR b item s = listL item n s2 by unfold listR; rw [HH2.out]]
        exact HL.out.done (.inl HM.out)
      · by_cases he : er3 = 0
        · obtain ⟨m1, rfl⟩ : ∃ m1, m = m1 + 1 := ⟨m - 1, by omega⟩
          have hb2 : decide ((0 : Int) < ((m1 + 1 : Nat) : Int)) = true := decide_eq_true (by omega)
          have hm2 : 0 < m1 + 1 := by omega
          have hb3 : (er3 == 0) = true := by simp [he]
          have HE := Aside0.mk (show (⟨a3, er3, bd3⟩ : R3).err = 0 from he)
          clear he hm
          go_wp2_with fail
          go_at_call 92
          with_reducible refine (HIT.out ⟨a3, er3, bd3⟩ wr HL.out.rd HL.out.inv (keep_size HL.out.keep)).mono ?_
          intro e w3 hp
          obtain ⟨rfl, hR4, hK4⟩ := hp
          obtain ⟨x, hx⟩ : ∃ x, (item ⟨a3, er3, bd3⟩).1 = x := ⟨_, rfl⟩
          rw [hx]
          have HX := Aside0.mk hx
          have HR4 := Aside0.mk hR4
          have HK4 := Aside0.mk hK4
          have HRW := Aside0.mk (Kd.R_keep HL.out.row HK4.out (fun _ hk => hk))
          have HOK := Aside0.mk (show ∀ k_, wr.heap.size ≤ k_ → k_ ≠ g ∧ some k_ ≠ u6.ownBlock from fun k_ hk => ⟨by have := HL.out.rd.lt; omega, fun e_ => by obtain ⟨inner_, ho_⟩ := Kd.R_own HL.out.row; have := (ho_.lt k_ e_.symm).2; omega⟩)
          have HFR := Aside0.mk (show ∀ k_, w3.heap.size ≤ k_ → k_ ≠ g from fun k_ hk => by have := HR4.out.lt; omega)
          have HBS := Aside0.mk (show w.heap.size ≤ w3.heap.size from Nat.le_trans HL.out.keep.1 HK4.out.1)
          have HLN := Aside0.mk (show (l.length + 1) * 16 ≤ 140737488355328 from by have := HL.out.sum; have := HL.out.few' HS2.out HE.out; omega)
          clear hR4 hK4 hx d2 hb2 hb3
          go_wp2_with (at_builtin; refine Kd.R_append Kd.string w.heap.size rfl _ _ 95 9 (.string ⟨#[]⟩) 16 rfl Try.underlying95 info9' rfl (by decide) (by decide) u6 l x [.string x] (fun k_ => k_ ≠ g) (fun k_ => wr.heap.size ≤ k_) rfl rfl rfl HOK.out HFR.out HRW.out (Below.refl _ _) HBS.out HLN.out ?_; intro v9 w4 ho9 _ hg9 _)
          rw [← HX.out] at ho9
          have HN := Aside0.mk (HL.out.next HS2.out HE.out HGW.out HI.out HR4.out HK4.out ho9 hg9)
          clear ho9 hg9
          try go_wp2_with fail
          go_roundw
          case rel => exact ⟨m1, _, _, by first | rfl | go_num | (congr 1; omega), HN⟩
          case measure => simp [intOf] <;> omega
        · have hb2 : decide ((0 : Int) < (m : Int)) = true := decide_eq_true (by omega)
          have hm2 : 0 < m := by omega
          have hb3 : (er3 == 0) = false := by simp [he]
          have HE := Aside0.mk (show ¬ (⟨a3, er3, bd3⟩ : R3).err = 0 from he)
          clear he hm
          go_wp2_with fail
          go_ret
          rw [show listR b item s = listL item n s2 by unfold listR; rw [HH2.out]]
          exact HL.out.done (.inr HE.out))
theorem info74' : (Try.prog.info? 74).map (fun i => (i.zero, i.size, i.bytes)) = some (some (.agg #[(.int .i64 0), (.int .i64 0)]), 2, 16) := by kernel_rfl
set_option maxHeartbeats 4000000 in
theorem list123 (w0 w : World) (g : Nat) (b : List Int) (s : R3) (I : World → Prop) (item : R3 → S74 × R3) (h : Rd w0 w g b s) (hI0 : I w) (hI : ∀ w1 w2 : World, I w1 → (∀ k, k < w.heap.size → k ≠ g → w2.heap[k]? = w1.heap[k]?) → I w2)
    (hit : ∀ (s2 : R3) (w2 : World), Rd w0 w2 g b s2 → I w2 → w.heap.size ≤ w2.heap.size → Calls Try.prog 124 #[.pointer (some ⟨g, 0, none⟩)] w2 (IP k74 w0 g b (item s2).1 (item s2).2 w2)) :
    Calls Try.prog 123 #[.pointer (some ⟨g, 0, none⟩), .func (.func 124) #[.pointer (some ⟨g, 0, none⟩)] #[]] w (MP k74 74 w0 g b (listR b item s).1 (listR b item s).2 w) := by
  have H0 := Aside0.mk h
  have HI0 := Aside0.mk hI0
  have HI := Aside0.mk hI
  have HIT := Aside0.mk hit
  have hr := numR_range h.byt h.good
  have hg := numR_good h.good
  have HSM := Aside0.mk (headR_small h.byt h.good)
  have HGW := Aside0.mk h.lt.1
  clear h hI0 hI hit
  go_enter Try.func123, Try.ntmps123
  go_wp2_with fail
  go_at_call 121
  with_reducible refine (number_r H0.out).mono ?_
  intro e w1 hp
  obtain ⟨rfl, hR, hK⟩ := hp
  obtain ⟨n, hn0⟩ : ∃ n : Nat, (numR b s).1 = (n : Int) := ⟨(numR b s).1.toNat, by omega⟩
  obtain ⟨s1, hs0⟩ : ∃ s1, (numR b s).2 = s1 := ⟨_, rfl⟩
  rw [hs0] at hg hR
  rw [hn0] at hr ⊢
  have HH := Aside0.mk (show headR b s = (n, if (n : Int) > b.length - s1.at_ then shortR b s1 else s1) by unfold headR; rw [hn0, hs0, Int.toNat_natCast])
  clear hn0 hs0
  obtain ⟨a, er, bd⟩ := s1
  have ha0 : 0 ≤ a := hg.lo
  have ha1 : a ≤ b.length := hg.hi
  have hlen := hR.len
  have HR := Aside0.mk hR
  have HK := Aside0.mk hK
  have HI1 := Aside0.mk (HI.out w w1 HI0.out (fun k hk hkg => hK.2 k hk hkg (by simp)))
  obtain ⟨A, c, hb, hge, hC, hcap⟩ := hR.is
  have c0 := cellS151_0 hb
  have c1 := cellS151_1 hb
  clear hR hK hb hge hC hcap hg
  have e1 : IntKind.i64.wrap ((b.length : Int) - a) = (b.length : Int) - a := by rw [IntKind.wrap_i64]; omega
  have e2 : IntKind.u64.wrap ((b.length : Int) - a) = (b.length : Int) - a := by rw [IntKind.wrap_u64]; omega
  by_cases hn : (n : Int) > b.length - a
  case' pos =>
    have hb1 : decide ((b.length : Int) - a < (n : Int)) = true := decide_eq_true hn
    have HH2 := Aside0.mk (HH.out.trans (by rw [if_pos hn] : _ = (n, shortR b ⟨a, er, bd⟩)))
    go_wp2_with fail
    go_quiet (fail)
    clear e1 e2
    go_wp2_with fail
    go_at_call 90
    with_reducible refine (short_r (HR.out.drewN nq)).mono ?_
    intro e w2 hp
    obtain ⟨rfl, hR2, hK2⟩ := hp
    have HI2 := Aside0.mk (HI.out w1 w2 HI1.out (fun k hk hkg => hK2.2 k (Nat.lt_of_lt_of_le hk HK.out.1) hkg (by simp)))
    have HK2 := Aside0.mk ((keep_drewN HK.out nq).trans hK2 (.inl rfl))
    have HR2 := Aside0.mk hR2
    clear hR2 hK2 c0 c1 hb1
    generalize shortR b ⟨a, er, bd⟩ = s2 at HH2 HR2
    clear HR HK HI1 HH hn
    go_wp2_with fail
  case' neg =>
    have hb1 : decide ((b.length : Int) - a < (n : Int)) = false := decide_eq_false hn
    have HH2 := Aside0.mk (HH.out.trans (by rw [if_neg hn] : _ = (n, (⟨a, er, bd⟩ : R3))))
    go_wp2_with fail
    go_quiet (fail)
    clear e1 e2
    have HI2 := Aside0.mk (HI.out w1 (w1.drewN nq) HI1.out (fun _ _ _ => rfl))
    have HK2 := Aside0.mk (keep_drewN HK.out nq)
    have HR2 := Aside0.mk (HR.out.drewN nq)
    clear c0 c1 hb1
    generalize (⟨a, er, bd⟩ : R3) = s2 at HH2 HR2
    clear HR HK HI1 HH hn
    generalize w1.drewN nq = w2 at HI2 HK2 HR2 ⊢
    go_wp2_with fail
  all_goals (
    rw [HH2.out] at HSM
    have HS2 := Aside0.mk (show s2.err = 0 → n ≤ 131072 from fun h => by have := HSM.out h; omega)
    go_loopw [5, 6] (fun v5 v6 wr => ∃ (m : Nat) (s3 : R3) (l : List S74), v5 = .int .u64 (m : Nat) ∧ Aside0 (LisR k74 74 w0 w g b I item n s2 m s3 l v6 wr)) (fun v5 _ _ => (intOf v5).toNat)
    case atStart => exact ⟨n, s2, [], rfl, ⟨LisR.start HR2.out HK2.out HI2.out⟩⟩
    case round =>
      obtain ⟨m, s3, l, rfl, HL⟩ := hrel
      have hmn : m ≤ n := by have := HL.out.sum; omega
      obtain ⟨A3, cc3, hb3, hge3, hC3, hcap3⟩ := HL.out.rd.is
      have d2 := cellS151_2 hb3
      clear hb3 hge3 hC3 hcap3
      obtain ⟨a3, er3, bd3⟩ := s3
      by_cases hm : m = 0
      · have hb2 : decide ((0 : Int) < (m : Int)) = false := decide_eq_false (by omega)
        have HM := Aside0.mk hm
        have hm2 : ¬ 0 < m := by omega
        clear hm
        go_wp2_with fail
        go_ret
        rw [show listR b item s = listL item n s2 by unfold listR; rw [HH2.out]]
        exact HL.out.done (.inl HM.out)
      · by_cases he : er3 = 0
        · obtain ⟨m1, rfl⟩ : ∃ m1, m = m1 + 1 := ⟨m - 1, by omega⟩
          have hb2 : decide ((0 : Int) < ((m1 + 1 : Nat) : Int)) = true := decide_eq_true (by omega)
          have hm2 : 0 < m1 + 1 := by omega
          have hb3 : (er3 == 0) = true := by simp [he]
          have HE := Aside0.mk (show (⟨a3, er3, bd3⟩ : R3).err = 0 from he)
          clear he hm
          go_wp2_with fail
          go_at_call 124
          with_reducible refine (HIT.out ⟨a3, er3, bd3⟩ wr HL.out.rd HL.out.inv (keep_size HL.out.keep)).mono ?_
          intro e w3 hp
          obtain ⟨cs, rfl, hM, hR4, hK4⟩ := hp
          obtain ⟨x, hx⟩ : ∃ x, (item ⟨a3, er3, bd3⟩).1 = x := ⟨_, rfl⟩
          rw [hx] at hM
          have HX := Aside0.mk hx
          have HR4 := Aside0.mk hR4
          have HK4 := Aside0.mk hK4
          obtain rfl := k74_openM hM
          clear hM
          have HRW := Aside0.mk (Kd.R_keep HL.out.row HK4.out (fun _ hk => hk))
          have HOK := Aside0.mk (show ∀ k_, wr.heap.size ≤ k_ → k_ ≠ g ∧ some k_ ≠ u6.ownBlock from fun k_ hk => ⟨by have := HL.out.rd.lt; omega, fun e_ => by obtain ⟨inner_, ho_⟩ := Kd.R_own HL.out.row; have := (ho_.lt k_ e_.symm).2; omega⟩)
          have HFR := Aside0.mk (show ∀ k_, w3.heap.size ≤ k_ → k_ ≠ g from fun k_ hk => by have := HR4.out.lt; omega)
          have HBS := Aside0.mk (show w.heap.size ≤ w3.heap.size from Nat.le_trans HL.out.keep.1 HK4.out.1)
          have HLN := Aside0.mk (show (l.length + 1) * 16 ≤ 140737488355328 from by have := HL.out.sum; have := HL.out.few' HS2.out HE.out; omega)
          clear hR4 hK4 hx d2 hb2 hb3
          go_wp2_with (at_builtin; refine Kd.R_append k74 w.heap.size rfl _ _ 70 74 (.agg #[(.int .i64 0), (.int .i64 0)]) 16 rfl Try.underlying70 info74' rfl (by decide) (by decide) u6 l x [.int .i64 x.f0, .int .i64 x.f1] (fun k_ => k_ ≠ g) (fun k_ => wr.heap.size ≤ k_) rfl rfl (k74_mkM w3 w.heap.size (fun k_ => wr.heap.size ≤ k_) x) HOK.out HFR.out HRW.out (Below.refl _ _) HBS.out HLN.out ?_; intro v9 w4 ho9 _ hg9 _)
          rw [← HX.out] at ho9
          have HN := Aside0.mk (HL.out.next HS2.out HE.out HGW.out HI.out HR4.out HK4.out ho9 hg9)
          clear ho9 hg9
          try go_wp2_with fail
          go_roundw
          case rel => exact ⟨m1, _, _, by first | rfl | go_num | (congr 1; omega), HN⟩
          case measure => simp [intOf] <;> omega
        · have hb2 : decide ((0 : Int) < (m : Int)) = true := decide_eq_true (by omega)
          have hm2 : 0 < m := by omega
          have hb3 : (er3 == 0) = false := by simp [he]
          have HE := Aside0.mk (show ¬ (⟨a3, er3, bd3⟩ : R3).err = 0 from he)
          clear he hm
          go_wp2_with fail
          go_ret
          rw [show listR b item s = listL item n s2 by unfold listR; rw [HH2.out]]
          exact HL.out.done (.inr HE.out))
theorem info97' : (Try.prog.info? 97).map (fun i => (i.zero, i.size, i.bytes)) = some (some (.agg #[(.string ⟨#[]⟩), (.slice none 0 0)]), 2, 40) := by kernel_rfl
set_option maxHeartbeats 4000000 in
theorem list94 (w0 w : World) (g : Nat) (b : List Int) (s : R3) (I : World → Prop) (item : R3 → S97 × R3) (h : Rd w0 w g b s) (hI0 : I w) (hI : ∀ w1 w2 : World, I w1 → (∀ k, k < w.heap.size → k ≠ g → w2.heap[k]? = w1.heap[k]?) → I w2)
    (hit : ∀ (s2 : R3) (w2 : World), Rd w0 w2 g b s2 → I w2 → w.heap.size ≤ w2.heap.size → Calls Try.prog 95 #[.pointer (some ⟨g, 0, none⟩)] w2 (IP k97 w0 g b (item s2).1 (item s2).2 w2)) :
    Calls Try.prog 94 #[.pointer (some ⟨g, 0, none⟩), .func (.func 95) #[.pointer (some ⟨g, 0, none⟩)] #[]] w (MP k97 97 w0 g b (listR b item s).1 (listR b item s).2 w) := by
  have H0 := Aside0.mk h
  have HI0 := Aside0.mk hI0
  have HI := Aside0.mk hI
  have HIT := Aside0.mk hit
  have hr := numR_range h.byt h.good
  have hg := numR_good h.good
  have HSM := Aside0.mk (headR_small h.byt h.good)
  have HGW := Aside0.mk h.lt.1
  clear h hI0 hI hit
  go_enter Try.func94, Try.ntmps94
  go_wp2_with fail
  go_at_call 121
  with_reducible refine (number_r H0.out).mono ?_
  intro e w1 hp
  obtain ⟨rfl, hR, hK⟩ := hp
  obtain ⟨n, hn0⟩ : ∃ n : Nat, (numR b s).1 = (n : Int) := ⟨(numR b s).1.toNat, by omega⟩
  obtain ⟨s1, hs0⟩ : ∃ s1, (numR b s).2 = s1 := ⟨_, rfl⟩
  rw [hs0] at hg hR
  rw [hn0] at hr ⊢
  have HH := Aside0.mk (show headR b s = (n, if (n : Int) > b.length - s1.at_ then shortR b s1 else s1) by unfold headR; rw [hn0, hs0, Int.toNat_natCast])
  clear hn0 hs0
  obtain ⟨a, er, bd⟩ := s1
  have ha0 : 0 ≤ a := hg.lo
  have ha1 : a ≤ b.length := hg.hi
  have hlen := hR.len
  have HR := Aside0.mk hR
  have HK := Aside0.mk hK
  have HI1 := Aside0.mk (HI.out w w1 HI0.out (fun k hk hkg => hK.2 k hk hkg (by simp)))
  obtain ⟨A, c, hb, hge, hC, hcap⟩ := hR.is
  have c0 := cellS151_0 hb
  have c1 := cellS151_1 hb
  clear hR hK hb hge hC hcap hg
  have e1 : IntKind.i64.wrap ((b.length : Int) - a) = (b.length : Int) - a := by rw [IntKind.wrap_i64]; omega
  have e2 : IntKind.u64.wrap ((b.length : Int) - a) = (b.length : Int) - a := by rw [IntKind.wrap_u64]; omega
  by_cases hn : (n : Int) > b.length - a
  case' pos =>
    have hb1 : decide ((b.length : Int) - a < (n : Int)) = true := decide_eq_true hn
    have HH2 := Aside0.mk (HH.out.trans (by rw [if_pos hn] : _ = (n, shortR b ⟨a, er, bd⟩)))
    go_wp2_with fail
    go_quiet (fail)
    clear e1 e2
    go_wp2_with fail
    go_at_call 90
    with_reducible refine (short_r (HR.out.drewN nq)).mono ?_
    intro e w2 hp
    obtain ⟨rfl, hR2, hK2⟩ := hp
    have HI2 := Aside0.mk (HI.out w1 w2 HI1.out (fun k hk hkg => hK2.2 k (Nat.lt_of_lt_of_le hk HK.out.1) hkg (by simp)))
    have HK2 := Aside0.mk ((keep_drewN HK.out nq).trans hK2 (.inl rfl))
    have HR2 := Aside0.mk hR2
    clear hR2 hK2 c0 c1 hb1
    generalize shortR b ⟨a, er, bd⟩ = s2 at HH2 HR2
    clear HR HK HI1 HH hn
    go_wp2_with fail
  case' neg =>
    have hb1 : decide ((b.length : Int) - a < (n : Int)) = false := decide_eq_false hn
    have HH2 := Aside0.mk (HH.out.trans (by rw [if_neg hn] : _ = (n, (⟨a, er, bd⟩ : R3))))
    go_wp2_with fail
    go_quiet (fail)
    clear e1 e2
    have HI2 := Aside0.mk (HI.out w1 (w1.drewN nq) HI1.out (fun _ _ _ => rfl))
    have HK2 := Aside0.mk (keep_drewN HK.out nq)
    have HR2 := Aside0.mk (HR.out.drewN nq)
    clear c0 c1 hb1
    generalize (⟨a, er, bd⟩ : R3) = s2 at HH2 HR2
    clear HR HK HI1 HH hn
    generalize w1.drewN nq = w2 at HI2 HK2 HR2 ⊢
    go_wp2_with fail
  all_goals (
    rw [HH2.out] at HSM
    have HS2 := Aside0.mk (show s2.err = 0 → n ≤ 131072 from fun h => by have := HSM.out h; omega)
    go_loopw [5, 6] (fun v5 v6 wr => ∃ (m : Nat) (s3 : R3) (l : List S97), v5 = .int .u64 (m : Nat) ∧ Aside0 (LisR k97 97 w0 w g b I item n s2 m s3 l v6 wr)) (fun v5 _ _ => (intOf v5).toNat)
    case atStart => exact ⟨n, s2, [], rfl, ⟨LisR.start HR2.out HK2.out HI2.out⟩⟩
    case round =>
      obtain ⟨m, s3, l, rfl, HL⟩ := hrel
      have hmn : m ≤ n := by have := HL.out.sum; omega
      obtain ⟨A3, cc3, hb3, hge3, hC3, hcap3⟩ := HL.out.rd.is
      have d2 := cellS151_2 hb3
      clear hb3 hge3 hC3 hcap3
      obtain ⟨a3, er3, bd3⟩ := s3
      by_cases hm : m = 0
      · have hb2 : decide ((0 : Int) < (m : Int)) = false := decide_eq_false (by omega)
        have HM := Aside0.mk hm
        have hm2 : ¬ 0 < m := by omega
        clear hm
        go_wp2_with fail
        go_ret
        rw [show listR b item s = listL item n s2 by unfold listR; rw [HH2.out]]
        exact HL.out.done (.inl HM.out)
      · by_cases he : er3 = 0
        · obtain ⟨m1, rfl⟩ : ∃ m1, m = m1 + 1 := ⟨m - 1, by omega⟩
          have hb2 : decide ((0 : Int) < ((m1 + 1 : Nat) : Int)) = true := decide_eq_true (by omega)
          have hm2 : 0 < m1 + 1 := by omega
          have hb3 : (er3 == 0) = true := by simp [he]
          have HE := Aside0.mk (show (⟨a3, er3, bd3⟩ : R3).err = 0 from he)
          clear he hm
          go_wp2_with fail
          go_at_call 95
          with_reducible refine (HIT.out ⟨a3, er3, bd3⟩ wr HL.out.rd HL.out.inv (keep_size HL.out.keep)).mono ?_
          intro e w3 hp
          obtain ⟨cs, rfl, hM, hR4, hK4⟩ := hp
          obtain ⟨x, hx⟩ : ∃ x, (item ⟨a3, er3, bd3⟩).1 = x := ⟨_, rfl⟩
          rw [hx] at hM
          have HX := Aside0.mk hx
          have HR4 := Aside0.mk hR4
          have HK4 := Aside0.mk hK4
          obtain ⟨v1, rfl, hq1⟩ := k97_openM hM
          have Q1 := Aside0.mk hq1
          clear hM hq1
          have P1 := Aside0.mk (Kd.R_lower (Kd.R_mono (Kd.R_bound Q1.out) (fun k_ (hk : _ ∧ wr.heap.size ≤ k_ ∧ _) => hk.2.1)) HL.out.keep.1)
          have HRW := Aside0.mk (Kd.R_keep HL.out.row HK4.out (fun _ hk => hk))
          have HOK := Aside0.mk (show ∀ k_, wr.heap.size ≤ k_ → k_ ≠ g ∧ some k_ ≠ u6.ownBlock from fun k_ hk => ⟨by have := HL.out.rd.lt; omega, fun e_ => by obtain ⟨inner_, ho_⟩ := Kd.R_own HL.out.row; have := (ho_.lt k_ e_.symm).2; omega⟩)
          have HFR := Aside0.mk (show ∀ k_, w3.heap.size ≤ k_ → k_ ≠ g from fun k_ hk => by have := HR4.out.lt; omega)
          have HBS := Aside0.mk (show w.heap.size ≤ w3.heap.size from Nat.le_trans HL.out.keep.1 HK4.out.1)
          have HLN := Aside0.mk (show (l.length + 1) * 40 ≤ 140737488355328 from by have := HL.out.sum; have := HL.out.few' HS2.out HE.out; omega)
          clear hR4 hK4 hx d2 hb2 hb3
          go_wp2_with (at_builtin; refine Kd.R_append k97 w.heap.size rfl _ _ 27 97 (.agg #[(.string ⟨#[]⟩), (.slice none 0 0)]) 40 rfl Try.underlying27 info97' rfl (by decide) (by decide) u6 l x [.string x.f0, v1] (fun k_ => k_ ≠ g) (fun k_ => wr.heap.size ≤ k_) rfl rfl (k97_mkM w3 w.heap.size (fun k_ => wr.heap.size ≤ k_) x P1.out) HOK.out HFR.out HRW.out (Below.refl _ _) HBS.out HLN.out ?_; intro v9 w4 ho9 _ hg9 _)
          rw [← HX.out] at ho9
          have HN := Aside0.mk (HL.out.next HS2.out HE.out HGW.out HI.out HR4.out HK4.out ho9 hg9)
          clear ho9 hg9
          try go_wp2_with fail
          go_roundw
          case rel => exact ⟨m1, _, _, by first | rfl | go_num | (congr 1; omega), HN⟩
          case measure => simp [intOf] <;> omega
        · have hb2 : decide ((0 : Int) < (m : Int)) = true := decide_eq_true (by omega)
          have hm2 : 0 < m := by omega
          have hb3 : (er3 == 0) = false := by simp [he]
          have HE := Aside0.mk (show ¬ (⟨a3, er3, bd3⟩ : R3).err = 0 from he)
          clear he hm
          go_wp2_with fail
          go_ret
          rw [show listR b item s = listL item n s2 by unfold listR; rw [HH2.out]]
          exact HL.out.done (.inr HE.out))
theorem info72' : (Try.prog.info? 72).map (fun i => (i.zero, i.size, i.bytes)) = some (some (.agg #[(.string ⟨#[]⟩), (.slice none 0 0)]), 2, 40) := by kernel_rfl
set_option maxHeartbeats 4000000 in
theorem list96 (w0 w : World) (g : Nat) (b : List Int) (s : R3) (I : World → Prop) (item : R3 → S72 × R3) (h : Rd w0 w g b s) (hI0 : I w) (hI : ∀ w1 w2 : World, I w1 → (∀ k, k < w.heap.size → k ≠ g → w2.heap[k]? = w1.heap[k]?) → I w2)
    (hit : ∀ (s2 : R3) (w2 : World), Rd w0 w2 g b s2 → I w2 → w.heap.size ≤ w2.heap.size → Calls Try.prog 97 #[.pointer (some ⟨g, 0, none⟩)] w2 (IP k72 w0 g b (item s2).1 (item s2).2 w2)) :
    Calls Try.prog 96 #[.pointer (some ⟨g, 0, none⟩), .func (.func 97) #[.pointer (some ⟨g, 0, none⟩)] #[]] w (MP k72 72 w0 g b (listR b item s).1 (listR b item s).2 w) := by
  have H0 := Aside0.mk h
  have HI0 := Aside0.mk hI0
  have HI := Aside0.mk hI
  have HIT := Aside0.mk hit
  have hr := numR_range h.byt h.good
  have hg := numR_good h.good
  have HSM := Aside0.mk (headR_small h.byt h.good)
  have HGW := Aside0.mk h.lt.1
  clear h hI0 hI hit
  go_enter Try.func96, Try.ntmps96
  go_wp2_with fail
  go_at_call 121
  with_reducible refine (number_r H0.out).mono ?_
  intro e w1 hp
  obtain ⟨rfl, hR, hK⟩ := hp
  obtain ⟨n, hn0⟩ : ∃ n : Nat, (numR b s).1 = (n : Int) := ⟨(numR b s).1.toNat, by omega⟩
  obtain ⟨s1, hs0⟩ : ∃ s1, (numR b s).2 = s1 := ⟨_, rfl⟩
  rw [hs0] at hg hR
  rw [hn0] at hr ⊢
  have HH := Aside0.mk (show headR b s = (n, if (n : Int) > b.length - s1.at_ then shortR b s1 else s1) by unfold headR; rw [hn0, hs0, Int.toNat_natCast])
  clear hn0 hs0
  obtain ⟨a, er, bd⟩ := s1
  have ha0 : 0 ≤ a := hg.lo
  have ha1 : a ≤ b.length := hg.hi
  have hlen := hR.len
  have HR := Aside0.mk hR
  have HK := Aside0.mk hK
  have HI1 := Aside0.mk (HI.out w w1 HI0.out (fun k hk hkg => hK.2 k hk hkg (by simp)))
  obtain ⟨A, c, hb, hge, hC, hcap⟩ := hR.is
  have c0 := cellS151_0 hb
  have c1 := cellS151_1 hb
  clear hR hK hb hge hC hcap hg
  have e1 : IntKind.i64.wrap ((b.length : Int) - a) = (b.length : Int) - a := by rw [IntKind.wrap_i64]; omega
  have e2 : IntKind.u64.wrap ((b.length : Int) - a) = (b.length : Int) - a := by rw [IntKind.wrap_u64]; omega
  by_cases hn : (n : Int) > b.length - a
  case' pos =>
    have hb1 : decide ((b.length : Int) - a < (n : Int)) = true := decide_eq_true hn
    have HH2 := Aside0.mk (HH.out.trans (by rw [if_pos hn] : _ = (n, shortR b ⟨a, er, bd⟩)))
    go_wp2_with fail
    go_quiet (fail)
    clear e1 e2
    go_wp2_with fail
    go_at_call 90
    with_reducible refine (short_r (HR.out.drewN nq)).mono ?_
    intro e w2 hp
    obtain ⟨rfl, hR2, hK2⟩ := hp
    have HI2 := Aside0.mk (HI.out w1 w2 HI1.out (fun k hk hkg => hK2.2 k (Nat.lt_of_lt_of_le hk HK.out.1) hkg (by simp)))
    have HK2 := Aside0.mk ((keep_drewN HK.out nq).trans hK2 (.inl rfl))
    have HR2 := Aside0.mk hR2
    clear hR2 hK2 c0 c1 hb1
    generalize shortR b ⟨a, er, bd⟩ = s2 at HH2 HR2
    clear HR HK HI1 HH hn
    go_wp2_with fail
  case' neg =>
    have hb1 : decide ((b.length : Int) - a < (n : Int)) = false := decide_eq_false hn
    have HH2 := Aside0.mk (HH.out.trans (by rw [if_neg hn] : _ = (n, (⟨a, er, bd⟩ : R3))))
    go_wp2_with fail
    go_quiet (fail)
    clear e1 e2
    have HI2 := Aside0.mk (HI.out w1 (w1.drewN nq) HI1.out (fun _ _ _ => rfl))
    have HK2 := Aside0.mk (keep_drewN HK.out nq)
    have HR2 := Aside0.mk (HR.out.drewN nq)
    clear c0 c1 hb1
    generalize (⟨a, er, bd⟩ : R3) = s2 at HH2 HR2
    clear HR HK HI1 HH hn
    generalize w1.drewN nq = w2 at HI2 HK2 HR2 ⊢
    go_wp2_with fail
  all_goals (
    rw [HH2.out] at HSM
    have HS2 := Aside0.mk (show s2.err = 0 → n ≤ 131072 from fun h => by have := HSM.out h; omega)
    go_loopw [5, 6] (fun v5 v6 wr => ∃ (m : Nat) (s3 : R3) (l : List S72), v5 = .int .u64 (m : Nat) ∧ Aside0 (LisR k72 72 w0 w g b I item n s2 m s3 l v6 wr)) (fun v5 _ _ => (intOf v5).toNat)
    case atStart => exact ⟨n, s2, [], rfl, ⟨LisR.start HR2.out HK2.out HI2.out⟩⟩
    case round =>
      obtain ⟨m, s3, l, rfl, HL⟩ := hrel
      have hmn : m ≤ n := by have := HL.out.sum; omega
      obtain ⟨A3, cc3, hb3, hge3, hC3, hcap3⟩ := HL.out.rd.is
      have d2 := cellS151_2 hb3
      clear hb3 hge3 hC3 hcap3
      obtain ⟨a3, er3, bd3⟩ := s3
      by_cases hm : m = 0
      · have hb2 : decide ((0 : Int) < (m : Int)) = false := decide_eq_false (by omega)
        have HM := Aside0.mk hm
        have hm2 : ¬ 0 < m := by omega
        clear hm
        go_wp2_with fail
        go_ret
        rw [show listR b item s = listL item n s2 by unfold listR; rw [HH2.out]]
        exact HL.out.done (.inl HM.out)
      · by_cases he : er3 = 0
        · obtain ⟨m1, rfl⟩ : ∃ m1, m = m1 + 1 := ⟨m - 1, by omega⟩
          have hb2 : decide ((0 : Int) < ((m1 + 1 : Nat) : Int)) = true := decide_eq_true (by omega)
          have hm2 : 0 < m1 + 1 := by omega
          have hb3 : (er3 == 0) = true := by simp [he]
          have HE := Aside0.mk (show (⟨a3, er3, bd3⟩ : R3).err = 0 from he)
          clear he hm
          go_wp2_with fail
          go_at_call 97
          with_reducible refine (HIT.out ⟨a3, er3, bd3⟩ wr HL.out.rd HL.out.inv (keep_size HL.out.keep)).mono ?_
          intro e w3 hp
          obtain ⟨cs, rfl, hM, hR4, hK4⟩ := hp
          obtain ⟨x, hx⟩ : ∃ x, (item ⟨a3, er3, bd3⟩).1 = x := ⟨_, rfl⟩
          rw [hx] at hM
          have HX := Aside0.mk hx
          have HR4 := Aside0.mk hR4
          have HK4 := Aside0.mk hK4
          obtain ⟨v1, rfl, hq1⟩ := k72_openM hM
          have Q1 := Aside0.mk hq1
          clear hM hq1
          have P1 := Aside0.mk (Kd.R_lower (Kd.R_mono (Kd.R_bound Q1.out) (fun k_ (hk : _ ∧ wr.heap.size ≤ k_ ∧ _) => hk.2.1)) HL.out.keep.1)
          have HRW := Aside0.mk (Kd.R_keep HL.out.row HK4.out (fun _ hk => hk))
          have HOK := Aside0.mk (show ∀ k_, wr.heap.size ≤ k_ → k_ ≠ g ∧ some k_ ≠ u6.ownBlock from fun k_ hk => ⟨by have := HL.out.rd.lt; omega, fun e_ => by obtain ⟨inner_, ho_⟩ := Kd.R_own HL.out.row; have := (ho_.lt k_ e_.symm).2; omega⟩)
          have HFR := Aside0.mk (show ∀ k_, w3.heap.size ≤ k_ → k_ ≠ g from fun k_ hk => by have := HR4.out.lt; omega)
          have HBS := Aside0.mk (show w.heap.size ≤ w3.heap.size from Nat.le_trans HL.out.keep.1 HK4.out.1)
          have HLN := Aside0.mk (show (l.length + 1) * 40 ≤ 140737488355328 from by have := HL.out.sum; have := HL.out.few' HS2.out HE.out; omega)
          clear hR4 hK4 hx d2 hb2 hb3
          go_wp2_with (at_builtin; refine Kd.R_append k72 w.heap.size rfl _ _ 28 72 (.agg #[(.string ⟨#[]⟩), (.slice none 0 0)]) 40 rfl Try.underlying28 info72' rfl (by decide) (by decide) u6 l x [.string x.f0, v1] (fun k_ => k_ ≠ g) (fun k_ => wr.heap.size ≤ k_) rfl rfl (k72_mkM w3 w.heap.size (fun k_ => wr.heap.size ≤ k_) x P1.out) HOK.out HFR.out HRW.out (Below.refl _ _) HBS.out HLN.out ?_; intro v9 w4 ho9 _ hg9 _)
          rw [← HX.out] at ho9
          have HN := Aside0.mk (HL.out.next HS2.out HE.out HGW.out HI.out HR4.out HK4.out ho9 hg9)
          clear ho9 hg9
          try go_wp2_with fail
          go_roundw
          case rel => exact ⟨m1, _, _, by first | rfl | go_num | (congr 1; omega), HN⟩
          case measure => simp [intOf] <;> omega
        · have hb2 : decide ((0 : Int) < (m : Int)) = true := decide_eq_true (by omega)
          have hm2 : 0 < m := by omega
          have hb3 : (er3 == 0) = false := by simp [he]
          have HE := Aside0.mk (show ¬ (⟨a3, er3, bd3⟩ : R3).err = 0 from he)
          clear he hm
          go_wp2_with fail
          go_ret
          rw [show listR b item s = listL item n s2 by unfold listR; rw [HH2.out]]
          exact HL.out.done (.inr HE.out))
theorem info69' : (Try.prog.info? 69).map (fun i => (i.zero, i.size, i.bytes)) = some (some (.agg #[(.string ⟨#[]⟩), (.int .i64 0)]), 2, 24) := by kernel_rfl
set_option maxHeartbeats 4000000 in
theorem list98 (w0 w : World) (g : Nat) (b : List Int) (s : R3) (I : World → Prop) (item : R3 → S69 × R3) (h : Rd w0 w g b s) (hI0 : I w) (hI : ∀ w1 w2 : World, I w1 → (∀ k, k < w.heap.size → k ≠ g → w2.heap[k]? = w1.heap[k]?) → I w2)
    (hit : ∀ (s2 : R3) (w2 : World), Rd w0 w2 g b s2 → I w2 → w.heap.size ≤ w2.heap.size → Calls Try.prog 99 #[.pointer (some ⟨g, 0, none⟩)] w2 (IP k69 w0 g b (item s2).1 (item s2).2 w2)) :
    Calls Try.prog 98 #[.pointer (some ⟨g, 0, none⟩), .func (.func 99) #[.pointer (some ⟨g, 0, none⟩)] #[]] w (MP k69 69 w0 g b (listR b item s).1 (listR b item s).2 w) := by
  have H0 := Aside0.mk h
  have HI0 := Aside0.mk hI0
  have HI := Aside0.mk hI
  have HIT := Aside0.mk hit
  have hr := numR_range h.byt h.good
  have hg := numR_good h.good
  have HSM := Aside0.mk (headR_small h.byt h.good)
  have HGW := Aside0.mk h.lt.1
  clear h hI0 hI hit
  go_enter Try.func98, Try.ntmps98
  go_wp2_with fail
  go_at_call 121
  with_reducible refine (number_r H0.out).mono ?_
  intro e w1 hp
  obtain ⟨rfl, hR, hK⟩ := hp
  obtain ⟨n, hn0⟩ : ∃ n : Nat, (numR b s).1 = (n : Int) := ⟨(numR b s).1.toNat, by omega⟩
  obtain ⟨s1, hs0⟩ : ∃ s1, (numR b s).2 = s1 := ⟨_, rfl⟩
  rw [hs0] at hg hR
  rw [hn0] at hr ⊢
  have HH := Aside0.mk (show headR b s = (n, if (n : Int) > b.length - s1.at_ then shortR b s1 else s1) by unfold headR; rw [hn0, hs0, Int.toNat_natCast])
  clear hn0 hs0
  obtain ⟨a, er, bd⟩ := s1
  have ha0 : 0 ≤ a := hg.lo
  have ha1 : a ≤ b.length := hg.hi
  have hlen := hR.len
  have HR := Aside0.mk hR
  have HK := Aside0.mk hK
  have HI1 := Aside0.mk (HI.out w w1 HI0.out (fun k hk hkg => hK.2 k hk hkg (by simp)))
  obtain ⟨A, c, hb, hge, hC, hcap⟩ := hR.is
  have c0 := cellS151_0 hb
  have c1 := cellS151_1 hb
  clear hR hK hb hge hC hcap hg
  have e1 : IntKind.i64.wrap ((b.length : Int) - a) = (b.length : Int) - a := by rw [IntKind.wrap_i64]; omega
  have e2 : IntKind.u64.wrap ((b.length : Int) - a) = (b.length : Int) - a := by rw [IntKind.wrap_u64]; omega
  by_cases hn : (n : Int) > b.length - a
  case' pos =>
    have hb1 : decide ((b.length : Int) - a < (n : Int)) = true := decide_eq_true hn
    have HH2 := Aside0.mk (HH.out.trans (by rw [if_pos hn] : _ = (n, shortR b ⟨a, er, bd⟩)))
    go_wp2_with fail
    go_quiet (fail)
    clear e1 e2
    go_wp2_with fail
    go_at_call 90
    with_reducible refine (short_r (HR.out.drewN nq)).mono ?_
    intro e w2 hp
    obtain ⟨rfl, hR2, hK2⟩ := hp
    have HI2 := Aside0.mk (HI.out w1 w2 HI1.out (fun k hk hkg => hK2.2 k (Nat.lt_of_lt_of_le hk HK.out.1) hkg (by simp)))
    have HK2 := Aside0.mk ((keep_drewN HK.out nq).trans hK2 (.inl rfl))
    have HR2 := Aside0.mk hR2
    clear hR2 hK2 c0 c1 hb1
    generalize shortR b ⟨a, er, bd⟩ = s2 at HH2 HR2
    clear HR HK HI1 HH hn
    go_wp2_with fail
  case' neg =>
    have hb1 : decide ((b.length : Int) - a < (n : Int)) = false := decide_eq_false hn
    have HH2 := Aside0.mk (HH.out.trans (by rw [if_neg hn] : _ = (n, (⟨a, er, bd⟩ : R3))))
    go_wp2_with fail
    go_quiet (fail)
    clear e1 e2
    have HI2 := Aside0.mk (HI.out w1 (w1.drewN nq) HI1.out (fun _ _ _ => rfl))
    have HK2 := Aside0.mk (keep_drewN HK.out nq)
    have HR2 := Aside0.mk (HR.out.drewN nq)
    clear c0 c1 hb1
    generalize (⟨a, er, bd⟩ : R3) = s2 at HH2 HR2
    clear HR HK HI1 HH hn
    generalize w1.drewN nq = w2 at HI2 HK2 HR2 ⊢
    go_wp2_with fail
  all_goals (
    rw [HH2.out] at HSM
    have HS2 := Aside0.mk (show s2.err = 0 → n ≤ 131072 from fun h => by have := HSM.out h; omega)
    go_loopw [5, 6] (fun v5 v6 wr => ∃ (m : Nat) (s3 : R3) (l : List S69), v5 = .int .u64 (m : Nat) ∧ Aside0 (LisR k69 69 w0 w g b I item n s2 m s3 l v6 wr)) (fun v5 _ _ => (intOf v5).toNat)
    case atStart => exact ⟨n, s2, [], rfl, ⟨LisR.start HR2.out HK2.out HI2.out⟩⟩
    case round =>
      obtain ⟨m, s3, l, rfl, HL⟩ := hrel
      have hmn : m ≤ n := by have := HL.out.sum; omega
      obtain ⟨A3, cc3, hb3, hge3, hC3, hcap3⟩ := HL.out.rd.is
      have d2 := cellS151_2 hb3
      clear hb3 hge3 hC3 hcap3
      obtain ⟨a3, er3, bd3⟩ := s3
      by_cases hm : m = 0
      · have hb2 : decide ((0 : Int) < (m : Int)) = false := decide_eq_false (by omega)
        have HM := Aside0.mk hm
        have hm2 : ¬ 0 < m := by omega
        clear hm
        go_wp2_with fail
        go_ret
        rw [show listR b item s = listL item n s2 by unfold listR; rw [HH2.out]]
        exact HL.out.done (.inl HM.out)
      · by_cases he : er3 = 0
        · obtain ⟨m1, rfl⟩ : ∃ m1, m = m1 + 1 := ⟨m - 1, by omega⟩
          have hb2 : decide ((0 : Int) < ((m1 + 1 : Nat) : Int)) = true := decide_eq_true (by omega)
          have hm2 : 0 < m1 + 1 := by omega
          have hb3 : (er3 == 0) = true := by simp [he]
          have HE := Aside0.mk (show (⟨a3, er3, bd3⟩ : R3).err = 0 from he)
          clear he hm
          go_wp2_with fail
          go_at_call 99
          with_reducible refine (HIT.out ⟨a3, er3, bd3⟩ wr HL.out.rd HL.out.inv (keep_size HL.out.keep)).mono ?_
          intro e w3 hp
          obtain ⟨cs, rfl, hM, hR4, hK4⟩ := hp
          obtain ⟨x, hx⟩ : ∃ x, (item ⟨a3, er3, bd3⟩).1 = x := ⟨_, rfl⟩
          rw [hx] at hM
          have HX := Aside0.mk hx
          have HR4 := Aside0.mk hR4
          have HK4 := Aside0.mk hK4
          obtain rfl := k69_openM hM
          clear hM
          have HRW := Aside0.mk (Kd.R_keep HL.out.row HK4.out (fun _ hk => hk))
          have HOK := Aside0.mk (show ∀ k_, wr.heap.size ≤ k_ → k_ ≠ g ∧ some k_ ≠ u6.ownBlock from fun k_ hk => ⟨by have := HL.out.rd.lt; omega, fun e_ => by obtain ⟨inner_, ho_⟩ := Kd.R_own HL.out.row; have := (ho_.lt k_ e_.symm).2; omega⟩)
          have HFR := Aside0.mk (show ∀ k_, w3.heap.size ≤ k_ → k_ ≠ g from fun k_ hk => by have := HR4.out.lt; omega)
          have HBS := Aside0.mk (show w.heap.size ≤ w3.heap.size from Nat.le_trans HL.out.keep.1 HK4.out.1)
          have HLN := Aside0.mk (show (l.length + 1) * 24 ≤ 140737488355328 from by have := HL.out.sum; have := HL.out.few' HS2.out HE.out; omega)
          clear hR4 hK4 hx d2 hb2 hb3
          go_wp2_with (at_builtin; refine Kd.R_append k69 w.heap.size rfl _ _ 29 69 (.agg #[(.string ⟨#[]⟩), (.int .i64 0)]) 24 rfl Try.underlying29 info69' rfl (by decide) (by decide) u6 l x [.string x.f0, .int .i64 x.f1] (fun k_ => k_ ≠ g) (fun k_ => wr.heap.size ≤ k_) rfl rfl (k69_mkM w3 w.heap.size (fun k_ => wr.heap.size ≤ k_) x) HOK.out HFR.out HRW.out (Below.refl _ _) HBS.out HLN.out ?_; intro v9 w4 ho9 _ hg9 _)
          rw [← HX.out] at ho9
          have HN := Aside0.mk (HL.out.next HS2.out HE.out HGW.out HI.out HR4.out HK4.out ho9 hg9)
          clear ho9 hg9
          try go_wp2_with fail
          go_roundw
          case rel => exact ⟨m1, _, _, by first | rfl | go_num | (congr 1; omega), HN⟩
          case measure => simp [intOf] <;> omega
        · have hb2 : decide ((0 : Int) < (m : Int)) = true := decide_eq_true (by omega)
          have hm2 : 0 < m := by omega
          have hb3 : (er3 == 0) = false := by simp [he]
          have HE := Aside0.mk (show ¬ (⟨a3, er3, bd3⟩ : R3).err = 0 from he)
          clear he hm
          go_wp2_with fail
          go_ret
          rw [show listR b item s = listL item n s2 by unfold listR; rw [HH2.out]]
          exact HL.out.done (.inr HE.out))
theorem info100' : (Try.prog.info? 100).map (fun i => (i.zero, i.size, i.bytes)) = some (some (.agg #[(.int .i64 0), (.bool false), (.int .i64 0), (.int .i64 0), (.int .i64 0), (.int .i64 0), (.slice none 0 0), (.int .i64 0), (.int .i64 0), (.int .i64 0), (.int .i64 0), (.slice none 0 0)]), 12, 128) := by kernel_rfl
set_option maxHeartbeats 4000000 in
theorem list126 (w0 w : World) (g : Nat) (b : List Int) (s : R3) (I : World → Prop) (item : R3 → S100 × R3) (h : Rd w0 w g b s) (hI0 : I w) (hI : ∀ w1 w2 : World, I w1 → (∀ k, k < w.heap.size → k ≠ g → w2.heap[k]? = w1.heap[k]?) → I w2)
    (hit : ∀ (s2 : R3) (w2 : World), Rd w0 w2 g b s2 → I w2 → w.heap.size ≤ w2.heap.size → Calls Try.prog 127 #[.pointer (some ⟨g, 0, none⟩)] w2 (IP k100 w0 g b (item s2).1 (item s2).2 w2)) :
    Calls Try.prog 126 #[.pointer (some ⟨g, 0, none⟩), .func (.func 127) #[.pointer (some ⟨g, 0, none⟩)] #[]] w (MP k100 100 w0 g b (listR b item s).1 (listR b item s).2 w) := by
  have H0 := Aside0.mk h
  have HI0 := Aside0.mk hI0
  have HI := Aside0.mk hI
  have HIT := Aside0.mk hit
  have hr := numR_range h.byt h.good
  have hg := numR_good h.good
  have HSM := Aside0.mk (headR_small h.byt h.good)
  have HGW := Aside0.mk h.lt.1
  clear h hI0 hI hit
  go_enter Try.func126, Try.ntmps126
  go_wp2_with fail
  go_at_call 121
  with_reducible refine (number_r H0.out).mono ?_
  intro e w1 hp
  obtain ⟨rfl, hR, hK⟩ := hp
  obtain ⟨n, hn0⟩ : ∃ n : Nat, (numR b s).1 = (n : Int) := ⟨(numR b s).1.toNat, by omega⟩
  obtain ⟨s1, hs0⟩ : ∃ s1, (numR b s).2 = s1 := ⟨_, rfl⟩
  rw [hs0] at hg hR
  rw [hn0] at hr ⊢
  have HH := Aside0.mk (show headR b s = (n, if (n : Int) > b.length - s1.at_ then shortR b s1 else s1) by unfold headR; rw [hn0, hs0, Int.toNat_natCast])
  clear hn0 hs0
  obtain ⟨a, er, bd⟩ := s1
  have ha0 : 0 ≤ a := hg.lo
  have ha1 : a ≤ b.length := hg.hi
  have hlen := hR.len
  have HR := Aside0.mk hR
  have HK := Aside0.mk hK
  have HI1 := Aside0.mk (HI.out w w1 HI0.out (fun k hk hkg => hK.2 k hk hkg (by simp)))
  obtain ⟨A, c, hb, hge, hC, hcap⟩ := hR.is
  have c0 := cellS151_0 hb
  have c1 := cellS151_1 hb
  clear hR hK hb hge hC hcap hg
  have e1 : IntKind.i64.wrap ((b.length : Int) - a) = (b.length : Int) - a := by rw [IntKind.wrap_i64]; omega
  have e2 : IntKind.u64.wrap ((b.length : Int) - a) = (b.length : Int) - a := by rw [IntKind.wrap_u64]; omega
  by_cases hn : (n : Int) > b.length - a
  case' pos =>
    have hb1 : decide ((b.length : Int) - a < (n : Int)) = true := decide_eq_true hn
    have HH2 := Aside0.mk (HH.out.trans (by rw [if_pos hn] : _ = (n, shortR b ⟨a, er, bd⟩)))
    go_wp2_with fail
    go_quiet (fail)
    clear e1 e2
    go_wp2_with fail
    go_at_call 90
    with_reducible refine (short_r (HR.out.drewN nq)).mono ?_
    intro e w2 hp
    obtain ⟨rfl, hR2, hK2⟩ := hp
    have HI2 := Aside0.mk (HI.out w1 w2 HI1.out (fun k hk hkg => hK2.2 k (Nat.lt_of_lt_of_le hk HK.out.1) hkg (by simp)))
    have HK2 := Aside0.mk ((keep_drewN HK.out nq).trans hK2 (.inl rfl))
    have HR2 := Aside0.mk hR2
    clear hR2 hK2 c0 c1 hb1
    generalize shortR b ⟨a, er, bd⟩ = s2 at HH2 HR2
    clear HR HK HI1 HH hn
    go_wp2_with fail
  case' neg =>
    have hb1 : decide ((b.length : Int) - a < (n : Int)) = false := decide_eq_false hn
    have HH2 := Aside0.mk (HH.out.trans (by rw [if_neg hn] : _ = (n, (⟨a, er, bd⟩ : R3))))
    go_wp2_with fail
    go_quiet (fail)
    clear e1 e2
    have HI2 := Aside0.mk (HI.out w1 (w1.drewN nq) HI1.out (fun _ _ _ => rfl))
    have HK2 := Aside0.mk (keep_drewN HK.out nq)
    have HR2 := Aside0.mk (HR.out.drewN nq)
    clear c0 c1 hb1
    generalize (⟨a, er, bd⟩ : R3) = s2 at HH2 HR2
    clear HR HK HI1 HH hn
    generalize w1.drewN nq = w2 at HI2 HK2 HR2 ⊢
    go_wp2_with fail
  all_goals (
    rw [HH2.out] at HSM
    have HS2 := Aside0.mk (show s2.err = 0 → n ≤ 131072 from fun h => by have := HSM.out h; omega)
    go_loopw [5, 6] (fun v5 v6 wr => ∃ (m : Nat) (s3 : R3) (l : List S100), v5 = .int .u64 (m : Nat) ∧ Aside0 (LisR k100 100 w0 w g b I item n s2 m s3 l v6 wr)) (fun v5 _ _ => (intOf v5).toNat)
    case atStart => exact ⟨n, s2, [], rfl, ⟨LisR.start HR2.out HK2.out HI2.out⟩⟩
    case round =>
      obtain ⟨m, s3, l, rfl, HL⟩ := hrel
      have hmn : m ≤ n := by have := HL.out.sum; omega
      obtain ⟨A3, cc3, hb3, hge3, hC3, hcap3⟩ := HL.out.rd.is
      have d2 := cellS151_2 hb3
      clear hb3 hge3 hC3 hcap3
      obtain ⟨a3, er3, bd3⟩ := s3
      by_cases hm : m = 0
      · have hb2 : decide ((0 : Int) < (m : Int)) = false := decide_eq_false (by omega)
        have HM := Aside0.mk hm
        have hm2 : ¬ 0 < m := by omega
        clear hm
        go_wp2_with fail
        go_ret
        rw [show listR b item s = listL item n s2 by unfold listR; rw [HH2.out]]
        exact HL.out.done (.inl HM.out)
      · by_cases he : er3 = 0
        · obtain ⟨m1, rfl⟩ : ∃ m1, m = m1 + 1 := ⟨m - 1, by omega⟩
          have hb2 : decide ((0 : Int) < ((m1 + 1 : Nat) : Int)) = true := decide_eq_true (by omega)
          have hm2 : 0 < m1 + 1 := by omega
          have hb3 : (er3 == 0) = true := by simp [he]
          have HE := Aside0.mk (show (⟨a3, er3, bd3⟩ : R3).err = 0 from he)
          clear he hm
          go_wp2_with fail
          go_at_call 127
          with_reducible refine (HIT.out ⟨a3, er3, bd3⟩ wr HL.out.rd HL.out.inv (keep_size HL.out.keep)).mono ?_
          intro e w3 hp
          obtain ⟨cs, rfl, hM, hR4, hK4⟩ := hp
          obtain ⟨x, hx⟩ : ∃ x, (item ⟨a3, er3, bd3⟩).1 = x := ⟨_, rfl⟩
          rw [hx] at hM
          have HX := Aside0.mk hx
          have HR4 := Aside0.mk hR4
          have HK4 := Aside0.mk hK4
          obtain ⟨v6, v11, rfl, hq6, hq11⟩ := k100_openM hM
          have Q6 := Aside0.mk hq6
          have Q11 := Aside0.mk hq11
          clear hM hq6 hq11
          have P6 := Aside0.mk (Kd.R_lower (Kd.R_mono (Kd.R_bound Q6.out) (fun k_ (hk : _ ∧ wr.heap.size ≤ k_ ∧ _) => hk.2.1)) HL.out.keep.1)
          have P11 := Aside0.mk (Kd.R_lower (Kd.R_mono (Kd.R_bound Q11.out) (fun k_ (hk : _ ∧ wr.heap.size ≤ k_ ∧ _) => hk.2.1)) HL.out.keep.1)
          have HRW := Aside0.mk (Kd.R_keep HL.out.row HK4.out (fun _ hk => hk))
          have HOK := Aside0.mk (show ∀ k_, wr.heap.size ≤ k_ → k_ ≠ g ∧ some k_ ≠ u6.ownBlock from fun k_ hk => ⟨by have := HL.out.rd.lt; omega, fun e_ => by obtain ⟨inner_, ho_⟩ := Kd.R_own HL.out.row; have := (ho_.lt k_ e_.symm).2; omega⟩)
          have HFR := Aside0.mk (show ∀ k_, w3.heap.size ≤ k_ → k_ ≠ g from fun k_ hk => by have := HR4.out.lt; omega)
          have HBS := Aside0.mk (show w.heap.size ≤ w3.heap.size from Nat.le_trans HL.out.keep.1 HK4.out.1)
          have HLN := Aside0.mk (show (l.length + 1) * 128 ≤ 140737488355328 from by have := HL.out.sum; have := HL.out.few' HS2.out HE.out; omega)
          clear hR4 hK4 hx d2 hb2 hb3
          go_wp2_with (at_builtin; refine Kd.R_append k100 w.heap.size rfl _ _ 75 100 (.agg #[(.int .i64 0), (.bool false), (.int .i64 0), (.int .i64 0), (.int .i64 0), (.int .i64 0), (.slice none 0 0), (.int .i64 0), (.int .i64 0), (.int .i64 0), (.int .i64 0), (.slice none 0 0)]) 128 rfl Try.underlying75 info100' rfl (by decide) (by decide) u6 l x [.int .i64 x.f0, .bool x.f1, .int .i64 x.f2.f0, .int .i64 x.f2.f1, .int .i64 x.f2.f2, .int .i64 x.f2.f3, v6, .int .i64 x.f3.f0, .int .i64 x.f3.f1, .int .i64 x.f3.f2, .int .i64 x.f3.f3, v11] (fun k_ => k_ ≠ g) (fun k_ => wr.heap.size ≤ k_) rfl rfl (k100_mkM w3 w.heap.size (fun k_ => wr.heap.size ≤ k_) x P6.out P11.out) HOK.out HFR.out HRW.out (Below.refl _ _) HBS.out HLN.out ?_; intro v9 w4 ho9 _ hg9 _)
          rw [← HX.out] at ho9
          have HN := Aside0.mk (HL.out.next HS2.out HE.out HGW.out HI.out HR4.out HK4.out ho9 hg9)
          clear ho9 hg9
          try go_wp2_with fail
          go_roundw
          case rel => exact ⟨m1, _, _, by first | rfl | go_num | (congr 1; omega), HN⟩
          case measure => simp [intOf] <;> omega
        · have hb2 : decide ((0 : Int) < (m : Int)) = true := decide_eq_true (by omega)
          have hm2 : 0 < m := by omega
          have hb3 : (er3 == 0) = false := by simp [he]
          have HE := Aside0.mk (show ¬ (⟨a3, er3, bd3⟩ : R3).err = 0 from he)
          clear he hm
          go_wp2_with fail
          go_ret
          rw [show listR b item s = listL item n s2 by unfold listR; rw [HH2.out]]
          exact HL.out.done (.inr HE.out))
theorem info77' : (Try.prog.info? 77).map (fun i => (i.zero, i.size, i.bytes)) = some (some (.agg #[(.string ⟨#[]⟩), (.bool false), (.bool false), (.int .i64 0), (.int .i64 0), (.int .i64 0), (.slice none 0 0)]), 7, 72) := by kernel_rfl
set_option maxHeartbeats 4000000 in
theorem list100 (w0 w : World) (g : Nat) (b : List Int) (s : R3) (I : World → Prop) (item : R3 → S77 × R3) (h : Rd w0 w g b s) (hI0 : I w) (hI : ∀ w1 w2 : World, I w1 → (∀ k, k < w.heap.size → k ≠ g → w2.heap[k]? = w1.heap[k]?) → I w2)
    (hit : ∀ (s2 : R3) (w2 : World), Rd w0 w2 g b s2 → I w2 → w.heap.size ≤ w2.heap.size → Calls Try.prog 101 #[.pointer (some ⟨g, 0, none⟩)] w2 (IP k77 w0 g b (item s2).1 (item s2).2 w2)) :
    Calls Try.prog 100 #[.pointer (some ⟨g, 0, none⟩), .func (.func 101) #[.pointer (some ⟨g, 0, none⟩)] #[]] w (MP k77 77 w0 g b (listR b item s).1 (listR b item s).2 w) := by
  have H0 := Aside0.mk h
  have HI0 := Aside0.mk hI0
  have HI := Aside0.mk hI
  have HIT := Aside0.mk hit
  have hr := numR_range h.byt h.good
  have hg := numR_good h.good
  have HSM := Aside0.mk (headR_small h.byt h.good)
  have HGW := Aside0.mk h.lt.1
  clear h hI0 hI hit
  go_enter Try.func100, Try.ntmps100
  go_wp2_with fail
  go_at_call 121
  with_reducible refine (number_r H0.out).mono ?_
  intro e w1 hp
  obtain ⟨rfl, hR, hK⟩ := hp
  obtain ⟨n, hn0⟩ : ∃ n : Nat, (numR b s).1 = (n : Int) := ⟨(numR b s).1.toNat, by omega⟩
  obtain ⟨s1, hs0⟩ : ∃ s1, (numR b s).2 = s1 := ⟨_, rfl⟩
  rw [hs0] at hg hR
  rw [hn0] at hr ⊢
  have HH := Aside0.mk (show headR b s = (n, if (n : Int) > b.length - s1.at_ then shortR b s1 else s1) by unfold headR; rw [hn0, hs0, Int.toNat_natCast])
  clear hn0 hs0
  obtain ⟨a, er, bd⟩ := s1
  have ha0 : 0 ≤ a := hg.lo
  have ha1 : a ≤ b.length := hg.hi
  have hlen := hR.len
  have HR := Aside0.mk hR
  have HK := Aside0.mk hK
  have HI1 := Aside0.mk (HI.out w w1 HI0.out (fun k hk hkg => hK.2 k hk hkg (by simp)))
  obtain ⟨A, c, hb, hge, hC, hcap⟩ := hR.is
  have c0 := cellS151_0 hb
  have c1 := cellS151_1 hb
  clear hR hK hb hge hC hcap hg
  have e1 : IntKind.i64.wrap ((b.length : Int) - a) = (b.length : Int) - a := by rw [IntKind.wrap_i64]; omega
  have e2 : IntKind.u64.wrap ((b.length : Int) - a) = (b.length : Int) - a := by rw [IntKind.wrap_u64]; omega
  by_cases hn : (n : Int) > b.length - a
  case' pos =>
    have hb1 : decide ((b.length : Int) - a < (n : Int)) = true := decide_eq_true hn
    have HH2 := Aside0.mk (HH.out.trans (by rw [if_pos hn] : _ = (n, shortR b ⟨a, er, bd⟩)))
    go_wp2_with fail
    go_quiet (fail)
    clear e1 e2
    go_wp2_with fail
    go_at_call 90
    with_reducible refine (short_r (HR.out.drewN nq)).mono ?_
    intro e w2 hp
    obtain ⟨rfl, hR2, hK2⟩ := hp
    have HI2 := Aside0.mk (HI.out w1 w2 HI1.out (fun k hk hkg => hK2.2 k (Nat.lt_of_lt_of_le hk HK.out.1) hkg (by simp)))
    have HK2 := Aside0.mk ((keep_drewN HK.out nq).trans hK2 (.inl rfl))
    have HR2 := Aside0.mk hR2
    clear hR2 hK2 c0 c1 hb1
    generalize shortR b ⟨a, er, bd⟩ = s2 at HH2 HR2
    clear HR HK HI1 HH hn
    go_wp2_with fail
  case' neg =>
    have hb1 : decide ((b.length : Int) - a < (n : Int)) = false := decide_eq_false hn
    have HH2 := Aside0.mk (HH.out.trans (by rw [if_neg hn] : _ = (n, (⟨a, er, bd⟩ : R3))))
    go_wp2_with fail
    go_quiet (fail)
    clear e1 e2
    have HI2 := Aside0.mk (HI.out w1 (w1.drewN nq) HI1.out (fun _ _ _ => rfl))
    have HK2 := Aside0.mk (keep_drewN HK.out nq)
    have HR2 := Aside0.mk (HR.out.drewN nq)
    clear c0 c1 hb1
    generalize (⟨a, er, bd⟩ : R3) = s2 at HH2 HR2
    clear HR HK HI1 HH hn
    generalize w1.drewN nq = w2 at HI2 HK2 HR2 ⊢
    go_wp2_with fail
  all_goals (
    rw [HH2.out] at HSM
    have HS2 := Aside0.mk (show s2.err = 0 → n ≤ 131072 from fun h => by have := HSM.out h; omega)
    go_loopw [5, 6] (fun v5 v6 wr => ∃ (m : Nat) (s3 : R3) (l : List S77), v5 = .int .u64 (m : Nat) ∧ Aside0 (LisR k77 77 w0 w g b I item n s2 m s3 l v6 wr)) (fun v5 _ _ => (intOf v5).toNat)
    case atStart => exact ⟨n, s2, [], rfl, ⟨LisR.start HR2.out HK2.out HI2.out⟩⟩
    case round =>
      obtain ⟨m, s3, l, rfl, HL⟩ := hrel
      have hmn : m ≤ n := by have := HL.out.sum; omega
      obtain ⟨A3, cc3, hb3, hge3, hC3, hcap3⟩ := HL.out.rd.is
      have d2 := cellS151_2 hb3
      clear hb3 hge3 hC3 hcap3
      obtain ⟨a3, er3, bd3⟩ := s3
      by_cases hm : m = 0
      · have hb2 : decide ((0 : Int) < (m : Int)) = false := decide_eq_false (by omega)
        have HM := Aside0.mk hm
        have hm2 : ¬ 0 < m := by omega
        clear hm
        go_wp2_with fail
        go_ret
        rw [show listR b item s = listL item n s2 by unfold listR; rw [HH2.out]]
        exact HL.out.done (.inl HM.out)
      · by_cases he : er3 = 0
        · obtain ⟨m1, rfl⟩ : ∃ m1, m = m1 + 1 := ⟨m - 1, by omega⟩
          have hb2 : decide ((0 : Int) < ((m1 + 1 : Nat) : Int)) = true := decide_eq_true (by omega)
          have hm2 : 0 < m1 + 1 := by omega
          have hb3 : (er3 == 0) = true := by simp [he]
          have HE := Aside0.mk (show (⟨a3, er3, bd3⟩ : R3).err = 0 from he)
          clear he hm
          go_wp2_with fail
          go_at_call 101
          with_reducible refine (HIT.out ⟨a3, er3, bd3⟩ wr HL.out.rd HL.out.inv (keep_size HL.out.keep)).mono ?_
          intro e w3 hp
          obtain ⟨cs, rfl, hM, hR4, hK4⟩ := hp
          obtain ⟨x, hx⟩ : ∃ x, (item ⟨a3, er3, bd3⟩).1 = x := ⟨_, rfl⟩
          rw [hx] at hM
          have HX := Aside0.mk hx
          have HR4 := Aside0.mk hR4
          have HK4 := Aside0.mk hK4
          obtain ⟨v6, rfl, hq6⟩ := k77_openM hM
          have Q6 := Aside0.mk hq6
          clear hM hq6
          have P6 := Aside0.mk (Kd.R_lower (Kd.R_mono (Kd.R_bound Q6.out) (fun k_ (hk : _ ∧ wr.heap.size ≤ k_ ∧ _) => hk.2.1)) HL.out.keep.1)
          have HRW := Aside0.mk (Kd.R_keep HL.out.row HK4.out (fun _ hk => hk))
          have HOK := Aside0.mk (show ∀ k_, wr.heap.size ≤ k_ → k_ ≠ g ∧ some k_ ≠ u6.ownBlock from fun k_ hk => ⟨by have := HL.out.rd.lt; omega, fun e_ => by obtain ⟨inner_, ho_⟩ := Kd.R_own HL.out.row; have := (ho_.lt k_ e_.symm).2; omega⟩)
          have HFR := Aside0.mk (show ∀ k_, w3.heap.size ≤ k_ → k_ ≠ g from fun k_ hk => by have := HR4.out.lt; omega)
          have HBS := Aside0.mk (show w.heap.size ≤ w3.heap.size from Nat.le_trans HL.out.keep.1 HK4.out.1)
          have HLN := Aside0.mk (show (l.length + 1) * 72 ≤ 140737488355328 from by have := HL.out.sum; have := HL.out.few' HS2.out HE.out; omega)
          clear hR4 hK4 hx d2 hb2 hb3
          go_wp2_with (at_builtin; refine Kd.R_append k77 w.heap.size rfl _ _ 30 77 (.agg #[(.string ⟨#[]⟩), (.bool false), (.bool false), (.int .i64 0), (.int .i64 0), (.int .i64 0), (.slice none 0 0)]) 72 rfl Try.underlying30 info77' rfl (by decide) (by decide) u6 l x [.string x.f0, .bool x.f1, .bool x.f2, .int .i64 x.f3, .int .i64 x.f4, .int .i64 x.f5, v6] (fun k_ => k_ ≠ g) (fun k_ => wr.heap.size ≤ k_) rfl rfl (k77_mkM w3 w.heap.size (fun k_ => wr.heap.size ≤ k_) x P6.out) HOK.out HFR.out HRW.out (Below.refl _ _) HBS.out HLN.out ?_; intro v9 w4 ho9 _ hg9 _)
          rw [← HX.out] at ho9
          have HN := Aside0.mk (HL.out.next HS2.out HE.out HGW.out HI.out HR4.out HK4.out ho9 hg9)
          clear ho9 hg9
          try go_wp2_with fail
          go_roundw
          case rel => exact ⟨m1, _, _, by first | rfl | go_num | (congr 1; omega), HN⟩
          case measure => simp [intOf] <;> omega
        · have hb2 : decide ((0 : Int) < (m : Int)) = true := decide_eq_true (by omega)
          have hm2 : 0 < m := by omega
          have hb3 : (er3 == 0) = false := by simp [he]
          have HE := Aside0.mk (show ¬ (⟨a3, er3, bd3⟩ : R3).err = 0 from he)
          clear he hm
          go_wp2_with fail
          go_ret
          rw [show listR b item s = listL item n s2 by unfold listR; rw [HH2.out]]
          exact HL.out.done (.inr HE.out))
theorem info82' : (Try.prog.info? 82).map (fun i => (i.zero, i.size, i.bytes)) = some (some (.agg #[(.string ⟨#[]⟩), (.bool false), (.int .i64 0), (.int .i64 0), (.int .i64 0), (.int .i64 0), (.int .i64 0), (.slice none 0 0), (.string ⟨#[]⟩)]), 9, 104) := by kernel_rfl
set_option maxHeartbeats 4000000 in
theorem list102 (w0 w : World) (g : Nat) (b : List Int) (s : R3) (I : World → Prop) (item : R3 → S82 × R3) (h : Rd w0 w g b s) (hI0 : I w) (hI : ∀ w1 w2 : World, I w1 → (∀ k, k < w.heap.size → k ≠ g → w2.heap[k]? = w1.heap[k]?) → I w2)
    (hit : ∀ (s2 : R3) (w2 : World), Rd w0 w2 g b s2 → I w2 → w.heap.size ≤ w2.heap.size → Calls Try.prog 103 #[.pointer (some ⟨g, 0, none⟩)] w2 (IP k82 w0 g b (item s2).1 (item s2).2 w2)) :
    Calls Try.prog 102 #[.pointer (some ⟨g, 0, none⟩), .func (.func 103) #[.pointer (some ⟨g, 0, none⟩)] #[]] w (MP k82 82 w0 g b (listR b item s).1 (listR b item s).2 w) := by
  have H0 := Aside0.mk h
  have HI0 := Aside0.mk hI0
  have HI := Aside0.mk hI
  have HIT := Aside0.mk hit
  have hr := numR_range h.byt h.good
  have hg := numR_good h.good
  have HSM := Aside0.mk (headR_small h.byt h.good)
  have HGW := Aside0.mk h.lt.1
  clear h hI0 hI hit
  go_enter Try.func102, Try.ntmps102
  go_wp2_with fail
  go_at_call 121
  with_reducible refine (number_r H0.out).mono ?_
  intro e w1 hp
  obtain ⟨rfl, hR, hK⟩ := hp
  obtain ⟨n, hn0⟩ : ∃ n : Nat, (numR b s).1 = (n : Int) := ⟨(numR b s).1.toNat, by omega⟩
  obtain ⟨s1, hs0⟩ : ∃ s1, (numR b s).2 = s1 := ⟨_, rfl⟩
  rw [hs0] at hg hR
  rw [hn0] at hr ⊢
  have HH := Aside0.mk (show headR b s = (n, if (n : Int) > b.length - s1.at_ then shortR b s1 else s1) by unfold headR; rw [hn0, hs0, Int.toNat_natCast])
  clear hn0 hs0
  obtain ⟨a, er, bd⟩ := s1
  have ha0 : 0 ≤ a := hg.lo
  have ha1 : a ≤ b.length := hg.hi
  have hlen := hR.len
  have HR := Aside0.mk hR
  have HK := Aside0.mk hK
  have HI1 := Aside0.mk (HI.out w w1 HI0.out (fun k hk hkg => hK.2 k hk hkg (by simp)))
  obtain ⟨A, c, hb, hge, hC, hcap⟩ := hR.is
  have c0 := cellS151_0 hb
  have c1 := cellS151_1 hb
  clear hR hK hb hge hC hcap hg
  have e1 : IntKind.i64.wrap ((b.length : Int) - a) = (b.length : Int) - a := by rw [IntKind.wrap_i64]; omega
  have e2 : IntKind.u64.wrap ((b.length : Int) - a) = (b.length : Int) - a := by rw [IntKind.wrap_u64]; omega
  by_cases hn : (n : Int) > b.length - a
  case' pos =>
    have hb1 : decide ((b.length : Int) - a < (n : Int)) = true := decide_eq_true hn
    have HH2 := Aside0.mk (HH.out.trans (by rw [if_pos hn] : _ = (n, shortR b ⟨a, er, bd⟩)))
    go_wp2_with fail
    go_quiet (fail)
    clear e1 e2
    go_wp2_with fail
    go_at_call 90
    with_reducible refine (short_r (HR.out.drewN nq)).mono ?_
    intro e w2 hp
    obtain ⟨rfl, hR2, hK2⟩ := hp
    have HI2 := Aside0.mk (HI.out w1 w2 HI1.out (fun k hk hkg => hK2.2 k (Nat.lt_of_lt_of_le hk HK.out.1) hkg (by simp)))
    have HK2 := Aside0.mk ((keep_drewN HK.out nq).trans hK2 (.inl rfl))
    have HR2 := Aside0.mk hR2
    clear hR2 hK2 c0 c1 hb1
    generalize shortR b ⟨a, er, bd⟩ = s2 at HH2 HR2
    clear HR HK HI1 HH hn
    go_wp2_with fail
  case' neg =>
    have hb1 : decide ((b.length : Int) - a < (n : Int)) = false := decide_eq_false hn
    have HH2 := Aside0.mk (HH.out.trans (by rw [if_neg hn] : _ = (n, (⟨a, er, bd⟩ : R3))))
    go_wp2_with fail
    go_quiet (fail)
    clear e1 e2
    have HI2 := Aside0.mk (HI.out w1 (w1.drewN nq) HI1.out (fun _ _ _ => rfl))
    have HK2 := Aside0.mk (keep_drewN HK.out nq)
    have HR2 := Aside0.mk (HR.out.drewN nq)
    clear c0 c1 hb1
    generalize (⟨a, er, bd⟩ : R3) = s2 at HH2 HR2
    clear HR HK HI1 HH hn
    generalize w1.drewN nq = w2 at HI2 HK2 HR2 ⊢
    go_wp2_with fail
  all_goals (
    rw [HH2.out] at HSM
    have HS2 := Aside0.mk (show s2.err = 0 → n ≤ 131072 from fun h => by have := HSM.out h; omega)
    go_loopw [5, 6] (fun v5 v6 wr => ∃ (m : Nat) (s3 : R3) (l : List S82), v5 = .int .u64 (m : Nat) ∧ Aside0 (LisR k82 82 w0 w g b I item n s2 m s3 l v6 wr)) (fun v5 _ _ => (intOf v5).toNat)
    case atStart => exact ⟨n, s2, [], rfl, ⟨LisR.start HR2.out HK2.out HI2.out⟩⟩
    case round =>
      obtain ⟨m, s3, l, rfl, HL⟩ := hrel
      have hmn : m ≤ n := by have := HL.out.sum; omega
      obtain ⟨A3, cc3, hb3, hge3, hC3, hcap3⟩ := HL.out.rd.is
      have d2 := cellS151_2 hb3
      clear hb3 hge3 hC3 hcap3
      obtain ⟨a3, er3, bd3⟩ := s3
      by_cases hm : m = 0
      · have hb2 : decide ((0 : Int) < (m : Int)) = false := decide_eq_false (by omega)
        have HM := Aside0.mk hm
        have hm2 : ¬ 0 < m := by omega
        clear hm
        go_wp2_with fail
        go_ret
        rw [show listR b item s = listL item n s2 by unfold listR; rw [HH2.out]]
        exact HL.out.done (.inl HM.out)
      · by_cases he : er3 = 0
        · obtain ⟨m1, rfl⟩ : ∃ m1, m = m1 + 1 := ⟨m - 1, by omega⟩
          have hb2 : decide ((0 : Int) < ((m1 + 1 : Nat) : Int)) = true := decide_eq_true (by omega)
          have hm2 : 0 < m1 + 1 := by omega
          have hb3 : (er3 == 0) = true := by simp [he]
          have HE := Aside0.mk (show (⟨a3, er3, bd3⟩ : R3).err = 0 from he)
          clear he hm
          go_wp2_with fail
          go_at_call 103
          with_reducible refine (HIT.out ⟨a3, er3, bd3⟩ wr HL.out.rd HL.out.inv (keep_size HL.out.keep)).mono ?_
          intro e w3 hp
          obtain ⟨cs, rfl, hM, hR4, hK4⟩ := hp
          obtain ⟨x, hx⟩ : ∃ x, (item ⟨a3, er3, bd3⟩).1 = x := ⟨_, rfl⟩
          rw [hx] at hM
          have HX := Aside0.mk hx
          have HR4 := Aside0.mk hR4
          have HK4 := Aside0.mk hK4
          obtain ⟨v7, rfl, hq7⟩ := k82_openM hM
          have Q7 := Aside0.mk hq7
          clear hM hq7
          have P7 := Aside0.mk (Kd.R_lower (Kd.R_mono (Kd.R_bound Q7.out) (fun k_ (hk : _ ∧ wr.heap.size ≤ k_ ∧ _) => hk.2.1)) HL.out.keep.1)
          have HRW := Aside0.mk (Kd.R_keep HL.out.row HK4.out (fun _ hk => hk))
          have HOK := Aside0.mk (show ∀ k_, wr.heap.size ≤ k_ → k_ ≠ g ∧ some k_ ≠ u6.ownBlock from fun k_ hk => ⟨by have := HL.out.rd.lt; omega, fun e_ => by obtain ⟨inner_, ho_⟩ := Kd.R_own HL.out.row; have := (ho_.lt k_ e_.symm).2; omega⟩)
          have HFR := Aside0.mk (show ∀ k_, w3.heap.size ≤ k_ → k_ ≠ g from fun k_ hk => by have := HR4.out.lt; omega)
          have HBS := Aside0.mk (show w.heap.size ≤ w3.heap.size from Nat.le_trans HL.out.keep.1 HK4.out.1)
          have HLN := Aside0.mk (show (l.length + 1) * 104 ≤ 140737488355328 from by have := HL.out.sum; have := HL.out.few' HS2.out HE.out; omega)
          clear hR4 hK4 hx d2 hb2 hb3
          go_wp2_with (at_builtin; refine Kd.R_append k82 w.heap.size rfl _ _ 31 82 (.agg #[(.string ⟨#[]⟩), (.bool false), (.int .i64 0), (.int .i64 0), (.int .i64 0), (.int .i64 0), (.int .i64 0), (.slice none 0 0), (.string ⟨#[]⟩)]) 104 rfl Try.underlying31 info82' rfl (by decide) (by decide) u6 l x [.string x.f0, .bool x.f1, .int .i64 x.f2, .int .i64 x.f3.f0, .int .i64 x.f3.f1, .int .i64 x.f3.f2, .int .i64 x.f3.f3, v7, .string x.f4] (fun k_ => k_ ≠ g) (fun k_ => wr.heap.size ≤ k_) rfl rfl (k82_mkM w3 w.heap.size (fun k_ => wr.heap.size ≤ k_) x P7.out) HOK.out HFR.out HRW.out (Below.refl _ _) HBS.out HLN.out ?_; intro v9 w4 ho9 _ hg9 _)
          rw [← HX.out] at ho9
          have HN := Aside0.mk (HL.out.next HS2.out HE.out HGW.out HI.out HR4.out HK4.out ho9 hg9)
          clear ho9 hg9
          try go_wp2_with fail
          go_roundw
          case rel => exact ⟨m1, _, _, by first | rfl | go_num | (congr 1; omega), HN⟩
          case measure => simp [intOf] <;> omega
        · have hb2 : decide ((0 : Int) < (m : Int)) = true := decide_eq_true (by omega)
          have hm2 : 0 < m := by omega
          have hb3 : (er3 == 0) = false := by simp [he]
          have HE := Aside0.mk (show ¬ (⟨a3, er3, bd3⟩ : R3).err = 0 from he)
          clear he hm
          go_wp2_with fail
          go_ret
          rw [show listR b item s = listL item n s2 by unfold listR; rw [HH2.out]]
          exact HL.out.done (.inr HE.out))
theorem info80' : (Try.prog.info? 80).map (fun i => (i.zero, i.size, i.bytes)) = some (some (.agg #[(.int .i64 0), (.int .i64 0), (.int .i64 0), (.int .i64 0), (.slice none 0 0)]), 5, 56) := by kernel_rfl
set_option maxHeartbeats 4000000 in
theorem list145 (w0 w : World) (g : Nat) (cw cd : Nat) (b : List Int) (s : R3) (I : World → Prop) (item : R3 → S80 × R3) (h : Rd w0 w g b s) (hI0 : I w) (hI : ∀ w1 w2 : World, I w1 → (∀ k, k < w.heap.size → k ≠ g → w2.heap[k]? = w1.heap[k]?) → I w2)
    (hit : ∀ (s2 : R3) (w2 : World), Rd w0 w2 g b s2 → I w2 → w.heap.size ≤ w2.heap.size → Calls Try.prog 146 #[.pointer (some ⟨cw, 0, none⟩), .pointer (some ⟨cd, 0, none⟩)] w2 (IP k80 w0 g b (item s2).1 (item s2).2 w2)) :
    Calls Try.prog 145 #[.pointer (some ⟨g, 0, none⟩), .func (.func 146) #[] #[.pointer (some ⟨cw, 0, none⟩), .pointer (some ⟨cd, 0, none⟩)]] w (MP k80 80 w0 g b (listR b item s).1 (listR b item s).2 w) := by
  have H0 := Aside0.mk h
  have HI0 := Aside0.mk hI0
  have HI := Aside0.mk hI
  have HIT := Aside0.mk hit
  have hr := numR_range h.byt h.good
  have hg := numR_good h.good
  have HSM := Aside0.mk (headR_small h.byt h.good)
  have HGW := Aside0.mk h.lt.1
  clear h hI0 hI hit
  go_enter Try.func145, Try.ntmps145
  go_wp2_with fail
  go_at_call 121
  with_reducible refine (number_r H0.out).mono ?_
  intro e w1 hp
  obtain ⟨rfl, hR, hK⟩ := hp
  obtain ⟨n, hn0⟩ : ∃ n : Nat, (numR b s).1 = (n : Int) := ⟨(numR b s).1.toNat, by omega⟩
  obtain ⟨s1, hs0⟩ : ∃ s1, (numR b s).2 = s1 := ⟨_, rfl⟩
  rw [hs0] at hg hR
  rw [hn0] at hr ⊢
  have HH := Aside0.mk (show headR b s = (n, if (n : Int) > b.length - s1.at_ then shortR b s1 else s1) by unfold headR; rw [hn0, hs0, Int.toNat_natCast])
  clear hn0 hs0
  obtain ⟨a, er, bd⟩ := s1
  have ha0 : 0 ≤ a := hg.lo
  have ha1 : a ≤ b.length := hg.hi
  have hlen := hR.len
  have HR := Aside0.mk hR
  have HK := Aside0.mk hK
  have HI1 := Aside0.mk (HI.out w w1 HI0.out (fun k hk hkg => hK.2 k hk hkg (by simp)))
  obtain ⟨A, c, hb, hge, hC, hcap⟩ := hR.is
  have c0 := cellS151_0 hb
  have c1 := cellS151_1 hb
  clear hR hK hb hge hC hcap hg
  have e1 : IntKind.i64.wrap ((b.length : Int) - a) = (b.length : Int) - a := by rw [IntKind.wrap_i64]; omega
  have e2 : IntKind.u64.wrap ((b.length : Int) - a) = (b.length : Int) - a := by rw [IntKind.wrap_u64]; omega
  by_cases hn : (n : Int) > b.length - a
  case' pos =>
    have hb1 : decide ((b.length : Int) - a < (n : Int)) = true := decide_eq_true hn
    have HH2 := Aside0.mk (HH.out.trans (by rw [if_pos hn] : _ = (n, shortR b ⟨a, er, bd⟩)))
    go_wp2_with fail
    go_quiet (fail)
    clear e1 e2
    go_wp2_with fail
    go_at_call 90
    with_reducible refine (short_r (HR.out.drewN nq)).mono ?_
    intro e w2 hp
    obtain ⟨rfl, hR2, hK2⟩ := hp
    have HI2 := Aside0.mk (HI.out w1 w2 HI1.out (fun k hk hkg => hK2.2 k (Nat.lt_of_lt_of_le hk HK.out.1) hkg (by simp)))
    have HK2 := Aside0.mk ((keep_drewN HK.out nq).trans hK2 (.inl rfl))
    have HR2 := Aside0.mk hR2
    clear hR2 hK2 c0 c1 hb1
    generalize shortR b ⟨a, er, bd⟩ = s2 at HH2 HR2
    clear HR HK HI1 HH hn
    go_wp2_with fail
  case' neg =>
    have hb1 : decide ((b.length : Int) - a < (n : Int)) = false := decide_eq_false hn
    have HH2 := Aside0.mk (HH.out.trans (by rw [if_neg hn] : _ = (n, (⟨a, er, bd⟩ : R3))))
    go_wp2_with fail
    go_quiet (fail)
    clear e1 e2
    have HI2 := Aside0.mk (HI.out w1 (w1.drewN nq) HI1.out (fun _ _ _ => rfl))
    have HK2 := Aside0.mk (keep_drewN HK.out nq)
    have HR2 := Aside0.mk (HR.out.drewN nq)
    clear c0 c1 hb1
    generalize (⟨a, er, bd⟩ : R3) = s2 at HH2 HR2
    clear HR HK HI1 HH hn
    generalize w1.drewN nq = w2 at HI2 HK2 HR2 ⊢
    go_wp2_with fail
  all_goals (
    rw [HH2.out] at HSM
    have HS2 := Aside0.mk (show s2.err = 0 → n ≤ 131072 from fun h => by have := HSM.out h; omega)
    go_loopw [5, 6] (fun v5 v6 wr => ∃ (m : Nat) (s3 : R3) (l : List S80), v5 = .int .u64 (m : Nat) ∧ Aside0 (LisR k80 80 w0 w g b I item n s2 m s3 l v6 wr)) (fun v5 _ _ => (intOf v5).toNat)
    case atStart => exact ⟨n, s2, [], rfl, ⟨LisR.start HR2.out HK2.out HI2.out⟩⟩
    case round =>
      obtain ⟨m, s3, l, rfl, HL⟩ := hrel
      have hmn : m ≤ n := by have := HL.out.sum; omega
      obtain ⟨A3, cc3, hb3, hge3, hC3, hcap3⟩ := HL.out.rd.is
      have d2 := cellS151_2 hb3
      clear hb3 hge3 hC3 hcap3
      obtain ⟨a3, er3, bd3⟩ := s3
      by_cases hm : m = 0
      · have hb2 : decide ((0 : Int) < (m : Int)) = false := decide_eq_false (by omega)
        have HM := Aside0.mk hm
        have hm2 : ¬ 0 < m := by omega
        clear hm
        go_wp2_with fail
        go_ret
        rw [show listR b item s = listL item n s2 by unfold listR; rw [HH2.out]]
        exact HL.out.done (.inl HM.out)
      · by_cases he : er3 = 0
        · obtain ⟨m1, rfl⟩ : ∃ m1, m = m1 + 1 := ⟨m - 1, by omega⟩
          have hb2 : decide ((0 : Int) < ((m1 + 1 : Nat) : Int)) = true := decide_eq_true (by omega)
          have hm2 : 0 < m1 + 1 := by omega
          have hb3 : (er3 == 0) = true := by simp [he]
          have HE := Aside0.mk (show (⟨a3, er3, bd3⟩ : R3).err = 0 from he)
          clear he hm
          go_wp2_with fail
          go_at_call 146
          with_reducible refine (HIT.out ⟨a3, er3, bd3⟩ wr HL.out.rd HL.out.inv (keep_size HL.out.keep)).mono ?_
          intro e w3 hp
          obtain ⟨cs, rfl, hM, hR4, hK4⟩ := hp
          obtain ⟨x, hx⟩ : ∃ x, (item ⟨a3, er3, bd3⟩).1 = x := ⟨_, rfl⟩
          rw [hx] at hM
          have HX := Aside0.mk hx
          have HR4 := Aside0.mk hR4
          have HK4 := Aside0.mk hK4
          obtain ⟨v4, rfl, hq4⟩ := k80_openM hM
          have Q4 := Aside0.mk hq4
          clear hM hq4
          have P4 := Aside0.mk (Kd.R_lower (Kd.R_mono (Kd.R_bound Q4.out) (fun k_ (hk : _ ∧ wr.heap.size ≤ k_ ∧ _) => hk.2.1)) HL.out.keep.1)
          have HRW := Aside0.mk (Kd.R_keep HL.out.row HK4.out (fun _ hk => hk))
          have HOK := Aside0.mk (show ∀ k_, wr.heap.size ≤ k_ → k_ ≠ g ∧ some k_ ≠ u6.ownBlock from fun k_ hk => ⟨by have := HL.out.rd.lt; omega, fun e_ => by obtain ⟨inner_, ho_⟩ := Kd.R_own HL.out.row; have := (ho_.lt k_ e_.symm).2; omega⟩)
          have HFR := Aside0.mk (show ∀ k_, w3.heap.size ≤ k_ → k_ ≠ g from fun k_ hk => by have := HR4.out.lt; omega)
          have HBS := Aside0.mk (show w.heap.size ≤ w3.heap.size from Nat.le_trans HL.out.keep.1 HK4.out.1)
          have HLN := Aside0.mk (show (l.length + 1) * 56 ≤ 140737488355328 from by have := HL.out.sum; have := HL.out.few' HS2.out HE.out; omega)
          clear hR4 hK4 hx d2 hb2 hb3
          go_wp2_with (at_builtin; refine Kd.R_append k80 w.heap.size rfl _ _ 78 80 (.agg #[(.int .i64 0), (.int .i64 0), (.int .i64 0), (.int .i64 0), (.slice none 0 0)]) 56 rfl Try.underlying78 info80' rfl (by decide) (by decide) u6 l x [.int .i64 x.f0, .int .i64 x.f1, .int .i64 x.f2, .int .i64 x.f3, v4] (fun k_ => k_ ≠ g) (fun k_ => wr.heap.size ≤ k_) rfl rfl (k80_mkM w3 w.heap.size (fun k_ => wr.heap.size ≤ k_) x P4.out) HOK.out HFR.out HRW.out (Below.refl _ _) HBS.out HLN.out ?_; intro v9 w4 ho9 _ hg9 _)
          rw [← HX.out] at ho9
          have HN := Aside0.mk (HL.out.next HS2.out HE.out HGW.out HI.out HR4.out HK4.out ho9 hg9)
          clear ho9 hg9
          try go_wp2_with fail
          go_roundw
          case rel => exact ⟨m1, _, _, by first | rfl | go_num | (congr 1; omega), HN⟩
          case measure => simp [intOf] <;> omega
        · have hb2 : decide ((0 : Int) < (m : Int)) = true := decide_eq_true (by omega)
          have hm2 : 0 < m := by omega
          have hb3 : (er3 == 0) = false := by simp [he]
          have HE := Aside0.mk (show ¬ (⟨a3, er3, bd3⟩ : R3).err = 0 from he)
          clear he hm
          go_wp2_with fail
          go_ret
          rw [show listR b item s = listL item n s2 by unfold listR; rw [HH2.out]]
          exact HL.out.done (.inr HE.out))
end Go.Proofs.Ytpbdkkahodaloaa.V
end

section
set_option linter.unusedVariables false
namespace Go.Proofs.Ytpbdkkahodaloaa.V
open Go.RowKit Go.Proofs.Ytpbdkkahodaloaa.PS Go.Proofs.YtpbdkkahodaloaaW.PrintWords Go.Proofs.YtpbdkkahodaloaaW.PrintMore
set_option maxRecDepth 100000
def sets (w : World) (q : Nat) : Nat → List Value → World
  | _, [] => w
  | i, c :: cs => sets (w.setCell ⟨q, i, none⟩ c) q (i + 1) cs
theorem sets_far (q : Nat) : ∀ (cs : List Value) (w : World) (i k : Nat), k ≠ q → (sets w q i cs).heap[k]? = w.heap[k]?
  | [], w, i, k, h => rfl
  | c :: cs, w, i, k, h => by
    show (sets (w.setCell ⟨q, i, none⟩ c) q (i + 1) cs).heap[k]? = _
    rw [sets_far q cs _ _ k h, Below.heap_setCell w ⟨q, i, none⟩ c k h]
theorem sets_size (q : Nat) : ∀ (cs : List Value) (w : World) (i : Nat), (sets w q i cs).heap.size = w.heap.size
  | [], w, i => rfl
  | c :: cs, w, i => by
    show (sets (w.setCell ⟨q, i, none⟩ c) q (i + 1) cs).heap.size = _
    rw [sets_size q cs]; simp [World.setCell]
theorem sets_os (q : Nat) : ∀ (cs : List Value) (w : World) (i : Nat), (sets w q i cs).os = w.os ∧ (sets w q i cs).tape = w.tape ∧ (sets w q i cs).output = w.output
  | [], w, i => ⟨rfl, rfl, rfl⟩
  | c :: cs, w, i => sets_os q cs (w.setCell ⟨q, i, none⟩ c) (i + 1)
theorem sets_blk (q : Nat) (t : TypeId) : ∀ (cs : List Value) (w : World) (i : Nat) (cs0 : Array Value), w.heap[q]? = some (.cells cs0 t (0, 0)) → cs0.size = i + cs.length → (sets w q i cs).heap[q]? = some (.cells (cs0.toList.take i ++ cs).toArray t (0, 0))
  | [], w, i, cs0, h, hs => by
    show w.heap[q]? = _
    rw [h, List.append_nil, List.take_of_length_le (by simp at hs; simp; omega)]
  | c :: cs, w, i, cs0, h, hs => by
    have hlt : i < cs0.size := by simp at hs; omega
    have ih := sets_blk q t cs (w.setCell ⟨q, i, none⟩ c) (i + 1) (cs0.setIfInBounds i c) (blk_set h i c) (by simp at hs ⊢; omega)
    show (sets (w.setCell ⟨q, i, none⟩ c) q (i + 1) cs).heap[q]? = _
    rw [ih]
    congr 3
    rw [Array.toList_setIfInBounds, List.take_add_one, List.take_set_of_le (by omega)]
    rw [List.getElem?_set_self (by simpa using hlt)]
    simp
theorem sets_all {q : Nat} {t : TypeId} {w : World} {cs0 : Array Value} {cs : List Value} (h : w.heap[q]? = some (.cells cs0 t (0, 0))) (hs : cs0.size = cs.length) : (sets w q 0 cs).heap[q]? = some (.cells cs.toArray t (0, 0)) := by
  have := sets_blk q t cs w 0 cs0 h (by omega)
  simpa using this
theorem Rd.alloc {w0 w : World} {g : Nat} {b : List Int} {s : R3} (h : Rd w0 w g b s) (o : Obj) : Rd w0 (w.alloc o) g b s := ⟨h.is.alloc o, below_alloc h.dat o, h.good, h.byt, h.len⟩
theorem Rd.sets {w0 w : World} {g : Nat} {b : List Int} {s : R3} (h : Rd w0 w g b s) {q : Nat} (hq : q ≠ g) (hq0 : w0.heap.size ≤ q) (cs : List Value) (i : Nat) : Rd w0 (sets w q i cs) g b s := by
  obtain ⟨A0, c0, hb, hg, hr0⟩ := h.is
  obtain ⟨o1, o2, o3⟩ := sets_os q cs w i
  exact ⟨⟨A0, c0, (sets_far q cs w i g hq.symm).trans hb, hg, hr0⟩, ⟨o1.trans h.dat.os, o2.trans h.dat.tape, o3.trans h.dat.output, by rw [sets_size]; exact h.dat.size, fun k hk => (sets_far q cs w i k (by omega)).trans (h.dat.block k hk)⟩, h.good, h.byt, h.len⟩
theorem keep_sets {w w1 : World} {g q : Nat} (h : KeepBut w w1 g none) (hq : w.heap.size ≤ q) (cs : List Value) (i : Nat) : KeepBut w (sets w1 q i cs) g none :=
  ⟨by rw [sets_size]; exact h.1, fun k hk hg hn => (sets_far q cs w1 i k (by omega)).trans (h.2 k hk hg hn)⟩
theorem item_end {α : Type} {d : Kd α} {fn : Func} {r : Tmp} {t : TypeId} {a : Act} {w0 w wn : World} {g q : Nat} {b : List Int} {x : α} {s' : R3} {cs0 : Array Value} {cs : List Value} {fs : Array Field} (hres : fn.results = #[.cell r t]) (hp : a.tmps.getD r undef = .pointer (some ⟨q, 0, none⟩)) (hd : a.defers = []) (hu : Try.prog.underlying t = some (.struct fs)) (hce : (Try.prog.info? t).map (·.size) = some cs.length)
    (hb : wn.heap[q]? = some (.cells cs0 t (0, 0))) (hs : cs0.size = cs.length) (hr : Rd w0 wn g b s') (hk : KeepBut w wn g none) (hq : w.heap.size ≤ q) (hg : g < w.heap.size) (hM : d.M wn w.heap.size (fun k => k ≠ q) x cs) :
    bodyPost Try.prog fn (IP d w0 g b x s' w) .ret a (sets wn q 0 cs) := by
  have hq0 : w0.heap.size ≤ q := Nat.le_trans hr.lt.2 (by omega)
  refine bodyPost_ret (results_cell_row hres _ _ q t cs.toArray (0, 0) (.struct fs) hp (sets_all hb hs) hu rfl (by rw [hce, List.size_toArray])) hd ⟨cs, rfl, ?_, hr.sets (by omega) hq0 cs 0, keep_sets hk hq cs 0⟩
  exact d.M_mono (fun _ _ => trivial) (Kd.M_step hM (fun k hk' hlt => sets_far q cs wn 0 k hk'))
def sayR (b : List Int) (s : R3) : Int × R3 := ((byteR b s).1, if (byteR b s).1 > 15 then failR 71 s.at_ (byteR b s).2 else (byteR b s).2)
def numsR (b : List Int) (y : Int) (s : R3) : (Int × Int × Int) × R3 :=
  (((givenR b y 1 s).1, (givenR b y 2 (givenR b y 1 s).2).1, (givenR b y 4 (givenR b y 2 (givenR b y 1 s).2).2).1), (givenR b y 4 (givenR b y 2 (givenR b y 1 s).2).2).2)
def argsR (b : List Int) (item : R3 → S80 × R3) (y : Int) (s : R3) : List S80 × R3 :=
  if bits .and .u8 y 8 = 0 ∨ ¬ s.err = 0 then ([], s) else ((listR b item s).1, if (listR b item s).1.length = 0 then failR 71 s.at_ (listR b item s).2 else (listR b item s).2)
def bodyR (b : List Int) (item : R3 → S80 × R3) (o : Int) (s : R3) : S80 × R3 :=
  (⟨o, (numsR b (sayR b s).1 (sayR b s).2).1.1, (numsR b (sayR b s).1 (sayR b s).2).1.2.1, (numsR b (sayR b s).1 (sayR b s).2).1.2.2, (argsR b item (sayR b s).1 (numsR b (sayR b s).1 (sayR b s).2).2).1⟩, (argsR b item (sayR b s).1 (numsR b (sayR b s).1 (sayR b s).2).2).2)
def exprR (b : List Int) : Nat → R3 → S80 × R3
  | 0, s => if s.err = 0 then (z80, failR 72 s.at_ s) else (z80, s)
  | f + 1, s => if s.err = 0 then bodyR b (exprR b f) (intR b s).1 (intR b s).2 else (z80, s)
def ExprRC (f : Nat) : Prop := ∀ (w0 w : World) (g k : Nat) (b : List Int) (s : R3), k + f = 65 → Rd w0 w g b s → Calls Try.prog 128 #[.pointer (some ⟨g, 0, none⟩), .int .i64 k] w (IP k80 w0 g b (exprR b f s).1 (exprR b f s).2 w)
structure Box3 (w0 w W : World) (g k : Nat) (b : List Int) (s : R3) : Prop where
  rd : Rd w0 W g b s
  b0 : W.heap[w.heap.size]? = some (.cells #[.pointer (some ⟨g, 0, none⟩)] 149 (0, 0))
  b1 : W.heap[w.heap.size + 1]? = some (.cells #[.int .i64 k] 3 (0, 0))
  b2 : W.heap[w.heap.size + 1 + 1]? = some (.cells #[.int .i64 0, .int .i64 0, .int .i64 0, .int .i64 0, .slice none 0 0] 80 (0, 0))
  keep : KeepBut w W g none
  lt : g < w.heap.size
theorem Box3.of {w0 w : World} {g : Nat} {b : List Int} {s : R3} (h : Rd w0 w g b s) (k : Nat) : Box3 w0 w (((w.alloc (.cells #[.pointer (some ⟨g, 0, none⟩)] 149)).alloc (.cells #[.int .i64 k] 3)).alloc (.cells #[.int .i64 0, .int .i64 0, .int .i64 0, .int .i64 0, .slice none 0 0] 80)) g k b s := by
  refine ⟨((h.alloc _).alloc _).alloc _, blk_alloc (blk_alloc (blk_new w _) _) _, ?_, ?_, keep_alloc (keep_alloc (keep_alloc (KeepBut.refl w g none) _) _) _, h.lt.1⟩
  · have := blk_alloc (blk_new (w.alloc (.cells #[.pointer (some ⟨g, 0, none⟩)] 149)) (.cells #[.int .i64 k] 3)) (.cells #[.int .i64 0, .int .i64 0, .int .i64 0, .int .i64 0, .slice none 0 0] 80)
    rwa [World.size_alloc] at this
  · have := blk_new ((w.alloc (.cells #[.pointer (some ⟨g, 0, none⟩)] 149)).alloc (.cells #[.int .i64 k] 3)) (.cells #[.int .i64 0, .int .i64 0, .int .i64 0, .int .i64 0, .slice none 0 0] 80)
    rwa [World.size_alloc, World.size_alloc] at this
theorem Box3.next {w0 w W W1 : World} {g k : Nat} {b : List Int} {s s1 : R3} (h : Box3 w0 w W g k b s) (hr : Rd w0 W1 g b s1) (hk : KeepBut W W1 g none) : Box3 w0 w W1 g k b s1 :=
  ⟨hr, hk.blk h.b0 (by have := h.lt; omega) (by simp), hk.blk h.b1 (by have := h.lt; omega) (by simp), hk.blk h.b2 (by have := h.lt; omega) (by simp), h.keep.trans hk (.inl rfl), h.lt⟩
theorem Box3.drewN {w0 w W : World} {g k : Nat} {b : List Int} {s : R3} (h : Box3 w0 w W g k b s) (n : Nat) : Box3 w0 w (W.drewN n) g k b s := h.next (h.rd.drewN n) (keep_drewN (KeepBut.refl _ _ _) n)
theorem Box3.alloc {w0 w W : World} {g k : Nat} {b : List Int} {s : R3} (h : Box3 w0 w W g k b s) (o : Obj) : Box3 w0 w (W.alloc o) g k b s := h.next (h.rd.alloc o) (keep_alloc (KeepBut.refl _ _ _) o)
theorem c5_ {w : World} {g : Nat} {v0 v1 v2 v3 v4 : Value} {t : TypeId} (h : Aside0 (w.heap[g]? = some (.cells #[v0, v1, v2, v3, v4] t (0, 0)))) : w.cell? ⟨g, 0, none⟩ = some v0 ∧ w.cell? ⟨g, 1, none⟩ = some v1 ∧ w.cell? ⟨g, 2, none⟩ = some v2 ∧ w.cell? ⟨g, 3, none⟩ = some v3 ∧ w.cell? ⟨g, 4, none⟩ = some v4 ∧ w.frozen? ⟨g, 0, none⟩ = false ∧ w.frozen? ⟨g, 1, none⟩ = false ∧ w.frozen? ⟨g, 2, none⟩ = false ∧ w.frozen? ⟨g, 3, none⟩ = false ∧ w.frozen? ⟨g, 4, none⟩ = false :=
  ⟨(blk_cell h.out 0).trans rfl, (blk_cell h.out 1).trans rfl, (blk_cell h.out 2).trans rfl, (blk_cell h.out 3).trans rfl, (blk_cell h.out 4).trans rfl, blk_frozen h.out 0, blk_frozen h.out 1, blk_frozen h.out 2, blk_frozen h.out 3, blk_frozen h.out 4⟩
theorem z80_M (w : World) (base : Nat) (ok : Nat → Prop) : k80.M w base ok z80 [.int .i64 0, .int .i64 0, .int .i64 0, .int .i64 0, .slice none 0 0] := k80_mkM w base ok z80 (Kd.R_nil _ _ _ _ _)
theorem Box3.end_ {w0 w W : World} {g k : Nat} {b : List Int} {s : R3} {a : Act} {x : S80} {cs : List Value} (h : Box3 w0 w W g k b s) (hp : a.tmps.getD 4 undef = .pointer (some ⟨w.heap.size + 1 + 1, 0, none⟩)) (hd : a.defers = []) (hc : cs.length = 5) (hM : k80.M W w.heap.size (fun k => k ≠ w.heap.size + 1 + 1) x cs) :
    bodyPost Try.prog Try.f128 (IP k80 w0 g b x s w) .ret a (sets W (w.heap.size + 1 + 1) 0 cs) :=
  item_end rfl hp hd Try.underlying80 (by rw [hc]; kernel_rfl) h.b2 (by rw [hc]; rfl) h.rd h.keep (by omega) h.lt hM
set_option maxHeartbeats 4000000 in
theorem expr_r0 : ExprRC 0 := by
  intro w0 w g k b s hk h
  have H0 := Aside0.mk (Box3.of h k)
  have hb64 : decide ((64 : Int) < (k : Int)) = true := decide_eq_true (by omega)
  obtain ⟨a, er, bd⟩ := s
  obtain ⟨A, c, hb, hge, hC, hcap⟩ := H0.out.rd.is
  have c1 := cellS151_1 hb
  have c2 := cellS151_2 hb
  have hlt := h.lt.1
  clear hb hge hC hcap h hk
  by_cases he : er = 0
  · have hb3 : (er != 0) = false := by simp [he]
    have HX := Aside0.mk (show exprR b 0 ⟨a, er, bd⟩ = (z80, failR 72 a ⟨a, er, bd⟩) by unfold exprR; rw [if_pos he])
    clear he
    go_enter Try.func128, Try.ntmps128
    go_wp2_with fail
    generalize ((w.alloc (.cells #[.pointer (some ⟨g, 0, none⟩)] 149)).alloc (.cells #[.int .i64 k] 3)).alloc (.cells #[.int .i64 0, .int .i64 0, .int .i64 0, .int .i64 0, .slice none 0 0] 80) = W at H0 c1 c2 ⊢
    have a0 := (blk_cell H0.out.b0 0).trans rfl
    go_still_tail 5, (by kernel_rfl)
    have hw5 : ({ W with drawn := W.drawn + 1 } : World) = W.drew := rfl
    rw [hw5]
    have H1 := Aside0.mk (H0.out.drewN 1)
    have hw6 : W.drewN 1 = W.drew := rfl
    rw [hw6] at H1
    generalize W.drew = W1 at H1 ⊢
    clear hw5 hw6 a0 c1 c2 hb3 hb64
    go_wp2_with fail
    go_at_call 91
    with_reducible refine (fail_r H1.out.rd 72 a).mono ?_
    intro e w2 hp
    obtain ⟨rfl, hR, hK⟩ := hp
    have H2 := Aside0.mk (H1.out.next hR hK)
    obtain ⟨k0, k1, k2, k3, k4, f0, f1, f2, f3, f4⟩ := c5_ ⟨H2.out.b2⟩
    have hq := blk_lt H2.out.b2
    clear hR hK
    go_wp2_with fail
    rw [HX.out]
    have hE := @Box3.end_ (cs := [.int .i64 0, .int .i64 0, .int .i64 0, .int .i64 0, .slice none 0 0]) (x := z80) (h := H2.out)
    simp only [sets, Nat.zero_add, Nat.reduceAdd] at hE
    exact hE _ rfl rfl rfl (z80_M _ _ _)
  · have hb3 : (er != 0) = true := by simp [he]
    have HX := Aside0.mk (show exprR b 0 ⟨a, er, bd⟩ = (z80, ⟨a, er, bd⟩) by unfold exprR; rw [if_neg he])
    clear he
    go_enter Try.func128, Try.ntmps128
    go_upto_region 2 with (fail)
    generalize ((w.alloc (.cells #[.pointer (some ⟨g, 0, none⟩)] 149)).alloc (.cells #[.int .i64 k] 3)).alloc (.cells #[.int .i64 0, .int .i64 0, .int .i64 0, .int .i64 0, .slice none 0 0] 80) = W at H0 c1 c2 ⊢
    obtain ⟨k0, k1, k2, k3, k4, f0, f1, f2, f3, f4⟩ := c5_ ⟨H0.out.b2⟩
    have hq := blk_lt H0.out.b2
    go_wp2_with fail
    rw [HX.out]
    have hE := @Box3.end_ (cs := [.int .i64 0, .int .i64 0, .int .i64 0, .int .i64 0, .slice none 0 0]) (x := z80) (h := H0.out)
    simp only [sets, Nat.zero_add, Nat.reduceAdd] at hE
    exact hE _ rfl rfl rfl (z80_M _ _ _)
structure BoxE (w0 w W : World) (g k : Nat) (b : List Int) (s : R3) (q : Nat) (o n1 n2 n3 : Int) (v : Value) : Prop where
  bx : Box3 w0 w W g k b s
  eb : W.heap[q]? = some (.cells #[.int .i64 o, .int .i64 n1, .int .i64 n2, .int .i64 n3, v] 80 (0, 0))
  lo : w.heap.size + 1 + 1 < q
section
variable {w0 w W W1 : World} {g k : Nat} {b : List Int} {s s1 : R3} {q : Nat} {o n1 n2 n3 : Int} {v : Value}
theorem BoxE.new (h : Box3 w0 w W g k b s) (o : Int) : BoxE w0 w (W.alloc (.cells #[.int .i64 o, .int .i64 0, .int .i64 0, .int .i64 0, .slice none 0 0] 80)) g k b s W.heap.size o 0 0 0 (.slice none 0 0) :=
  ⟨h.alloc _, blk_new W _, blk_lt h.b2⟩
theorem BoxE.next (h : BoxE w0 w W g k b s q o n1 n2 n3 v) (hr : Rd w0 W1 g b s1) (hk : KeepBut W W1 g none) : BoxE w0 w W1 g k b s1 q o n1 n2 n3 v :=
  ⟨h.bx.next hr hk, hk.blk h.eb (by have := h.lo; have := h.bx.lt; omega) (by simp), h.lo⟩
theorem BoxE.drewN (h : BoxE w0 w W g k b s q o n1 n2 n3 v) (n : Nat) : BoxE w0 w (W.drewN n) g k b s q o n1 n2 n3 v := ⟨h.bx.drewN n, h.eb, h.lo⟩
theorem BoxE.set (h : BoxE w0 w W g k b s q o n1 n2 n3 v) (i : Nat) (u : Value) : Box3 w0 w (W.setCell ⟨q, i, none⟩ u) g k b s := by
  have hl := h.lo
  have hlt := h.bx.lt
  have hne : ∀ j, j ≠ q → (W.setCell ⟨q, i, none⟩ u).heap[j]? = W.heap[j]? := fun j hj => Below.heap_setCell W ⟨q, i, none⟩ u j hj
  exact ⟨h.bx.rd.sets (by omega) (by have := h.bx.rd.lt; omega) [u] i, (hne _ (by omega)).trans h.bx.b0, (hne _ (by omega)).trans h.bx.b1, (hne _ (by omega)).trans h.bx.b2, keep_sets h.bx.keep (by omega) [u] i, hlt⟩
theorem BoxE.set1 (h : BoxE w0 w W g k b s q o n1 n2 n3 v) (x : Int) : BoxE w0 w (W.setCell ⟨q, 1, none⟩ (.int .i64 x)) g k b s q o x n2 n3 v := ⟨h.set _ _, by simpa using blk_set h.eb 1 (.int .i64 x), h.lo⟩
theorem BoxE.set2 (h : BoxE w0 w W g k b s q o n1 n2 n3 v) (x : Int) : BoxE w0 w (W.setCell ⟨q, 2, none⟩ (.int .i64 x)) g k b s q o n1 x n3 v := ⟨h.set _ _, by simpa using blk_set h.eb 2 (.int .i64 x), h.lo⟩
theorem BoxE.set3 (h : BoxE w0 w W g k b s q o n1 n2 n3 v) (x : Int) : BoxE w0 w (W.setCell ⟨q, 3, none⟩ (.int .i64 x)) g k b s q o n1 n2 x v := ⟨h.set _ _, by simpa using blk_set h.eb 3 (.int .i64 x), h.lo⟩
theorem BoxE.set4 (h : BoxE w0 w W g k b s q o n1 n2 n3 v) (x : Value) : BoxE w0 w (W.setCell ⟨q, 4, none⟩ x) g k b s q o n1 n2 n3 x := ⟨h.set _ _, by simpa using blk_set h.eb 4 x, h.lo⟩
end
set_option maxHeartbeats 4000000 in
theorem clos_r (f : Nat) (ih : ExprRC f) (w0 w : World) (g k cw cd : Nat) (b : List Int) (s : R3) (hk : k + (f + 1) = 65) (h : Rd w0 w g b s) (hcw : w.heap[cw]? = some (.cells #[.pointer (some ⟨g, 0, none⟩)] 149 (0, 0))) (hcd : w.heap[cd]? = some (.cells #[.int .i64 k] 3 (0, 0))) :
    Calls Try.prog 146 #[.pointer (some ⟨cw, 0, none⟩), .pointer (some ⟨cd, 0, none⟩)] w (IP k80 w0 g b (exprR b f s).1 (exprR b f s).2 w) := by
  have H0 := Aside0.mk (h.alloc (.cells #[.int .i64 0, .int .i64 0, .int .i64 0, .int .i64 0, .slice none 0 0] 80))
  have a0 := (blk_cell hcw 0).trans rfl
  have k0 := (blk_cell hcd 0).trans rfl
  have l0 := blk_lt hcw
  have l1 := blk_lt hcd
  have HB := Aside0.mk (blk_new w (.cells #[.int .i64 0, .int .i64 0, .int .i64 0, .int .i64 0, .slice none 0 0] 80))
  have HKA := Aside0.mk (keep_alloc (KeepBut.refl w g none) (.cells #[.int .i64 0, .int .i64 0, .int .i64 0, .int .i64 0, .slice none 0 0] 80))
  have HG := Aside0.mk h.lt.1
  have HSZ := Aside0.mk (show w.heap.size < (w.alloc (.cells #[.int .i64 0, .int .i64 0, .int .i64 0, .int .i64 0, .slice none 0 0] 80)).heap.size by simp)
  have HK := Aside0.mk (show (k + 1) + f = 65 by omega)
  have hk64 : k ≤ 64 := by omega
  clear h hcw hcd hk
  go_enter Try.func146, Try.ntmps146
  go_wp2_with fail
  go_at_call 128
  have hkk : ((k : Int) + 1) = ((k + 1 : Nat) : Int) := by omega
  rw [hkk]
  have IH := ih
  unfold ExprRC at IH
  generalize w.alloc (.cells #[.int .i64 0, .int .i64 0, .int .i64 0, .int .i64 0, .slice none 0 0] 80) = W at H0 HB HKA HSZ ⊢
  with_reducible refine (IH w0 W g (k + 1) b s HK.out H0.out).mono ?_
  intro e W1 hp
  obtain ⟨cs, rfl, hM, hR, hKp⟩ := hp
  obtain ⟨v4, rfl, hv4⟩ := k80_openM hM
  obtain ⟨A4, c4, rfl⟩ := Kd.R_slice hv4
  have HR := Aside0.mk hR
  have HKW := Aside0.mk (HKA.out.trans hKp (.inl rfl))
  have HB1 := Aside0.mk (hKp.blk HB.out (by have := HG.out; omega) (by simp))
  have HV := Aside0.mk (Kd.R_lower (Kd.R_mono (Kd.R_bound hv4) (fun k_ (hk : _ ∧ W.heap.size ≤ k_ ∧ _) => (show k_ ≠ w.heap.size from by have := HSZ.out; have := hk.2.1; omega))) (show w.heap.size ≤ W.heap.size from HKA.out.1))
  obtain ⟨k0, k1, k2, k3, k4, f0, f1, f2, f3, f4⟩ := c5_ ⟨HB1.out⟩
  have hq := blk_lt HB1.out
  obtain ⟨x, hx⟩ : ∃ x, (exprR b f s).1 = x := ⟨_, rfl⟩
  rw [hx] at HV ⊢
  have HXX := Aside0.mk hx
  clear hM hR hKp hv4 hkk a0 hx
  go_wp2_with fail
  have hE := @item_end _ k80 Try.f146 2 80 (w0 := w0) (w := w) (wn := W1) (g := g) (q := w.heap.size) (b := b) (x := x) (s' := (exprR b f s).2) (cs0 := #[.int .i64 0, .int .i64 0, .int .i64 0, .int .i64 0, .slice none 0 0]) (cs := [.int .i64 x.f0, .int .i64 x.f1, .int .i64 x.f2, .int .i64 x.f3, .slice A4 x.f4.length c4])
  simp only [sets, Nat.zero_add, Nat.reduceAdd] at hE
  rw [HXX.out]
  exact hE _ rfl (by rfl) (by rfl) Try.underlying80 (by kernel_rfl) HB1.out rfl HR.out HKW.out (Nat.le_refl _) HG.out (k80_mkM _ _ _ x HV.out)
set_option maxHeartbeats 8000000 in
theorem expr_rs (f : Nat) (ih : ExprRC f) : ExprRC (f + 1) := by
  intro w0 w g k b s hk h
  have H0 := Aside0.mk (Box3.of h k)
  have HKF := Aside0.mk hk
  have hb64 : decide ((64 : Int) < (k : Int)) = false := decide_eq_false (by omega)
  obtain ⟨a, er, bd⟩ := s
  obtain ⟨A, c, hb, hge, hC, hcap⟩ := H0.out.rd.is
  have c1 := cellS151_1 hb
  have c2 := cellS151_2 hb
  have hlt := h.lt.1
  clear hb hge hC hcap h hk
  by_cases he : er = 0
  · have hb3 : (er != 0) = false := by simp [he]
    have HX := Aside0.mk (show exprR b (f + 1) ⟨a, er, bd⟩ = bodyR b (exprR b f) (intR b ⟨a, er, bd⟩).1 (intR b ⟨a, er, bd⟩).2 by rw [exprR]; rw [if_pos he])
    clear he
    go_enter Try.func128, Try.ntmps128
    go_upto_region 6 with (fail)
    generalize ((w.alloc (.cells #[.pointer (some ⟨g, 0, none⟩)] 149)).alloc (.cells #[.int .i64 k] 3)).alloc (.cells #[.int .i64 0, .int .i64 0, .int .i64 0, .int .i64 0, .slice none 0 0] 80) = W at H0 c1 c2 ⊢
    have a0 := (blk_cell H0.out.b0 0).trans rfl
    go_wp2_with fail
    go_at_call 93
    with_reducible refine (int_r H0.out.rd).mono ?_
    intro e W1 hp
    obtain ⟨rfl, hR, hK⟩ := hp
    obtain ⟨o, ho⟩ : ∃ o, (intR b ⟨a, er, bd⟩).1 = o := ⟨_, rfl⟩
    obtain ⟨s1, hs1⟩ : ∃ s1, (intR b ⟨a, er, bd⟩).2 = s1 := ⟨_, rfl⟩
    rw [ho]
    rw [hs1] at hR
    have HX1 := Aside0.mk (show exprR b (f + 1) ⟨a, er, bd⟩ = bodyR b (exprR b f) o s1 by rw [HX.out, ho, hs1])
    have HE := Aside0.mk (BoxE.new (H0.out.next hR hK) o)
    clear HX a0 c1 c2 hb3 hb64 hR hK ho hs1 H0
    go_upto_region 7 with (fail)
    generalize W1.alloc (.cells #[.int .i64 o, .int .i64 0, .int .i64 0, .int .i64 0, .slice none 0 0] 80) = W2 at HE ⊢
    generalize W1.heap.size = q at HE ⊢
    obtain ⟨a1, er1, bd1⟩ := s1
    obtain ⟨A, c, hb, hge, hC, hcap⟩ := HE.out.bx.rd.is
    have c1 := cellS151_1 hb
    clear hb hge hC hcap
    have a0 := (blk_cell HE.out.bx.b0 0).trans rfl
    go_wp2_with fail
    go_at_call 143
    with_reducible refine (byte_r HE.out.bx.rd).mono ?_
    intro e W3 hp
    obtain ⟨rfl, hR, hK⟩ := hp
    obtain ⟨y, hy⟩ : ∃ y, (byteR b ⟨a1, er1, bd1⟩).1 = y := ⟨_, rfl⟩
    obtain ⟨s2, hs2⟩ : ∃ s2, (byteR b ⟨a1, er1, bd1⟩).2 = s2 := ⟨_, rfl⟩
    rw [hy]
    rw [hs2] at hR
    have HSAY := Aside0.mk (show sayR b ⟨a1, er1, bd1⟩ = (y, if y > 15 then failR 71 a1 s2 else s2) by unfold sayR; rw [hy, hs2])
    have HE3 := Aside0.mk (HE.out.next hR hK)
    clear HE a0 c1 hR hK hy hs2
    have a0 := (blk_cell HE3.out.bx.b0 0).trans rfl
    go_upto_if 34 with (fail)
    go_cut [7] (fun s7 wc => s7 = .int .u8 y ∧ Aside0 (BoxE w0 w wc g k b (if y > 15 then failR 71 a1 s2 else s2) q o 0 0 0 (.slice none 0 0)))
    case first =>
      by_cases hy : y > 15
      · have hb1 : decide (15 < y) = true := decide_eq_true hy
        have HY := Aside0.mk (if_pos hy : (if y > 15 then failR 71 a1 s2 else s2) = _)
        have hy2 : 15 < y := hy
        clear hy
        go_wp2_with fail
        go_at_call 91
        with_reducible refine (fail_r HE3.out.bx.rd 71 a1).mono ?_
        intro e W4 hp
        obtain ⟨rfl, hR, hK⟩ := hp
        have HE4 := Aside0.mk (HE3.out.next hR hK)
        clear hR hK
        go_wp2_with fail
        go_meet
        exact ⟨rfl, ⟨by rw [HY.out]; exact HE4.out⟩⟩
      · have hb1 : decide (15 < y) = false := decide_eq_false hy
        have HY := Aside0.mk (if_neg hy : (if y > 15 then failR 71 a1 s2 else s2) = _)
        have hy2 : ¬ 15 < y := hy
        clear hy
        go_wp2_with fail
        go_meet
        exact ⟨rfl, ⟨by rw [HY.out]; exact HE3.out⟩⟩
    case rest =>
    obtain ⟨rfl, HE4⟩ := hcut
    clear HE3 a0
    obtain ⟨s3, hs3⟩ : ∃ s3, (if y > 15 then failR 71 a1 s2 else s2) = s3 := ⟨_, rfl⟩
    rw [hs3] at HE4 HSAY
    clear hs3
    have a0 := (blk_cell HE4.out.bx.b0 0).trans rfl
    go_wp2_with fail
    go_at_call 144
    with_reducible refine (given_r HE4.out.bx.rd y 1).mono ?_
    intro e V0 hp
    obtain ⟨rfl, hR, hK⟩ := hp
    obtain ⟨m0, hm⟩ : ∃ m, (givenR b y 1 s3).1 = m := ⟨_, rfl⟩
    obtain ⟨t0, ht⟩ : ∃ t, (givenR b y 1 s3).2 = t := ⟨_, rfl⟩
    rw [hm]
    rw [ht] at hR
    have HM0 := Aside0.mk hm
    have HT0 := Aside0.mk ht
    have G0 := Aside0.mk (HE4.out.next hR hK)
    clear a0 hR hK hm ht
    have a0 := (blk_cell G0.out.bx.b0 0).trans rfl
    have fe := (blk_cell G0.out.eb 1).trans rfl
    have ff_ := blk_frozen G0.out.eb 1
    have fl := blk_lt G0.out.eb
    go_upto_region 12 with (fail)
    have F0 := Aside0.mk (G0.out.set1 m0)
    clear a0 fe ff_ fl
    generalize V0.setCell ⟨q, 1, none⟩ (.int .i64 m0) = X0 at F0 ⊢
    have a0 := (blk_cell F0.out.bx.b0 0).trans rfl
    go_wp2_with fail
    go_at_call 144
    with_reducible refine (given_r F0.out.bx.rd y 2).mono ?_
    intro e V1 hp
    obtain ⟨rfl, hR, hK⟩ := hp
    obtain ⟨m1, hm⟩ : ∃ m, (givenR b y 2 t0).1 = m := ⟨_, rfl⟩
    obtain ⟨t1, ht⟩ : ∃ t, (givenR b y 2 t0).2 = t := ⟨_, rfl⟩
    rw [hm]
    rw [ht] at hR
    have HM1 := Aside0.mk hm
    have HT1 := Aside0.mk ht
    have G1 := Aside0.mk (F0.out.next hR hK)
    clear a0 hR hK hm ht
    have a0 := (blk_cell G1.out.bx.b0 0).trans rfl
    have fe := (blk_cell G1.out.eb 2).trans rfl
    have ff_ := blk_frozen G1.out.eb 2
    have fl := blk_lt G1.out.eb
    go_upto_region 13 with (fail)
    have F1 := Aside0.mk (G1.out.set2 m1)
    clear a0 fe ff_ fl
    generalize V1.setCell ⟨q, 2, none⟩ (.int .i64 m1) = X1 at F1 ⊢
    have a0 := (blk_cell F1.out.bx.b0 0).trans rfl
    go_wp2_with fail
    go_at_call 144
    with_reducible refine (given_r F1.out.bx.rd y 4).mono ?_
    intro e V2 hp
    obtain ⟨rfl, hR, hK⟩ := hp
    obtain ⟨m2, hm⟩ : ∃ m, (givenR b y 4 t1).1 = m := ⟨_, rfl⟩
    obtain ⟨t2, ht⟩ : ∃ t, (givenR b y 4 t1).2 = t := ⟨_, rfl⟩
    rw [hm]
    rw [ht] at hR
    have HM2 := Aside0.mk hm
    have HT2 := Aside0.mk ht
    have G2 := Aside0.mk (F1.out.next hR hK)
    clear a0 hR hK hm ht
    have a0 := (blk_cell G2.out.bx.b0 0).trans rfl
    have fe := (blk_cell G2.out.eb 3).trans rfl
    have ff_ := blk_frozen G2.out.eb 3
    have fl := blk_lt G2.out.eb
    go_upto_region 14 with (fail)
    have F2 := Aside0.mk (G2.out.set3 m2)
    clear a0 fe ff_ fl
    generalize V2.setCell ⟨q, 3, none⟩ (.int .i64 m2) = X2 at F2 ⊢
    obtain ⟨a4, er4, bd4⟩ := t2
    have HN := Aside0.mk (show numsR b y s3 = ((m0, m1, m2), ⟨a4, er4, bd4⟩) by unfold numsR; rw [HM0.out, HT0.out, HM1.out, HT1.out, HM2.out, HT2.out])
    have HX2 := Aside0.mk (show exprR b (f + 1) ⟨a, er, bd⟩ = (⟨o, m0, m1, m2, (argsR b (exprR b f) y ⟨a4, er4, bd4⟩).1⟩, (argsR b (exprR b f) y ⟨a4, er4, bd4⟩).2) by rw [HX1.out]; unfold bodyR; rw [HSAY.out]; simp only [HN.out])
    clear HX1 HSAY HN HM0 HT0 HM1 HT1 HM2 HT2 HE4 G0 G1 G2 F0 F1
    obtain ⟨A, c, hb, hge, hC, hcap⟩ := F2.out.bx.rd.is
    have c1 := cellS151_1 hb
    have c2 := cellS151_2 hb
    clear hb hge hC hcap
    have a0 := (blk_cell F2.out.bx.b0 0).trans rfl
    by_cases hz : bits .and .u8 y 8 = 0 ∨ ¬ er4 = 0
    · have HX3 := Aside0.mk (HX2.out.trans (by rw [show argsR b (exprR b f) y ⟨a4, er4, bd4⟩ = ([], ⟨a4, er4, bd4⟩) by unfold argsR; rw [if_pos hz]] : _ = ((⟨o, m0, m1, m2, []⟩ : S80), (⟨a4, er4, bd4⟩ : R3))))
      have hcase : ((bits BinOp.and IntKind.u8 y 8 != 0) = false) ∨ ((bits BinOp.and IntKind.u8 y 8 != 0) = true ∧ (er4 == 0) = false) := by
        by_cases h8 : bits .and .u8 y 8 = 0
        · exact .inl (by simp [h8])
        · exact .inr ⟨by simp [h8], by simpa using hz.resolve_left h8⟩
      clear hz HX2
      obtain ⟨ge0, ge1, ge2, ge3, ge4, _, _, _, _, _⟩ := c5_ ⟨F2.out.eb⟩
      obtain ⟨k0, k1, k2, k3, k4, f0, f1, f2, f3, f4⟩ := c5_ ⟨F2.out.bx.b2⟩
      have hq := blk_lt F2.out.bx.b2
      have hE := @Box3.end_ (cs := [.int .i64 o, .int .i64 m0, .int .i64 m1, .int .i64 m2, .slice none 0 0]) (x := (⟨o, m0, m1, m2, []⟩ : S80)) (h := F2.out.bx)
      simp only [sets, Nat.zero_add, Nat.reduceAdd] at hE
      have HEE := Aside0.mk hE
      clear hE
      rcases hcase with h8 | ⟨h8, h9⟩
      · go_wp2_with fail
        rw [HX3.out]
        exact HEE.out _ rfl rfl rfl (k80_mkM _ _ _ (⟨o, m0, m1, m2, []⟩ : S80) (Kd.R_nil _ _ _ _ _))
      · go_wp2_with fail
        rw [HX3.out]
        exact HEE.out _ rfl rfl rfl (k80_mkM _ _ _ (⟨o, m0, m1, m2, []⟩ : S80) (Kd.R_nil _ _ _ _ _))
    · have h8 : (bits BinOp.and IntKind.u8 y 8 != 0) = true := by
        by_cases h8 : bits .and .u8 y 8 = 0
        · exact absurd (.inl h8) hz
        · simp [h8]
      have h9 : (er4 == 0) = true := by
        by_cases h9 : er4 = 0
        · simp [h9]
        · exact absurd (.inr h9) hz
      obtain ⟨l, hl⟩ : ∃ l, listR b (exprR b f) ⟨a4, er4, bd4⟩ = l := ⟨_, rfl⟩
      have HX3 := Aside0.mk (HX2.out.trans (by rw [show argsR b (exprR b f) y ⟨a4, er4, bd4⟩ = (l.1, if l.1.length = 0 then failR 71 a4 l.2 else l.2) by unfold argsR; rw [if_neg hz, hl]] : _ = ((⟨o, m0, m1, m2, l.1⟩ : S80), (if l.1.length = 0 then failR 71 a4 l.2 else l.2))))
      clear hz HX2
      have HLI := Aside0.mk (list145 w0 X2 g w.heap.size (w.heap.size + 1) b ⟨a4, er4, bd4⟩ (fun w1 => w1.heap[w.heap.size]? = some (.cells #[.pointer (some ⟨g, 0, none⟩)] 149 (0, 0)) ∧ w1.heap[w.heap.size + 1]? = some (.cells #[.int .i64 k] 3 (0, 0))) (exprR b f) F2.out.bx.rd ⟨F2.out.bx.b0, F2.out.bx.b1⟩
        (fun w1 w2 h hk => ⟨(hk _ (blk_lt F2.out.bx.b0) (by have := F2.out.bx.lt; omega)).trans h.1, (hk _ (blk_lt F2.out.bx.b1) (by have := F2.out.bx.lt; omega)).trans h.2⟩)
        (fun s2 w2 hr hi _ => clos_r f ih w0 w2 g k _ _ b s2 HKF.out hr hi.1 hi.2))
      rw [hl] at HLI
      clear hl
      go_wp2_with fail
      go_at_call 145
      with_reducible refine HLI.out.mono ?_
      intro e Y hp
      obtain ⟨v, rfl, hv, hR, hK⟩ := hp
      have HLO := Aside0.mk (F2.out.lo)
      have HQS := Aside0.mk (blk_lt F2.out.eb)
      have HV := Aside0.mk (Kd.R_lower (Kd.R_mono (Kd.R_bound hv) (fun k_ (hk : _ ∧ X2.heap.size ≤ k_ ∧ _) => (show q < k_ from by have := HQS.out; have := hk.2.1; omega))) (show w.heap.size ≤ X2.heap.size from F2.out.bx.keep.1))
      obtain ⟨l1, l2⟩ := l
      obtain ⟨AL, cl, rfl⟩ := Kd.R_slice hv
      have Y0 := Aside0.mk (F2.out.next hR hK)
      have gf4 := blk_frozen Y0.out.eb 4
      have ge4 := (blk_cell Y0.out.eb 4).trans rfl
      have hql := blk_lt Y0.out.eb
      clear a0 c1 c2 hv hR hK HLI h8 h9
      go_upto_region 17 with (fail)
      have Y1 := Aside0.mk (Y0.out.set4 (.slice AL l1.length cl))
      have HV1 := Aside0.mk (Kd.R_far (p := ⟨q, 4, none⟩) HV.out (fun k_ hk => by show k_ ≠ q; omega) (.slice AL l1.length cl))
      clear gf4 ge4 hql HV Y0
      generalize Y.setCell ⟨q, 4, none⟩ (.slice AL l1.length cl) = Z at Y1 HV1 ⊢
      have ge4 := (blk_cell Y1.out.eb 4).trans rfl
      by_cases h0 : l1.length = 0
      · have hb0 : (l1.length == 0) = true := by simp [h0]
        have HX4 := Aside0.mk (HX3.out.trans (by rw [if_pos h0] : _ = ((⟨o, m0, m1, m2, l1⟩ : S80), failR 71 a4 l2)))
        have H0L := Aside0.mk h0
        clear h0 HX3
        have a0 := (blk_cell Y1.out.bx.b0 0).trans rfl
        go_wp2_with fail
        go_at_call 91
        with_reducible refine (fail_r Y1.out.bx.rd 71 a4).mono ?_
        intro e Z2 hp
        obtain ⟨rfl, hR, hK⟩ := hp
        have Y2 := Aside0.mk (Y1.out.next hR hK)
        have HV2 := Aside0.mk (Kd.R_keep HV1.out hK (fun k_ hk => by have := HLO.out; have := Y1.out.bx.lt; omega))
        clear hR hK a0 ge4 hb0
        obtain ⟨ge0, ge1, ge2, ge3, ge4, _, _, _, _, _⟩ := c5_ ⟨Y2.out.eb⟩
        obtain ⟨k0, k1, k2, k3, k4, f0, f1, f2, f3, f4⟩ := c5_ ⟨Y2.out.bx.b2⟩
        have hq := blk_lt Y2.out.bx.b2
        have hE := @Box3.end_ (cs := [.int .i64 o, .int .i64 m0, .int .i64 m1, .int .i64 m2, .slice AL l1.length cl]) (x := (⟨o, m0, m1, m2, l1⟩ : S80)) (h := Y2.out.bx)
        simp only [sets, Nat.zero_add, Nat.reduceAdd] at hE
        have HEE := Aside0.mk hE
        clear hE
        go_wp2_with fail
        rw [HX4.out]
        exact HEE.out _ rfl rfl rfl (k80_mkM _ _ _ (⟨o, m0, m1, m2, l1⟩ : S80) (Kd.R_mono HV2.out (fun k_ hk => by have := HLO.out; omega)))
      · have hb0 : (l1.length == 0) = false := by simp [h0]
        have HX4 := Aside0.mk (HX3.out.trans (by rw [if_neg h0] : _ = ((⟨o, m0, m1, m2, l1⟩ : S80), l2)))
        have H0L := Aside0.mk h0
        clear h0 HX3 ge4
        obtain ⟨ge0, ge1, ge2, ge3, ge4, _, _, _, _, _⟩ := c5_ ⟨Y1.out.eb⟩
        obtain ⟨k0, k1, k2, k3, k4, f0, f1, f2, f3, f4⟩ := c5_ ⟨Y1.out.bx.b2⟩
        have hq := blk_lt Y1.out.bx.b2
        have hE := @Box3.end_ (cs := [.int .i64 o, .int .i64 m0, .int .i64 m1, .int .i64 m2, .slice AL l1.length cl]) (x := (⟨o, m0, m1, m2, l1⟩ : S80)) (h := Y1.out.bx)
        simp only [sets, Nat.zero_add, Nat.reduceAdd] at hE
        have HEE := Aside0.mk hE
        clear hE
        go_wp2_with fail
        rw [HX4.out]
        exact HEE.out _ rfl rfl rfl (k80_mkM _ _ _ (⟨o, m0, m1, m2, l1⟩ : S80) (Kd.R_mono HV1.out (fun k_ hk => by have := HLO.out; omega)))
  · have hb3 : (er != 0) = true := by simp [he]
    have HX := Aside0.mk (show exprR b (f + 1) ⟨a, er, bd⟩ = (z80, ⟨a, er, bd⟩) by rw [exprR]; rw [if_neg he])
    clear he
    go_enter Try.func128, Try.ntmps128
    go_upto_region 2 with (fail)
    generalize ((w.alloc (.cells #[.pointer (some ⟨g, 0, none⟩)] 149)).alloc (.cells #[.int .i64 k] 3)).alloc (.cells #[.int .i64 0, .int .i64 0, .int .i64 0, .int .i64 0, .slice none 0 0] 80) = W at H0 c1 c2 ⊢
    obtain ⟨k0, k1, k2, k3, k4, f0, f1, f2, f3, f4⟩ := c5_ ⟨H0.out.b2⟩
    have hq := blk_lt H0.out.b2
    go_wp2_with fail
    rw [HX.out]
    have hE := @Box3.end_ (cs := [.int .i64 0, .int .i64 0, .int .i64 0, .int .i64 0, .slice none 0 0]) (x := z80) (h := H0.out)
    simp only [sets, Nat.zero_add, Nat.reduceAdd] at hE
    exact hE _ rfl rfl rfl (z80_M _ _ _)
theorem expr_rc : ∀ f, ExprRC f
  | 0 => expr_r0
  | f + 1 => expr_rs f (expr_rc f)
theorem expr_r {w0 w : World} {g : Nat} {b : List Int} {s : R3} (h : Rd w0 w g b s) : Calls Try.prog 128 #[.pointer (some ⟨g, 0, none⟩), .int .i64 1] w (IP k80 w0 g b (exprR b 64 s).1 (exprR b 64 s).2 w) := expr_rc 64 w0 w g 1 b s rfl h
end Go.Proofs.Ytpbdkkahodaloaa.V
end

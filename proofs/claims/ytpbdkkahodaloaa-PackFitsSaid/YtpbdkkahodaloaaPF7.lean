-- Part 7 of the texts of the claim PF (wrote by programs: words of the kit's print.sh, printed functions; and my own texts; joined by wip/tools/pack.py).
import Derived.Test.YtpbdkkahodaloaaPF6
import Derived.Laws.BitsAllLaws

section
namespace Go.Proofs.Ytpbdkkahodaloaa.U
open Go.RowKit Go.Lib Go.Proofs.Ytpbdkkahodaloaa.PS Go.Proofs.YtpbdkkahodaloaaW.PrintWords Go.Proofs.YtpbdkkahodaloaaW.PrintMore
set_option linter.unusedVariables false
set_option maxRecDepth 100000
def seven (n : Nat) : List Int := if n < 128 then [(n : Int)] else ((n % 128 + 128 : Nat) : Int) :: seven (n / 128)
termination_by n
theorem seven_low {n : Nat} (h : n < 128) : seven n = [(n : Int)] := by rw [seven, if_pos h]
theorem seven_high {n : Nat} (h : ¬ n < 128) : seven n = ((n % 128 + 128 : Nat) : Int) :: seven (n / 128) := by rw [seven, if_neg h]
theorem seven_len : ∀ (k n : Nat), n < 128 ^ (k + 1) → (seven n).length ≤ k + 1
  | 0, n, h => by rw [seven_low (by omega)]; simp
  | k + 1, n, h => by
    by_cases hs : n < 128
    · rw [seven_low hs]; simp
    · rw [seven_high hs, List.length_cons]
      have := seven_len k (n / 128) (by rw [Nat.pow_succ] at h; omega)
      omega
theorem seven_ten {n : Nat} (h : n < 18446744073709551616) : (seven n).length ≤ 10 := seven_len 9 n (by rw [show (128 : Nat) ^ (9 + 1) = 1180591620717411303424 by decide]; omega)
theorem or128 (m : Nat) : bits BinOp.or IntKind.u8 ((m : Int) % 256) 128 = ((m % 128 + 128 : Nat) : Int) := by
  have h : ∀ x : Fin 256, bits BinOp.or IntKind.u8 ((x.val : Nat) : Int) 128 = ((x.val % 128 + 128 : Nat) : Int) := by decide +kernel
  have h2 := h ⟨m % 256, by omega⟩
  simp only at h2
  rw [show ((m : Int) % 256) = ((m % 256 : Nat) : Int) by omega, h2]
  omega
theorem one_new (w : World) (v : Int) (x : Int) (hx : v = x) (t : TypeId) : ∀ j u, (nums .u8 [x])[j]? = some u → (w.alloc (.cells #[.int .u8 v] t)).cell? ((⟨w.heap.size, 0, none⟩ : Addr).add j) = some u := by
  subst hx
  simpa [nums] using World.news_of_block (cs := #[Value.int .u8 v]) (t := t) (fr := (0, 0)) (heap_alloc_new w _)
structure NumR (w : World) (base : World) (g r : Nat) (xs : List Int) (d : Bool) (n : Nat) (m : Nat) (wr : World) (zs : List Int) (r1 : Nat) : Prop where
  is : Wr wr base g r1 (xs ++ zs) d
  kp : Kp g r w wr
  row : r1 = r ∨ w.heap.size ≤ r1
  all : zs ++ seven m = seven n
  lt : m < 18446744073709551616
def NumRel (w : World) (base : World) (g r : Nat) (xs : List Int) (d : Bool) (n : Nat) (v : Value) (wr : World) : Prop := ∃ m zs r1, v = .int .u64 (m : Nat) ∧ NumR w base g r xs d n m wr zs r1
theorem NumR.last {w : World} {base : World} {g r : Nat} {xs : List Int} {d : Bool} {n m : Nat} {wr w3 : World} {zs : List Int} {r1 r' q c : Nat} (h : NumR w base g r xs d n m wr zs r1) (hm : m < 128) (hg : Grew wr w3 base g r1 r' q c (xs ++ zs ++ [(m : Int)]) d) :
    WPost base g r (xs ++ seven n) d w (.returned (.tuple #[])) (w3.setCell ⟨g, 0, none⟩ (.slice (some ⟨r', 0, none⟩) q c)) := by
  refine ⟨rfl, r', ?_, h.kp.trans hg.kp h.row, ?_⟩
  · rw [← h.all, seven_low hm, ← List.append_assoc]; exact hg.wr
  · have := h.kp.size; have := h.row; have := hg.row; omega
theorem NumR.next {w : World} {base : World} {g r : Nat} {xs : List Int} {d : Bool} {n m : Nat} {wr w3 : World} {zs : List Int} {r1 r' q c : Nat} (h : NumR w base g r xs d n m wr zs r1) (hm : ¬ m < 128) (hg : Grew wr w3 base g r1 r' q c (xs ++ zs ++ [((m % 128 + 128 : Nat) : Int)]) d) :
    NumR w base g r xs d n (m / 128) (w3.setCell ⟨g, 0, none⟩ (.slice (some ⟨r', 0, none⟩) q c)) (zs ++ [((m % 128 + 128 : Nat) : Int)]) r' := by
  refine ⟨?_, h.kp.trans hg.kp h.row, ?_, ?_, ?_⟩
  · rw [← List.append_assoc]; exact hg.wr
  · have := h.kp.size; have := h.row; have := hg.row; omega
  · rw [← h.all, seven_high hm, List.append_assoc]; rfl
  · have := h.lt; omega
set_option maxHeartbeats 1000000 in
theorem number_calls (base : World) (g r : Nat) (xs : List Int) (d : Bool) (n : Nat) (w : World) (h : Wr w base g r xs d) (hn : n < 18446744073709551616) (hl : (xs ++ seven n).length ≤ LIM) :
    Calls Try.prog 113 #[.pointer (some ⟨g, 0, none⟩), .int .u64 n] w (WPost base g r (xs ++ seven n) d w) := by
  have H0 := Aside0.mk h
  have HN := Aside0.mk hn
  have HL := Aside0.mk hl
  clear h hn hl
  go_enter Try.func113, Try.ntmps113
  go_wp2
  go_loopw [1] (fun v wr => NumRel w base g r xs d n v wr) (fun v _ => (intOf v).toNat)
  case atStart => exact ⟨n, [], r, rfl, by simpa using H0.out, Kp.refl _ _ _, .inl rfl, by simp, HN.out⟩
  case round =>
    obtain ⟨m, zs, r1, rfl, hR⟩ := hrel
    have HM := Aside0.mk hR.lt
    obtain ⟨c0, hc0, hc1, hf0, hf1, ho⟩ := hR.is.open
    obtain ⟨q, hq⟩ : ∃ q, (xs ++ zs).length = q := ⟨_, rfl⟩
    rw [hq] at hc0 ho
    have HO := Aside0.mk ho
    have HR := Aside0.mk hR
    have HQ := Aside0.mk hq
    clear ho hR hq
    have HS := Aside0.mk (show q + 1 ≤ LIM from by
      have h1 := HL.out
      have h2 := congrArg List.length HR.out.all
      have h4 := HQ.out
      have h5 : 1 ≤ (seven m).length := by rw [seven]; split <;> simp
      rw [List.length_append] at h1 h2 h4
      omega)
    by_cases hm : m < 128
    · have hb : decide ((128 : Int) ≤ (m : Int)) = false := decide_eq_false (by omega)
      go_wp2_with (at_builtin; refine wpList_put rfl _ _ rfl HR.out.is (below_alloc (Below.refl _ _) _) HQ.out HO.out rfl ⟨wr.heap.size, 0, none⟩ 1 1 [(m : Int)] rfl rfl (one_new _ _ _ rfl _) HS.out (by decide) ?_; intro r' c' w3 HG; obtain ⟨u0, hu0⟩ := HG.c0; have hz0 := HG.f0)
      go_end0
      exact NumR.last HR.out hm HG
    · have hb : decide ((128 : Int) ≤ (m : Int)) = true := decide_eq_true (by omega)
      go_wp2_with (at_builtin; refine wpList_put rfl _ _ rfl HR.out.is (below_alloc (Below.refl _ _) _) HQ.out HO.out rfl ⟨wr.heap.size, 0, none⟩ 1 1 [((m % 128 + 128 : Nat) : Int)] rfl rfl (one_new _ _ _ (or128 m) _) HS.out (by decide) ?_; intro r' c' w3 HG; obtain ⟨u0, hu0⟩ := HG.c0; have hz0 := HG.f0)
      go_roundw
      case rel => exact ⟨m / 128, _, r', by simp, HR.out.next hm HG⟩
      case measure => simp [intOf]; omega
def zig (n : Int) : Nat := if 0 ≤ n then (2 * n).toNat else (-2 * n - 1).toNat
theorem zig_lt {n : Int} (h0 : -9223372036854775808 ≤ n) (h1 : n ≤ 9223372036854775807) : zig n < 18446744073709551616 := by unfold zig; split <;> omega
theorem nat_flip (x : Nat) (h : x < 18446744073709551616) : x ^^^ 18446744073709551615 = 18446744073709551615 - x := by
  have h1 : (BitVec.ofNat 64 x ^^^ BitVec.allOnes 64) = ~~~ (BitVec.ofNat 64 x) := BitVec.xor_allOnes
  have h2 := congrArg BitVec.toNat h1
  rw [BitVec.toNat_xor, BitVec.toNat_not, BitVec.toNat_ofNat, BitVec.toNat_allOnes, Nat.mod_eq_of_lt (by omega)] at h2
  exact h2
theorem zig_is (n : Int) (h0 : -9223372036854775808 ≤ n) (h1 : n ≤ 9223372036854775807) : bits BinOp.xor IntKind.u64 (IntKind.u64.wrap (IntKind.u64.wrap n * 2)) (IntKind.u64.wrap (n / 9223372036854775808)) = ((zig n : Nat) : Int) := by
  by_cases hn : 0 ≤ n
  · rw [show n / 9223372036854775808 = 0 by omega, show IntKind.u64.wrap n = n by rw [IntKind.wrap_u64]; omega, show IntKind.u64.wrap (n * 2) = ((zig n : Nat) : Int) by rw [IntKind.wrap_u64]; unfold zig; rw [if_pos hn]; omega, show IntKind.u64.wrap 0 = ((0 : Nat) : Int) by rfl, u64_xor_nat _ _ (zig_lt h0 h1) (by omega)]
    simp
  · have e : IntKind.u64.wrap (IntKind.u64.wrap n * 2) = (((2 * n + 18446744073709551616).toNat : Nat) : Int) := by rw [IntKind.wrap_u64, IntKind.wrap_u64]; omega
    rw [show n / 9223372036854775808 = -1 by omega, e, show IntKind.u64.wrap (-1) = ((18446744073709551615 : Nat) : Int) by rfl, u64_xor_nat _ _ (by omega) (by omega), nat_flip _ (by omega)]
    unfold zig
    rw [if_neg hn]
    omega
set_option maxHeartbeats 1000000 in
theorem int_calls (base : World) (g r : Nat) (xs : List Int) (d : Bool) (n : Int) (w : World) (h : Wr w base g r xs d) (h0 : -9223372036854775808 ≤ n) (h1 : n ≤ 9223372036854775807) (hl : (xs ++ seven (zig n)).length ≤ LIM) :
    Calls Try.prog 43 #[.pointer (some ⟨g, 0, none⟩), .int .i64 n] w (WPost base g r (xs ++ seven (zig n)) d w) := by
  have H0 := Aside0.mk h
  have HL := Aside0.mk hl
  have HZ := Aside0.mk (zig_is n h0 h1)
  have HT := Aside0.mk (zig_lt h0 h1)
  clear h hl
  go_enter Try.func43, Try.ntmps43
  go_wp2_with fail
  go_at_call 113
  rw [HZ.out]
  refine (number_calls base g r xs d (zig n) w H0.out HT.out HL.out).mono ?_
  rintro e w' ⟨rfl, HP⟩
  go_wp2_with fail
  go_end0
  exact ⟨rfl, HP⟩
set_option maxHeartbeats 1000000 in
theorem text_calls (base : World) (g r : Nat) (xs : List Int) (d : Bool) (s : ByteArray) (w : World) (h : Wr w base g r xs d) (hl : (xs ++ (seven s.size ++ bytesOf s)).length ≤ LIM) :
    Calls Try.prog 42 #[.pointer (some ⟨g, 0, none⟩), .string s] w (WPost base g r (xs ++ (seven s.size ++ bytesOf s)) d w) := by
  have H0 := Aside0.mk h
  have HL := Aside0.mk hl
  have HT := Aside0.mk (show s.size < 18446744073709551616 by rw [List.length_append, List.length_append, bytesOf_length] at hl; unfold LIM at hl; omega)
  have HV := Aside0.mk (show IntKind.u64.wrap (s.size : Int) = ((s.size : Nat) : Int) by rw [IntKind.wrap_u64]; have := HT.out; omega)
  clear h hl
  go_enter Try.func42, Try.ntmps42
  go_wp2_with fail
  go_at_call 113
  rw [HV.out]
  refine (number_calls base g r xs d s.size w H0.out HT.out (by have := HL.out; simp only [List.length_append] at this ⊢; omega)).mono ?_
  rintro e w1 ⟨rfl, r1, hw1, hk1, hr1⟩
  obtain ⟨c0, hc0, hc1, hf0, hf1, ho⟩ := hw1.open
  obtain ⟨q, hq⟩ : ∃ q, (xs ++ seven s.size).length = q := ⟨_, rfl⟩
  rw [hq] at hc0 ho
  have HO := Aside0.mk ho
  have HQ := Aside0.mk hq
  have H1 := Aside0.mk hw1
  have HK := Aside0.mk hk1
  have HR := Aside0.mk hr1
  have HS := Aside0.mk (show q + s.size ≤ LIM by rw [← hq]; have := HL.out; simp only [List.length_append, bytesOf_length] at this ⊢; omega)
  clear ho hq hw1 hk1 hr1
  go_wp2_with (at_builtin; refine wpList_putText rfl _ _ rfl H1.out (Below.refl _ _) HQ.out HO.out rfl s rfl HS.out ?_; intro r' c' w3 HG; obtain ⟨u0, hu0⟩ := HG.c0; have hz0 := HG.f0)
  go_end0
  refine ⟨rfl, r', ?_, HK.out.trans HG.kp HR.out, ?_⟩
  · rw [← List.append_assoc]; exact HG.wr
  · have := HK.out.size; have := HR.out; have := HG.row; omega
set_option maxHeartbeats 1000000 in
theorem flag_calls (base : World) (g r : Nat) (xs : List Int) (d : Bool) (b : Bool) (w : World) (h : Wr w base g r xs d) (hl : (xs ++ [if b = true then (1 : Int) else 0]).length ≤ LIM) :
    Calls Try.prog 114 #[.pointer (some ⟨g, 0, none⟩), .bool b] w (WPost base g r (xs ++ [if b = true then 1 else 0]) d w) := by
  obtain ⟨c0, hc0, hc1, hf0, hf1, ho⟩ := h.open
  obtain ⟨q, hq⟩ : ∃ q, xs.length = q := ⟨_, rfl⟩
  rw [hq] at hc0 ho
  have HO := Aside0.mk ho
  have HQ := Aside0.mk hq
  have H0 := Aside0.mk h
  have HS := Aside0.mk (show q + 1 ≤ LIM by rw [← hq]; simpa using hl)
  clear h hl ho hq
  cases b with
  | true =>
    go_enter Try.func114, Try.ntmps114
    go_wp2_with (at_builtin; refine wpList_put rfl _ _ rfl H0.out (below_alloc (Below.refl _ _) _) HQ.out HO.out rfl ⟨w.heap.size, 0, none⟩ 1 1 [1] rfl rfl (one_new _ _ _ rfl _) HS.out (by decide) ?_; intro r' c' w3 HG; obtain ⟨u0, hu0⟩ := HG.c0; have hz0 := HG.f0)
    exact bodyPost_ret (results_none rfl _ _ _) rfl HG.post
  | false =>
    go_enter Try.func114, Try.ntmps114
    go_wp2_with (at_builtin; refine wpList_put rfl _ _ rfl H0.out (below_alloc (Below.refl _ _) _) HQ.out HO.out rfl ⟨w.heap.size, 0, none⟩ 1 1 [0] rfl rfl (one_new _ _ _ rfl _) HS.out (by decide) ?_; intro r' c' w3 HG; obtain ⟨u0, hu0⟩ := HG.c0; have hz0 := HG.f0)
    go_end0
    exact HG.post
end Go.Proofs.Ytpbdkkahodaloaa.U
end

section
namespace Go.Proofs.Ytpbdkkahodaloaa.U
open Go.RowKit Go.Lib Go.Proofs.Ytpbdkkahodaloaa.PS Go.Proofs.YtpbdkkahodaloaaW.PrintWords Go.Proofs.YtpbdkkahodaloaaW.PrintMore
set_option linter.unusedVariables false
structure St (base : World) (g r : Nat) (w : World) (xs : List Int) (d : Bool) (r' : Nat) (w' : World) : Prop where
  wr : Wr w' base g r' xs d
  kp : Kp g r w w'
  row : r' = r ∨ w.heap.size ≤ r'
theorem St.refl {base : World} {g r : Nat} {w : World} {xs : List Int} {d : Bool} (h : Wr w base g r xs d) : St base g r w xs d r w := ⟨h, Kp.refl _ _ _, .inl rfl⟩
theorem St.alloc {base : World} {g r r' : Nat} {w w' : World} {xs : List Int} {d : Bool} (h : St base g r w xs d r' w') (o : Obj) : St base g r w xs d r' (w'.alloc o) := ⟨h.wr.alloc o, h.kp.alloc o, h.row⟩
theorem St.drewN {base : World} {g r r' : Nat} {w w' : World} {xs : List Int} {d : Bool} (h : St base g r w xs d r' w') (n : Nat) : St base g r w xs d r' (w'.drewN n) := ⟨h.wr.drewN n, h.kp.drewN n, h.row⟩
theorem St.trans {base : World} {g r r1 r2 : Nat} {w w1 w2 : World} {xs ys : List Int} {d d2 : Bool} (h : St base g r w xs d r1 w1) (k : St base g r1 w1 ys d2 r2 w2) : St base g r w ys d2 r2 w2 :=
  ⟨k.wr, h.kp.trans k.kp h.row, by have := h.kp.size; have := h.row; have := k.row; omega⟩
theorem WPost.st {base : World} {g r : Nat} {xs : List Int} {d : Bool} {w w' : World} {e : Ending} (h : WPost base g r xs d w e w') : ∃ r', St base g r w xs d r' w' := by
  obtain ⟨_, r', h1, h2, h3⟩ := h
  exact ⟨r', h1, h2, h3⟩
theorem Grew.st {base : World} {g r r' n c : Nat} {w w3 : World} {xs : List Int} {d : Bool} (h : Grew w w3 base g r r' n c xs d) : St base g r w xs d r' (w3.setCell ⟨g, 0, none⟩ (.slice (some ⟨r', 0, none⟩) n c)) := ⟨h.wr, h.kp, h.row⟩
theorem WPost.ret {base : World} {g r : Nat} {xs : List Int} {d : Bool} {w w' : World} {e : Ending} (h : WPost base g r xs d w e w') : e = .returned (.tuple #[]) := h.1
theorem St.post {base : World} {g r r' : Nat} {xs ys : List Int} {d d2 : Bool} {w w' : World} (h : St base g r w xs d r' w') (he : xs = ys) (hd : d = d2) : WPost base g r ys d2 w (.returned (.tuple #[])) w' := by
  subst he; subst hd
  exact ⟨rfl, r', h.wr, h.kp, h.row⟩
structure Cap (w : World) (g r b : Nat) (cs : Array Value) (t : TypeId) : Prop where
  blk : w.heap[b]? = some (.cells cs t (0, 0))
  ne : b ≠ g
  row : b ≠ r
theorem Cap.st {base : World} {g r r' b : Nat} {w w' : World} {cs : Array Value} {t : TypeId} {xs : List Int} {d : Bool} (h : Cap w g r b cs t) (s : St base g r w xs d r' w') : Cap w' g r' b cs t :=
  ⟨s.kp.blk h.blk h.ne h.row, h.ne, by have := blk_lt h.blk; have := h.row; have := s.row; omega⟩
theorem Cap.alloc {g r b : Nat} {w : World} {cs : Array Value} {t : TypeId} (h : Cap w g r b cs t) (o : Obj) : Cap (w.alloc o) g r b cs t := ⟨blk_alloc h.blk o, h.ne, h.row⟩
theorem Cap.new {base : World} {g r : Nat} {w : World} {xs : List Int} {d : Bool} (h : Wr w base g r xs d) (cs : Array Value) (t : TypeId) : Cap (w.alloc (.cells cs t)) g r w.heap.size cs t :=
  ⟨blk_new w _, by have := h.lt; omega, by have := h.lt; omega⟩
theorem Cap.cell {g r b : Nat} {w : World} {cs : Array Value} {t : TypeId} (h : Cap w g r b cs t) (i : Nat) {v : Value} (hv : cs[i]? = some v) : w.cell? ⟨b, i, none⟩ = some v := (blk_cell h.blk i).trans hv
theorem Cap.lt {g r b : Nat} {w : World} {cs : Array Value} {t : TypeId} (h : Cap w g r b cs t) : b < w.heap.size := blk_lt h.blk
theorem lim_left {xs a b : List Int} (h : (xs ++ (a ++ b)).length ≤ LIM) : (xs ++ a).length ≤ LIM := by simp only [List.length_append] at h ⊢; omega
theorem lim_right {xs a b : List Int} (h : (xs ++ (a ++ b)).length ≤ LIM) : ((xs ++ a) ++ b).length ≤ LIM := by rw [List.append_assoc]; exact h
def encText (s : ByteArray) : List Int := seven s.size ++ bytesOf s
def encInt (n : Int) : List Int := seven (zig n)
def encFlag (b : Bool) : List Int := [if b = true then 1 else 0]
def encList {α : Type} (enc : α → List Int) (l : List α) : List Int := seven l.length ++ l.flatMap enc
def encBand (b : S74) : List Int := encInt b.f0 ++ encInt b.f1
def encOptions (o : S97) : List Int := encText o.f0 ++ encList encText o.f1
def encTable (t : S72) : List Int := encText t.f0 ++ encList encBand t.f1
def encGroup (g : S69) : List Int := encText g.f0 ++ encInt g.f1
structure i64 (n : Int) : Prop where
  lo : -9223372036854775808 ≤ n
  hi : n ≤ 9223372036854775807
theorem St.next {base : World} {g r r1 : Nat} {w w1 w2 : World} {xs ys : List Int} {d d2 : Bool} {e : Ending} (h : St base g r w xs d r1 w1) (hp : WPost base g r1 ys d2 w1 e w2) : e = .returned (.tuple #[]) ∧ ∃ r2, St base g r1 w1 ys d2 r2 w2 ∧ St base g r w ys d2 r2 w2 := by
  obtain ⟨r2, k⟩ := hp.st
  exact ⟨hp.1, r2, k, h.trans k⟩
theorem int_c {base : World} {g r r1 : Nat} {w0 : World} {xs : List Int} {d : Bool} {w : World} (h : St base g r w0 xs d r1 w) {n : Int} (hn : i64 n) (hl : (xs ++ encInt n).length ≤ LIM) :
    Calls Try.prog 43 #[.pointer (some ⟨g, 0, none⟩), .int .i64 n] w (WPost base g r1 (xs ++ encInt n) d w) := int_calls base g r1 xs d n w h.wr hn.lo hn.hi hl
theorem text_c {base : World} {g r r1 : Nat} {w0 : World} {xs : List Int} {d : Bool} {w : World} (h : St base g r w0 xs d r1 w) {s : ByteArray} (hl : (xs ++ encText s).length ≤ LIM) :
    Calls Try.prog 42 #[.pointer (some ⟨g, 0, none⟩), .string s] w (WPost base g r1 (xs ++ encText s) d w) := text_calls base g r1 xs d s w h.wr hl
theorem flag_c {base : World} {g r r1 : Nat} {w0 : World} {xs : List Int} {d : Bool} {w : World} (h : St base g r w0 xs d r1 w) {b : Bool} (hl : (xs ++ encFlag b).length ≤ LIM) :
    Calls Try.prog 114 #[.pointer (some ⟨g, 0, none⟩), .bool b] w (WPost base g r1 (xs ++ encFlag b) d w) := flag_calls base g r1 xs d b w h.wr hl
structure PutR {α : Type} (base : World) (g r : Nat) (w : World) (I : Nat → World → Prop) (enc : α → List Int) (dp : α → Bool) (l : List α) (xs : List Int) (d : Bool) (i : Nat) (r1 : Nat) (wr : World) : Prop where
  le : i ≤ l.length
  st : St base g r w (xs ++ seven l.length ++ (l.take i).flatMap enc) (d || (l.take i).any dp) r1 wr
  inv : I r1 wr
theorem PutR.next {α : Type} {base : World} {g r : Nat} {w : World} {I : Nat → World → Prop} {enc : α → List Int} {dp : α → Bool} {l : List α} {xs : List Int} {d : Bool} {i r1 r2 : Nat} {wr w2 : World} {x : α} (h : PutR base g r w I enc dp l xs d i r1 wr)
    (hx : l[i]? = some x) (s : St base g r1 wr ((xs ++ seven l.length ++ (l.take i).flatMap enc) ++ enc x) ((d || (l.take i).any dp) || dp x) r2 w2) (hI : I r2 w2) : PutR base g r w I enc dp l xs d (i + 1) r2 w2 := by
  have hl := (List.getElem?_eq_some_iff.1 hx).1
  have ht : l.take (i + 1) = l.take i ++ [x] := by rw [List.take_add_one, hx]; rfl
  refine ⟨hl, ?_, hI⟩
  have k := h.st.trans s
  rw [ht, List.flatMap_append, List.any_append]
  simpa [Bool.or_assoc, List.append_assoc] using k
theorem PutR.room {α : Type} {base : World} {g r : Nat} {w : World} {I : Nat → World → Prop} {enc : α → List Int} {dp : α → Bool} {l : List α} {xs : List Int} {d : Bool} {i r1 : Nat} {wr : World} {x : α} (h : PutR base g r w I enc dp l xs d i r1 wr)
    (hx : l[i]? = some x) (hl : (xs ++ encList enc l).length ≤ LIM) : ((xs ++ seven l.length ++ (l.take i).flatMap enc) ++ enc x).length ≤ LIM := by
  have e : l.flatMap enc = (l.take i).flatMap enc ++ (enc x ++ (l.drop (i + 1)).flatMap enc) := by
    conv => lhs; rw [← List.take_append_drop i l]
    rw [List.flatMap_append]
    congr 1
    have hl := (List.getElem?_eq_some_iff.1 hx).1
    rw [List.drop_eq_getElem_cons hl, List.flatMap_cons]
    congr 2
    exact (List.getElem?_eq_some_iff.1 hx).2
  unfold encList at hl
  rw [e] at hl
  simp only [List.length_append] at hl ⊢
  omega
theorem PutR.done {α : Type} {base : World} {g r : Nat} {w : World} {I : Nat → World → Prop} {enc : α → List Int} {dp : α → Bool} {l : List α} {xs : List Int} {d : Bool} {i r1 : Nat} {wr : World} (h : PutR base g r w I enc dp l xs d i r1 wr) (hi : ¬ i < l.length) :
    WPost base g r (xs ++ encList enc l) (d || l.any dp) w (.returned (.tuple #[])) wr := by
  refine h.st.post ?_ ?_
  · rw [List.take_of_length_le (by omega), List.append_assoc]; rfl
  · rw [List.take_of_length_le (by omega)]
end Go.Proofs.Ytpbdkkahodaloaa.U
end

section
namespace Go.Proofs.Ytpbdkkahodaloaa.U
open Go.RowKit Go.Lib Go.Proofs.Ytpbdkkahodaloaa.PS Go.Proofs.YtpbdkkahodaloaaW.PrintWords Go.Proofs.YtpbdkkahodaloaaW.PrintMore
set_option linter.unusedVariables false
set_option maxRecDepth 100000
theorem old_cell {w w1 : World} (h : Below w.heap.size w w1) {a : Addr} {v : Value} (hc : w.cell? a = some v) : w1.cell? a = some v := (h.cell (World.block_lt_of_cell? w a hc)).trans hc
set_option maxHeartbeats 2000000 in
theorem put49 (base : World) (g r n c : Nat) (A : Option Addr) (l : List S74) (xs : List Int) (d : Bool) (w : World) (I : Nat → World → Prop) (dp : S74 → Bool) (enc : S74 → List Int) (hn : l.length = n) (hC : Kd.C k74 base A n l) (h : Wr w base g r xs d) (hI0 : I r w)
    (hI : ∀ (r1 : Nat) (w1 : World) (r2 : Nat) (w2 : World) (ys : List Int) (d2 : Bool), I r1 w1 → St base g r1 w1 ys d2 r2 w2 → I r2 w2) (hl : (xs ++ encList enc l).length ≤ LIM)
    (item : ∀ (x : S74) (ys : List Int) (d1 : Bool) (r1 : Nat) (w1 : World), x ∈ l → Wr w1 base g r1 ys d1 → I r1 w1 → (ys ++ enc x).length ≤ LIM → Calls Try.prog 50 #[.pointer (some ⟨g, 0, none⟩), .agg #[.int .i64 x.f0, .int .i64 x.f1]] w1 (WPost base g r1 (ys ++ enc x) (d1 || dp x) w1)) :
    Calls Try.prog 49 #[.pointer (some ⟨g, 0, none⟩), .slice A n c, .func (.func 50) #[.pointer (some ⟨g, 0, none⟩)] #[]] w (WPost base g r (xs ++ encList enc l) (d || l.any dp) w) := by
  have HN := Aside0.mk hn
  have HC := Aside0.mk hC
  have H0 := Aside0.mk h
  have HI0 := Aside0.mk hI0
  have HI := Aside0.mk hI
  have HL := Aside0.mk hl
  have HIT := Aside0.mk item
  have hmax : n ≤ 9223372036854775807 := hC.2.1
  clear hn hC h hI0 hI hl item
  go_enter Try.func49, Try.ntmps49
  go_wp2_with fail
  go_at_call 113
  with_reducible refine (number_calls base g r xs d n w H0.out (by omega) (by have := HL.out; unfold encList at this; rw [HN.out] at this; exact lim_left this)).mono ?_
  intro e w1 hp
  obtain ⟨rfl, r1, hs, ht⟩ := (St.refl H0.out).next hp
  have H1 := Aside0.mk ht
  have HI1 := Aside0.mk (HI.out r w r1 w1 _ _ HI0.out ht)
  clear hp hs ht
  go_wp2_with fail
  go_loopw [15] (fun v wr => ∃ (i r2 : Nat), v = .int .i64 (i : Nat) ∧ Aside0 (PutR base g r w I enc dp l xs d i r2 wr)) (fun v _ => n - (intOf v).toNat)
  case atStart => exact ⟨0, r1, rfl, ⟨⟨Nat.zero_le _, by rw [HN.out]; simpa using H1.out, HI1.out⟩⟩⟩
  case round =>
    obtain ⟨i, r2, rfl, HP⟩ := hrel
    by_cases hlt : i < n
    · obtain ⟨x, hx⟩ : ∃ x, l[i]? = some x := ⟨_, List.getElem?_eq_getElem (by rw [HN.out]; exact hlt)⟩
      have HX := Aside0.mk hx
      obtain ⟨ad, hA, e0, e1⟩ := at_T74 HC.out (i : Int) (by omega) (by omega)
      have hrd : rd_T74 l (i : Int) = x := by unfold rd_T74; rw [Int.toNat_natCast, List.getD_eq_getElem?_getD, hx]; rfl
      rw [hrd] at e0 e1
      rw [Int.toNat_natCast] at e0 e1
      clear hrd
      replace e0 := old_cell HP.out.st.wr.dat e0
      replace e1 := old_cell HP.out.st.wr.dat e1
      subst hA
      have hb : decide ((i : Int) < (n : Int)) = true := decide_eq_true (by omega)
      clear hx
      go_wp2_with fail
      go_at_call 50
      with_reducible refine (HIT.out x _ _ r2 (wr.alloc (.cells #[.int .i64 x.f0, .int .i64 x.f1] 74)) (List.mem_of_getElem? HX.out) ((St.refl HP.out.st.wr).alloc (.cells #[.int .i64 x.f0, .int .i64 x.f1] 74)).wr (HI.out r2 wr r2 _ _ _ HP.out.inv ((St.refl HP.out.st.wr).alloc (.cells #[.int .i64 x.f0, .int .i64 x.f1] 74))) (HP.out.room HX.out HL.out)).mono ?_
      intro e w2 hp
      obtain ⟨rfl, r3, hs, ht⟩ := St.next ((St.refl HP.out.st.wr).alloc (.cells #[.int .i64 x.f0, .int .i64 x.f1] 74)) hp
      have HS := Aside0.mk ht
      clear hp hs ht
      go_wp2_with fail
      go_roundw
      case rel => exact ⟨i + 1, r3, by go_num, ⟨HP.out.next HX.out HS.out (HI.out r2 wr r3 _ _ _ HP.out.inv HS.out)⟩⟩
      case measure => simp [intOf]; omega
    · have hb : decide ((i : Int) < (n : Int)) = false := decide_eq_false (by omega)
      go_wp2_with fail
      go_end0
      exact HP.out.done (by rw [HN.out]; exact hlt)
set_option maxHeartbeats 2000000 in
theorem put46 (base : World) (g r n c : Nat) (A : Option Addr) (l : List ByteArray) (xs : List Int) (d : Bool) (w : World) (I : Nat → World → Prop) (dp : ByteArray → Bool) (enc : ByteArray → List Int) (hn : l.length = n) (hC : Kd.C Kd.string base A n l) (h : Wr w base g r xs d) (hI0 : I r w)
    (hI : ∀ (r1 : Nat) (w1 : World) (r2 : Nat) (w2 : World) (ys : List Int) (d2 : Bool), I r1 w1 → St base g r1 w1 ys d2 r2 w2 → I r2 w2) (hl : (xs ++ encList enc l).length ≤ LIM)
    (item : ∀ (x : ByteArray) (ys : List Int) (d1 : Bool) (r1 : Nat) (w1 : World), x ∈ l → Wr w1 base g r1 ys d1 → I r1 w1 → (ys ++ enc x).length ≤ LIM → Calls Try.prog 42 #[.pointer (some ⟨g, 0, none⟩), .string x] w1 (WPost base g r1 (ys ++ enc x) (d1 || dp x) w1)) :
    Calls Try.prog 46 #[.pointer (some ⟨g, 0, none⟩), .slice A n c, .func (.func 42) #[.pointer (some ⟨g, 0, none⟩)] #[]] w (WPost base g r (xs ++ encList enc l) (d || l.any dp) w) := by
  have HN := Aside0.mk hn
  have HC := Aside0.mk hC
  have H0 := Aside0.mk h
  have HI0 := Aside0.mk hI0
  have HI := Aside0.mk hI
  have HL := Aside0.mk hl
  have HIT := Aside0.mk item
  have hmax : n ≤ 9223372036854775807 := hC.2.1
  clear hn hC h hI0 hI hl item
  go_enter Try.func46, Try.ntmps46
  go_wp2_with fail
  go_at_call 113
  with_reducible refine (number_calls base g r xs d n w H0.out (by omega) (by have := HL.out; unfold encList at this; rw [HN.out] at this; exact lim_left this)).mono ?_
  intro e w1 hp
  obtain ⟨rfl, r1, hs, ht⟩ := (St.refl H0.out).next hp
  have H1 := Aside0.mk ht
  have HI1 := Aside0.mk (HI.out r w r1 w1 _ _ HI0.out ht)
  clear hp hs ht
  go_wp2_with fail
  go_loopw [15] (fun v wr => ∃ (i r2 : Nat), v = .int .i64 (i : Nat) ∧ Aside0 (PutR base g r w I enc dp l xs d i r2 wr)) (fun v _ => n - (intOf v).toNat)
  case atStart => exact ⟨0, r1, rfl, ⟨⟨Nat.zero_le _, by rw [HN.out]; simpa using H1.out, HI1.out⟩⟩⟩
  case round =>
    obtain ⟨i, r2, rfl, HP⟩ := hrel
    by_cases hlt : i < n
    · obtain ⟨x, hx⟩ : ∃ x, l[i]? = some x := ⟨_, List.getElem?_eq_getElem (by rw [HN.out]; exact hlt)⟩
      have HX := Aside0.mk hx
      obtain ⟨ad, cs, hA, hlen, hK, hc⟩ := Kd.C_get HC.out (⟨#[]⟩ : ByteArray) (i : Int) (by omega) (by omega)
      have hK : cs = [.string (l.getD (i : Int).toNat ⟨#[]⟩)] := hK
      rw [Int.toNat_natCast, List.getD_eq_getElem?_getD, hx] at hK
      rw [Int.toNat_natCast] at hc
      simp only [Option.getD_some] at hK
      subst hK
      have e0 : base.cell? (ad.add i) = some (.string x) := by have := hc 0 _ rfl; rwa [show Kd.string.sz = 1 from rfl, Nat.mul_one, Nat.add_zero] at this
      clear hK hc hlen
      replace e0 := old_cell HP.out.st.wr.dat e0
      subst hA
      have hb : decide ((i : Int) < (n : Int)) = true := decide_eq_true (by omega)
      clear hx
      go_wp2_with fail
      go_at_call 42
      with_reducible refine (HIT.out x _ _ r2 wr (List.mem_of_getElem? HX.out) (St.refl HP.out.st.wr).wr (HI.out r2 wr r2 _ _ _ HP.out.inv (St.refl HP.out.st.wr)) (HP.out.room HX.out HL.out)).mono ?_
      intro e w2 hp
      obtain ⟨rfl, r3, hs, ht⟩ := St.next (St.refl HP.out.st.wr) hp
      have HS := Aside0.mk ht
      clear hp hs ht
      go_wp2_with fail
      go_roundw
      case rel => exact ⟨i + 1, r3, by go_num, ⟨HP.out.next HX.out HS.out (HI.out r2 wr r3 _ _ _ HP.out.inv HS.out)⟩⟩
      case measure => simp [intOf]; omega
    · have hb : decide ((i : Int) < (n : Int)) = false := decide_eq_false (by omega)
      go_wp2_with fail
      go_end0
      exact HP.out.done (by rw [HN.out]; exact hlt)
set_option maxHeartbeats 2000000 in
theorem put44 (base : World) (g r n c : Nat) (cw : Nat) (A : Option Addr) (l : List S97) (xs : List Int) (d : Bool) (w : World) (I : Nat → World → Prop) (dp : S97 → Bool) (enc : S97 → List Int) (hn : l.length = n) (hC : Kd.C k97 base A n l) (h : Wr w base g r xs d) (hI0 : I r w)
    (hI : ∀ (r1 : Nat) (w1 : World) (r2 : Nat) (w2 : World) (ys : List Int) (d2 : Bool), I r1 w1 → St base g r1 w1 ys d2 r2 w2 → I r2 w2) (hl : (xs ++ encList enc l).length ≤ LIM)
    (item : ∀ (x : S97) (ys : List Int) (d1 : Bool) (r1 : Nat) (w1 : World) (A1 : Option Addr) (c1 : Nat), x ∈ l → x.f1.length ≤ c1 → Kd.string.C base A1 x.f1.length x.f1 → Wr w1 base g r1 ys d1 → I r1 w1 → (ys ++ enc x).length ≤ LIM → Calls Try.prog 45 #[.agg #[.string x.f0, .slice A1 x.f1.length c1], .pointer (some ⟨cw, 0, none⟩)] w1 (WPost base g r1 (ys ++ enc x) (d1 || dp x) w1)) :
    Calls Try.prog 44 #[.pointer (some ⟨g, 0, none⟩), .slice A n c, .func (.func 45) #[] #[.pointer (some ⟨cw, 0, none⟩)]] w (WPost base g r (xs ++ encList enc l) (d || l.any dp) w) := by
  have HN := Aside0.mk hn
  have HC := Aside0.mk hC
  have H0 := Aside0.mk h
  have HI0 := Aside0.mk hI0
  have HI := Aside0.mk hI
  have HL := Aside0.mk hl
  have HIT := Aside0.mk item
  have hmax : n ≤ 9223372036854775807 := hC.2.1
  clear hn hC h hI0 hI hl item
  go_enter Try.func44, Try.ntmps44
  go_wp2_with fail
  go_at_call 113
  with_reducible refine (number_calls base g r xs d n w H0.out (by omega) (by have := HL.out; unfold encList at this; rw [HN.out] at this; exact lim_left this)).mono ?_
  intro e w1 hp
  obtain ⟨rfl, r1, hs, ht⟩ := (St.refl H0.out).next hp
  have H1 := Aside0.mk ht
  have HI1 := Aside0.mk (HI.out r w r1 w1 _ _ HI0.out ht)
  clear hp hs ht
  go_wp2_with fail
  go_loopw [15] (fun v wr => ∃ (i r2 : Nat), v = .int .i64 (i : Nat) ∧ Aside0 (PutR base g r w I enc dp l xs d i r2 wr)) (fun v _ => n - (intOf v).toNat)
  case atStart => exact ⟨0, r1, rfl, ⟨⟨Nat.zero_le _, by rw [HN.out]; simpa using H1.out, HI1.out⟩⟩⟩
  case round =>
    obtain ⟨i, r2, rfl, HP⟩ := hrel
    by_cases hlt : i < n
    · obtain ⟨x, hx⟩ : ∃ x, l[i]? = some x := ⟨_, List.getElem?_eq_getElem (by rw [HN.out]; exact hlt)⟩
      have HX := Aside0.mk hx
      obtain ⟨ad, A1, c1, hA, e0, e1, l1, g1⟩ := at_T97 HC.out (i : Int) (by omega) (by omega)
      have hrd : rd_T97 l (i : Int) = x := by unfold rd_T97; rw [Int.toNat_natCast, List.getD_eq_getElem?_getD, hx]; rfl
      rw [hrd] at e0 e1 l1 g1
      rw [Int.toNat_natCast] at e0 e1
      clear hrd
      replace e0 := old_cell HP.out.st.wr.dat e0
      replace e1 := old_cell HP.out.st.wr.dat e1
      have L1 := Aside0.mk l1
      have G1 := Aside0.mk g1
      clear l1 g1
      subst hA
      have hb : decide ((i : Int) < (n : Int)) = true := decide_eq_true (by omega)
      clear hx
      go_wp2_with fail
      go_at_call 45
      with_reducible refine (HIT.out x _ _ r2 (wr.alloc (.cells #[.string x.f0, .slice A1 x.f1.length c1] 97)) A1 c1 (List.mem_of_getElem? HX.out) L1.out G1.out ((St.refl HP.out.st.wr).alloc (.cells #[.string x.f0, .slice A1 x.f1.length c1] 97)).wr (HI.out r2 wr r2 _ _ _ HP.out.inv ((St.refl HP.out.st.wr).alloc (.cells #[.string x.f0, .slice A1 x.f1.length c1] 97))) (HP.out.room HX.out HL.out)).mono ?_
      intro e w2 hp
      obtain ⟨rfl, r3, hs, ht⟩ := St.next ((St.refl HP.out.st.wr).alloc (.cells #[.string x.f0, .slice A1 x.f1.length c1] 97)) hp
      have HS := Aside0.mk ht
      clear hp hs ht
      go_wp2_with fail
      go_roundw
      case rel => exact ⟨i + 1, r3, by go_num, ⟨HP.out.next HX.out HS.out (HI.out r2 wr r3 _ _ _ HP.out.inv HS.out)⟩⟩
      case measure => simp [intOf]; omega
    · have hb : decide ((i : Int) < (n : Int)) = false := decide_eq_false (by omega)
      go_wp2_with fail
      go_end0
      exact HP.out.done (by rw [HN.out]; exact hlt)
set_option maxHeartbeats 2000000 in
theorem put47 (base : World) (g r n c : Nat) (cw : Nat) (A : Option Addr) (l : List S72) (xs : List Int) (d : Bool) (w : World) (I : Nat → World → Prop) (dp : S72 → Bool) (enc : S72 → List Int) (hn : l.length = n) (hC : Kd.C k72 base A n l) (h : Wr w base g r xs d) (hI0 : I r w)
    (hI : ∀ (r1 : Nat) (w1 : World) (r2 : Nat) (w2 : World) (ys : List Int) (d2 : Bool), I r1 w1 → St base g r1 w1 ys d2 r2 w2 → I r2 w2) (hl : (xs ++ encList enc l).length ≤ LIM)
    (item : ∀ (x : S72) (ys : List Int) (d1 : Bool) (r1 : Nat) (w1 : World) (A1 : Option Addr) (c1 : Nat), x ∈ l → x.f1.length ≤ c1 → k74.C base A1 x.f1.length x.f1 → Wr w1 base g r1 ys d1 → I r1 w1 → (ys ++ enc x).length ≤ LIM → Calls Try.prog 48 #[.agg #[.string x.f0, .slice A1 x.f1.length c1], .pointer (some ⟨cw, 0, none⟩)] w1 (WPost base g r1 (ys ++ enc x) (d1 || dp x) w1)) :
    Calls Try.prog 47 #[.pointer (some ⟨g, 0, none⟩), .slice A n c, .func (.func 48) #[] #[.pointer (some ⟨cw, 0, none⟩)]] w (WPost base g r (xs ++ encList enc l) (d || l.any dp) w) := by
  have HN := Aside0.mk hn
  have HC := Aside0.mk hC
  have H0 := Aside0.mk h
  have HI0 := Aside0.mk hI0
  have HI := Aside0.mk hI
  have HL := Aside0.mk hl
  have HIT := Aside0.mk item
  have hmax : n ≤ 9223372036854775807 := hC.2.1
  clear hn hC h hI0 hI hl item
  go_enter Try.func47, Try.ntmps47
  go_wp2_with fail
  go_at_call 113
  with_reducible refine (number_calls base g r xs d n w H0.out (by omega) (by have := HL.out; unfold encList at this; rw [HN.out] at this; exact lim_left this)).mono ?_
  intro e w1 hp
  obtain ⟨rfl, r1, hs, ht⟩ := (St.refl H0.out).next hp
  have H1 := Aside0.mk ht
  have HI1 := Aside0.mk (HI.out r w r1 w1 _ _ HI0.out ht)
  clear hp hs ht
  go_wp2_with fail
  go_loopw [15] (fun v wr => ∃ (i r2 : Nat), v = .int .i64 (i : Nat) ∧ Aside0 (PutR base g r w I enc dp l xs d i r2 wr)) (fun v _ => n - (intOf v).toNat)
  case atStart => exact ⟨0, r1, rfl, ⟨⟨Nat.zero_le _, by rw [HN.out]; simpa using H1.out, HI1.out⟩⟩⟩
  case round =>
    obtain ⟨i, r2, rfl, HP⟩ := hrel
    by_cases hlt : i < n
    · obtain ⟨x, hx⟩ : ∃ x, l[i]? = some x := ⟨_, List.getElem?_eq_getElem (by rw [HN.out]; exact hlt)⟩
      have HX := Aside0.mk hx
      obtain ⟨ad, A1, c1, hA, e0, e1, l1, g1⟩ := at_T72 HC.out (i : Int) (by omega) (by omega)
      have hrd : rd_T72 l (i : Int) = x := by unfold rd_T72; rw [Int.toNat_natCast, List.getD_eq_getElem?_getD, hx]; rfl
      rw [hrd] at e0 e1 l1 g1
      rw [Int.toNat_natCast] at e0 e1
      clear hrd
      replace e0 := old_cell HP.out.st.wr.dat e0
      replace e1 := old_cell HP.out.st.wr.dat e1
      have L1 := Aside0.mk l1
      have G1 := Aside0.mk g1
      clear l1 g1
      subst hA
      have hb : decide ((i : Int) < (n : Int)) = true := decide_eq_true (by omega)
      clear hx
      go_wp2_with fail
      go_at_call 48
      with_reducible refine (HIT.out x _ _ r2 (wr.alloc (.cells #[.string x.f0, .slice A1 x.f1.length c1] 72)) A1 c1 (List.mem_of_getElem? HX.out) L1.out G1.out ((St.refl HP.out.st.wr).alloc (.cells #[.string x.f0, .slice A1 x.f1.length c1] 72)).wr (HI.out r2 wr r2 _ _ _ HP.out.inv ((St.refl HP.out.st.wr).alloc (.cells #[.string x.f0, .slice A1 x.f1.length c1] 72))) (HP.out.room HX.out HL.out)).mono ?_
      intro e w2 hp
      obtain ⟨rfl, r3, hs, ht⟩ := St.next ((St.refl HP.out.st.wr).alloc (.cells #[.string x.f0, .slice A1 x.f1.length c1] 72)) hp
      have HS := Aside0.mk ht
      clear hp hs ht
      go_wp2_with fail
      go_roundw
      case rel => exact ⟨i + 1, r3, by go_num, ⟨HP.out.next HX.out HS.out (HI.out r2 wr r3 _ _ _ HP.out.inv HS.out)⟩⟩
      case measure => simp [intOf]; omega
    · have hb : decide ((i : Int) < (n : Int)) = false := decide_eq_false (by omega)
      go_wp2_with fail
      go_end0
      exact HP.out.done (by rw [HN.out]; exact hlt)
set_option maxHeartbeats 2000000 in
theorem put51 (base : World) (g r n c : Nat) (cw : Nat) (A : Option Addr) (l : List S69) (xs : List Int) (d : Bool) (w : World) (I : Nat → World → Prop) (dp : S69 → Bool) (enc : S69 → List Int) (hn : l.length = n) (hC : Kd.C k69 base A n l) (h : Wr w base g r xs d) (hI0 : I r w)
    (hI : ∀ (r1 : Nat) (w1 : World) (r2 : Nat) (w2 : World) (ys : List Int) (d2 : Bool), I r1 w1 → St base g r1 w1 ys d2 r2 w2 → I r2 w2) (hl : (xs ++ encList enc l).length ≤ LIM)
    (item : ∀ (x : S69) (ys : List Int) (d1 : Bool) (r1 : Nat) (w1 : World), x ∈ l → Wr w1 base g r1 ys d1 → I r1 w1 → (ys ++ enc x).length ≤ LIM → Calls Try.prog 52 #[.agg #[.string x.f0, .int .i64 x.f1], .pointer (some ⟨cw, 0, none⟩)] w1 (WPost base g r1 (ys ++ enc x) (d1 || dp x) w1)) :
    Calls Try.prog 51 #[.pointer (some ⟨g, 0, none⟩), .slice A n c, .func (.func 52) #[] #[.pointer (some ⟨cw, 0, none⟩)]] w (WPost base g r (xs ++ encList enc l) (d || l.any dp) w) := by
  have HN := Aside0.mk hn
  have HC := Aside0.mk hC
  have H0 := Aside0.mk h
  have HI0 := Aside0.mk hI0
  have HI := Aside0.mk hI
  have HL := Aside0.mk hl
  have HIT := Aside0.mk item
  have hmax : n ≤ 9223372036854775807 := hC.2.1
  clear hn hC h hI0 hI hl item
  go_enter Try.func51, Try.ntmps51
  go_wp2_with fail
  go_at_call 113
  with_reducible refine (number_calls base g r xs d n w H0.out (by omega) (by have := HL.out; unfold encList at this; rw [HN.out] at this; exact lim_left this)).mono ?_
  intro e w1 hp
  obtain ⟨rfl, r1, hs, ht⟩ := (St.refl H0.out).next hp
  have H1 := Aside0.mk ht
  have HI1 := Aside0.mk (HI.out r w r1 w1 _ _ HI0.out ht)
  clear hp hs ht
  go_wp2_with fail
  go_loopw [15] (fun v wr => ∃ (i r2 : Nat), v = .int .i64 (i : Nat) ∧ Aside0 (PutR base g r w I enc dp l xs d i r2 wr)) (fun v _ => n - (intOf v).toNat)
  case atStart => exact ⟨0, r1, rfl, ⟨⟨Nat.zero_le _, by rw [HN.out]; simpa using H1.out, HI1.out⟩⟩⟩
  case round =>
    obtain ⟨i, r2, rfl, HP⟩ := hrel
    by_cases hlt : i < n
    · obtain ⟨x, hx⟩ : ∃ x, l[i]? = some x := ⟨_, List.getElem?_eq_getElem (by rw [HN.out]; exact hlt)⟩
      have HX := Aside0.mk hx
      obtain ⟨ad, hA, e0, e1⟩ := at_T69 HC.out (i : Int) (by omega) (by omega)
      have hrd : rd_T69 l (i : Int) = x := by unfold rd_T69; rw [Int.toNat_natCast, List.getD_eq_getElem?_getD, hx]; rfl
      rw [hrd] at e0 e1
      rw [Int.toNat_natCast] at e0 e1
      clear hrd
      replace e0 := old_cell HP.out.st.wr.dat e0
      replace e1 := old_cell HP.out.st.wr.dat e1
      subst hA
      have hb : decide ((i : Int) < (n : Int)) = true := decide_eq_true (by omega)
      clear hx
      go_wp2_with fail
      go_at_call 52
      with_reducible refine (HIT.out x _ _ r2 (wr.alloc (.cells #[.string x.f0, .int .i64 x.f1] 69)) (List.mem_of_getElem? HX.out) ((St.refl HP.out.st.wr).alloc (.cells #[.string x.f0, .int .i64 x.f1] 69)).wr (HI.out r2 wr r2 _ _ _ HP.out.inv ((St.refl HP.out.st.wr).alloc (.cells #[.string x.f0, .int .i64 x.f1] 69))) (HP.out.room HX.out HL.out)).mono ?_
      intro e w2 hp
      obtain ⟨rfl, r3, hs, ht⟩ := St.next ((St.refl HP.out.st.wr).alloc (.cells #[.string x.f0, .int .i64 x.f1] 69)) hp
      have HS := Aside0.mk ht
      clear hp hs ht
      go_wp2_with fail
      go_roundw
      case rel => exact ⟨i + 1, r3, by go_num, ⟨HP.out.next HX.out HS.out (HI.out r2 wr r3 _ _ _ HP.out.inv HS.out)⟩⟩
      case measure => simp [intOf]; omega
    · have hb : decide ((i : Int) < (n : Int)) = false := decide_eq_false (by omega)
      go_wp2_with fail
      go_end0
      exact HP.out.done (by rw [HN.out]; exact hlt)
set_option maxHeartbeats 2000000 in
theorem put53 (base : World) (g r n c : Nat) (A : Option Addr) (l : List S77) (xs : List Int) (d : Bool) (w : World) (I : Nat → World → Prop) (dp : S77 → Bool) (enc : S77 → List Int) (hn : l.length = n) (hC : Kd.C k77 base A n l) (h : Wr w base g r xs d) (hI0 : I r w)
    (hI : ∀ (r1 : Nat) (w1 : World) (r2 : Nat) (w2 : World) (ys : List Int) (d2 : Bool), I r1 w1 → St base g r1 w1 ys d2 r2 w2 → I r2 w2) (hl : (xs ++ encList enc l).length ≤ LIM)
    (item : ∀ (x : S77) (ys : List Int) (d1 : Bool) (r1 : Nat) (w1 : World) (A6 : Option Addr) (c6 : Nat), x ∈ l → x.f6.length ≤ c6 → k100.C base A6 x.f6.length x.f6 → Wr w1 base g r1 ys d1 → I r1 w1 → (ys ++ enc x).length ≤ LIM → Calls Try.prog 54 #[.pointer (some ⟨g, 0, none⟩), .agg #[.string x.f0, .bool x.f1, .bool x.f2, .int .i64 x.f3, .int .i64 x.f4, .int .i64 x.f5, .slice A6 x.f6.length c6]] w1 (WPost base g r1 (ys ++ enc x) (d1 || dp x) w1)) :
    Calls Try.prog 53 #[.pointer (some ⟨g, 0, none⟩), .slice A n c, .func (.func 54) #[.pointer (some ⟨g, 0, none⟩)] #[]] w (WPost base g r (xs ++ encList enc l) (d || l.any dp) w) := by
  have HN := Aside0.mk hn
  have HC := Aside0.mk hC
  have H0 := Aside0.mk h
  have HI0 := Aside0.mk hI0
  have HI := Aside0.mk hI
  have HL := Aside0.mk hl
  have HIT := Aside0.mk item
  have hmax : n ≤ 9223372036854775807 := hC.2.1
  clear hn hC h hI0 hI hl item
  go_enter Try.func53, Try.ntmps53
  go_wp2_with fail
  go_at_call 113
  with_reducible refine (number_calls base g r xs d n w H0.out (by omega) (by have := HL.out; unfold encList at this; rw [HN.out] at this; exact lim_left this)).mono ?_
  intro e w1 hp
  obtain ⟨rfl, r1, hs, ht⟩ := (St.refl H0.out).next hp
  have H1 := Aside0.mk ht
  have HI1 := Aside0.mk (HI.out r w r1 w1 _ _ HI0.out ht)
  clear hp hs ht
  go_wp2_with fail
  go_loopw [15] (fun v wr => ∃ (i r2 : Nat), v = .int .i64 (i : Nat) ∧ Aside0 (PutR base g r w I enc dp l xs d i r2 wr)) (fun v _ => n - (intOf v).toNat)
  case atStart => exact ⟨0, r1, rfl, ⟨⟨Nat.zero_le _, by rw [HN.out]; simpa using H1.out, HI1.out⟩⟩⟩
  case round =>
    obtain ⟨i, r2, rfl, HP⟩ := hrel
    by_cases hlt : i < n
    · obtain ⟨x, hx⟩ : ∃ x, l[i]? = some x := ⟨_, List.getElem?_eq_getElem (by rw [HN.out]; exact hlt)⟩
      have HX := Aside0.mk hx
      obtain ⟨ad, A6, c6, hA, e0, e1, e2, e3, e4, e5, e6, l6, g6⟩ := at_T77 HC.out (i : Int) (by omega) (by omega)
      have hrd : rd_T77 l (i : Int) = x := by unfold rd_T77; rw [Int.toNat_natCast, List.getD_eq_getElem?_getD, hx]; rfl
      rw [hrd] at e0 e1 e2 e3 e4 e5 e6 l6 g6
      rw [Int.toNat_natCast] at e0 e1 e2 e3 e4 e5 e6
      clear hrd
      replace e0 := old_cell HP.out.st.wr.dat e0
      replace e1 := old_cell HP.out.st.wr.dat e1
      replace e2 := old_cell HP.out.st.wr.dat e2
      replace e3 := old_cell HP.out.st.wr.dat e3
      replace e4 := old_cell HP.out.st.wr.dat e4
      replace e5 := old_cell HP.out.st.wr.dat e5
      replace e6 := old_cell HP.out.st.wr.dat e6
      have L6 := Aside0.mk l6
      have G6 := Aside0.mk g6
      clear l6 g6
      subst hA
      have hb : decide ((i : Int) < (n : Int)) = true := decide_eq_true (by omega)
      clear hx
      go_wp2_with fail
      go_at_call 54
      with_reducible refine (HIT.out x _ _ r2 (wr.alloc (.cells #[.string x.f0, .bool x.f1, .bool x.f2, .int .i64 x.f3, .int .i64 x.f4, .int .i64 x.f5, .slice A6 x.f6.length c6] 77)) A6 c6 (List.mem_of_getElem? HX.out) L6.out G6.out ((St.refl HP.out.st.wr).alloc (.cells #[.string x.f0, .bool x.f1, .bool x.f2, .int .i64 x.f3, .int .i64 x.f4, .int .i64 x.f5, .slice A6 x.f6.length c6] 77)).wr (HI.out r2 wr r2 _ _ _ HP.out.inv ((St.refl HP.out.st.wr).alloc (.cells #[.string x.f0, .bool x.f1, .bool x.f2, .int .i64 x.f3, .int .i64 x.f4, .int .i64 x.f5, .slice A6 x.f6.length c6] 77))) (HP.out.room HX.out HL.out)).mono ?_
      intro e w2 hp
      obtain ⟨rfl, r3, hs, ht⟩ := St.next ((St.refl HP.out.st.wr).alloc (.cells #[.string x.f0, .bool x.f1, .bool x.f2, .int .i64 x.f3, .int .i64 x.f4, .int .i64 x.f5, .slice A6 x.f6.length c6] 77)) hp
      have HS := Aside0.mk ht
      clear hp hs ht
      go_wp2_with fail
      go_roundw
      case rel => exact ⟨i + 1, r3, by go_num, ⟨HP.out.next HX.out HS.out (HI.out r2 wr r3 _ _ _ HP.out.inv HS.out)⟩⟩
      case measure => simp [intOf]; omega
    · have hb : decide ((i : Int) < (n : Int)) = false := decide_eq_false (by omega)
      go_wp2_with fail
      go_end0
      exact HP.out.done (by rw [HN.out]; exact hlt)
set_option maxHeartbeats 2000000 in
theorem put55 (base : World) (g r n c : Nat) (A : Option Addr) (l : List S82) (xs : List Int) (d : Bool) (w : World) (I : Nat → World → Prop) (dp : S82 → Bool) (enc : S82 → List Int) (hn : l.length = n) (hC : Kd.C k82 base A n l) (h : Wr w base g r xs d) (hI0 : I r w)
    (hI : ∀ (r1 : Nat) (w1 : World) (r2 : Nat) (w2 : World) (ys : List Int) (d2 : Bool), I r1 w1 → St base g r1 w1 ys d2 r2 w2 → I r2 w2) (hl : (xs ++ encList enc l).length ≤ LIM)
    (item : ∀ (x : S82) (ys : List Int) (d1 : Bool) (r1 : Nat) (w1 : World) (A7 : Option Addr) (c7 : Nat), x ∈ l → x.f3.f4.length ≤ c7 → k80.C base A7 x.f3.f4.length x.f3.f4 → Wr w1 base g r1 ys d1 → I r1 w1 → (ys ++ enc x).length ≤ LIM → Calls Try.prog 56 #[.pointer (some ⟨g, 0, none⟩), .agg #[.string x.f0, .bool x.f1, .int .i64 x.f2, .int .i64 x.f3.f0, .int .i64 x.f3.f1, .int .i64 x.f3.f2, .int .i64 x.f3.f3, .slice A7 x.f3.f4.length c7, .string x.f4]] w1 (WPost base g r1 (ys ++ enc x) (d1 || dp x) w1)) :
    Calls Try.prog 55 #[.pointer (some ⟨g, 0, none⟩), .slice A n c, .func (.func 56) #[.pointer (some ⟨g, 0, none⟩)] #[]] w (WPost base g r (xs ++ encList enc l) (d || l.any dp) w) := by
  have HN := Aside0.mk hn
  have HC := Aside0.mk hC
  have H0 := Aside0.mk h
  have HI0 := Aside0.mk hI0
  have HI := Aside0.mk hI
  have HL := Aside0.mk hl
  have HIT := Aside0.mk item
  have hmax : n ≤ 9223372036854775807 := hC.2.1
  clear hn hC h hI0 hI hl item
  go_enter Try.func55, Try.ntmps55
  go_wp2_with fail
  go_at_call 113
  with_reducible refine (number_calls base g r xs d n w H0.out (by omega) (by have := HL.out; unfold encList at this; rw [HN.out] at this; exact lim_left this)).mono ?_
  intro e w1 hp
  obtain ⟨rfl, r1, hs, ht⟩ := (St.refl H0.out).next hp
  have H1 := Aside0.mk ht
  have HI1 := Aside0.mk (HI.out r w r1 w1 _ _ HI0.out ht)
  clear hp hs ht
  go_wp2_with fail
  go_loopw [15] (fun v wr => ∃ (i r2 : Nat), v = .int .i64 (i : Nat) ∧ Aside0 (PutR base g r w I enc dp l xs d i r2 wr)) (fun v _ => n - (intOf v).toNat)
  case atStart => exact ⟨0, r1, rfl, ⟨⟨Nat.zero_le _, by rw [HN.out]; simpa using H1.out, HI1.out⟩⟩⟩
  case round =>
    obtain ⟨i, r2, rfl, HP⟩ := hrel
    by_cases hlt : i < n
    · obtain ⟨x, hx⟩ : ∃ x, l[i]? = some x := ⟨_, List.getElem?_eq_getElem (by rw [HN.out]; exact hlt)⟩
      have HX := Aside0.mk hx
      obtain ⟨ad, A7, c7, hA, e0, e1, e2, e3, e4, e5, e6, e7, e8, l7, g7⟩ := at_T82 HC.out (i : Int) (by omega) (by omega)
      have hrd : rd_T82 l (i : Int) = x := by unfold rd_T82; rw [Int.toNat_natCast, List.getD_eq_getElem?_getD, hx]; rfl
      rw [hrd] at e0 e1 e2 e3 e4 e5 e6 e7 e8 l7 g7
      rw [Int.toNat_natCast] at e0 e1 e2 e3 e4 e5 e6 e7 e8
      clear hrd
      replace e0 := old_cell HP.out.st.wr.dat e0
      replace e1 := old_cell HP.out.st.wr.dat e1
      replace e2 := old_cell HP.out.st.wr.dat e2
      replace e3 := old_cell HP.out.st.wr.dat e3
      replace e4 := old_cell HP.out.st.wr.dat e4
      replace e5 := old_cell HP.out.st.wr.dat e5
      replace e6 := old_cell HP.out.st.wr.dat e6
      replace e7 := old_cell HP.out.st.wr.dat e7
      replace e8 := old_cell HP.out.st.wr.dat e8
      have L7 := Aside0.mk l7
      have G7 := Aside0.mk g7
      clear l7 g7
      subst hA
      have hb : decide ((i : Int) < (n : Int)) = true := decide_eq_true (by omega)
      clear hx
      go_wp2_with fail
      go_at_call 56
      with_reducible refine (HIT.out x _ _ r2 (wr.alloc (.cells #[.string x.f0, .bool x.f1, .int .i64 x.f2, .int .i64 x.f3.f0, .int .i64 x.f3.f1, .int .i64 x.f3.f2, .int .i64 x.f3.f3, .slice A7 x.f3.f4.length c7, .string x.f4] 82)) A7 c7 (List.mem_of_getElem? HX.out) L7.out G7.out ((St.refl HP.out.st.wr).alloc (.cells #[.string x.f0, .bool x.f1, .int .i64 x.f2, .int .i64 x.f3.f0, .int .i64 x.f3.f1, .int .i64 x.f3.f2, .int .i64 x.f3.f3, .slice A7 x.f3.f4.length c7, .string x.f4] 82)).wr (HI.out r2 wr r2 _ _ _ HP.out.inv ((St.refl HP.out.st.wr).alloc (.cells #[.string x.f0, .bool x.f1, .int .i64 x.f2, .int .i64 x.f3.f0, .int .i64 x.f3.f1, .int .i64 x.f3.f2, .int .i64 x.f3.f3, .slice A7 x.f3.f4.length c7, .string x.f4] 82))) (HP.out.room HX.out HL.out)).mono ?_
      intro e w2 hp
      obtain ⟨rfl, r3, hs, ht⟩ := St.next ((St.refl HP.out.st.wr).alloc (.cells #[.string x.f0, .bool x.f1, .int .i64 x.f2, .int .i64 x.f3.f0, .int .i64 x.f3.f1, .int .i64 x.f3.f2, .int .i64 x.f3.f3, .slice A7 x.f3.f4.length c7, .string x.f4] 82)) hp
      have HS := Aside0.mk ht
      clear hp hs ht
      go_wp2_with fail
      go_roundw
      case rel => exact ⟨i + 1, r3, by go_num, ⟨HP.out.next HX.out HS.out (HI.out r2 wr r3 _ _ _ HP.out.inv HS.out)⟩⟩
      case measure => simp [intOf]; omega
    · have hb : decide ((i : Int) < (n : Int)) = false := decide_eq_false (by omega)
      go_wp2_with fail
      go_end0
      exact HP.out.done (by rw [HN.out]; exact hlt)
set_option maxHeartbeats 2000000 in
theorem put115 (base : World) (g r n c : Nat) (A : Option Addr) (l : List S100) (xs : List Int) (d : Bool) (w : World) (I : Nat → World → Prop) (dp : S100 → Bool) (enc : S100 → List Int) (hn : l.length = n) (hC : Kd.C k100 base A n l) (h : Wr w base g r xs d) (hI0 : I r w)
    (hI : ∀ (r1 : Nat) (w1 : World) (r2 : Nat) (w2 : World) (ys : List Int) (d2 : Bool), I r1 w1 → St base g r1 w1 ys d2 r2 w2 → I r2 w2) (hl : (xs ++ encList enc l).length ≤ LIM)
    (item : ∀ (x : S100) (ys : List Int) (d1 : Bool) (r1 : Nat) (w1 : World) (A6 : Option Addr) (c6 : Nat) (A11 : Option Addr) (c11 : Nat), x ∈ l → x.f2.f4.length ≤ c6 → k80.C base A6 x.f2.f4.length x.f2.f4 → x.f3.f4.length ≤ c11 → k80.C base A11 x.f3.f4.length x.f3.f4 → Wr w1 base g r1 ys d1 → I r1 w1 → (ys ++ enc x).length ≤ LIM → Calls Try.prog 116 #[.pointer (some ⟨g, 0, none⟩), .agg #[.int .i64 x.f0, .bool x.f1, .int .i64 x.f2.f0, .int .i64 x.f2.f1, .int .i64 x.f2.f2, .int .i64 x.f2.f3, .slice A6 x.f2.f4.length c6, .int .i64 x.f3.f0, .int .i64 x.f3.f1, .int .i64 x.f3.f2, .int .i64 x.f3.f3, .slice A11 x.f3.f4.length c11]] w1 (WPost base g r1 (ys ++ enc x) (d1 || dp x) w1)) :
    Calls Try.prog 115 #[.pointer (some ⟨g, 0, none⟩), .slice A n c, .func (.func 116) #[.pointer (some ⟨g, 0, none⟩)] #[]] w (WPost base g r (xs ++ encList enc l) (d || l.any dp) w) := by
  have HN := Aside0.mk hn
  have HC := Aside0.mk hC
  have H0 := Aside0.mk h
  have HI0 := Aside0.mk hI0
  have HI := Aside0.mk hI
  have HL := Aside0.mk hl
  have HIT := Aside0.mk item
  have hmax : n ≤ 9223372036854775807 := hC.2.1
  clear hn hC h hI0 hI hl item
  go_enter Try.func115, Try.ntmps115
  go_wp2_with fail
  go_at_call 113
  with_reducible refine (number_calls base g r xs d n w H0.out (by omega) (by have := HL.out; unfold encList at this; rw [HN.out] at this; exact lim_left this)).mono ?_
  intro e w1 hp
  obtain ⟨rfl, r1, hs, ht⟩ := (St.refl H0.out).next hp
  have H1 := Aside0.mk ht
  have HI1 := Aside0.mk (HI.out r w r1 w1 _ _ HI0.out ht)
  clear hp hs ht
  go_wp2_with fail
  go_loopw [15] (fun v wr => ∃ (i r2 : Nat), v = .int .i64 (i : Nat) ∧ Aside0 (PutR base g r w I enc dp l xs d i r2 wr)) (fun v _ => n - (intOf v).toNat)
  case atStart => exact ⟨0, r1, rfl, ⟨⟨Nat.zero_le _, by rw [HN.out]; simpa using H1.out, HI1.out⟩⟩⟩
  case round =>
    obtain ⟨i, r2, rfl, HP⟩ := hrel
    by_cases hlt : i < n
    · obtain ⟨x, hx⟩ : ∃ x, l[i]? = some x := ⟨_, List.getElem?_eq_getElem (by rw [HN.out]; exact hlt)⟩
      have HX := Aside0.mk hx
      obtain ⟨ad, A6, c6, A11, c11, hA, e0, e1, e2, e3, e4, e5, e6, e7, e8, e9, e10, e11, l6, g6, l11, g11⟩ := at_T100 HC.out (i : Int) (by omega) (by omega)
      have hrd : rd_T100 l (i : Int) = x := by unfold rd_T100; rw [Int.toNat_natCast, List.getD_eq_getElem?_getD, hx]; rfl
      rw [hrd] at e0 e1 e2 e3 e4 e5 e6 e7 e8 e9 e10 e11 l6 g6 l11 g11
      rw [Int.toNat_natCast] at e0 e1 e2 e3 e4 e5 e6 e7 e8 e9 e10 e11
      clear hrd
      replace e0 := old_cell HP.out.st.wr.dat e0
      replace e1 := old_cell HP.out.st.wr.dat e1
      replace e2 := old_cell HP.out.st.wr.dat e2
      replace e3 := old_cell HP.out.st.wr.dat e3
      replace e4 := old_cell HP.out.st.wr.dat e4
      replace e5 := old_cell HP.out.st.wr.dat e5
      replace e6 := old_cell HP.out.st.wr.dat e6
      replace e7 := old_cell HP.out.st.wr.dat e7
      replace e8 := old_cell HP.out.st.wr.dat e8
      replace e9 := old_cell HP.out.st.wr.dat e9
      replace e10 := old_cell HP.out.st.wr.dat e10
      replace e11 := old_cell HP.out.st.wr.dat e11
      have L6 := Aside0.mk l6
      have G6 := Aside0.mk g6
      have L11 := Aside0.mk l11
      have G11 := Aside0.mk g11
      clear l6 g6 l11 g11
      subst hA
      have hb : decide ((i : Int) < (n : Int)) = true := decide_eq_true (by omega)
      clear hx
      go_wp2_with fail
      go_at_call 116
      with_reducible refine (HIT.out x _ _ r2 (wr.alloc (.cells #[.int .i64 x.f0, .bool x.f1, .int .i64 x.f2.f0, .int .i64 x.f2.f1, .int .i64 x.f2.f2, .int .i64 x.f2.f3, .slice A6 x.f2.f4.length c6, .int .i64 x.f3.f0, .int .i64 x.f3.f1, .int .i64 x.f3.f2, .int .i64 x.f3.f3, .slice A11 x.f3.f4.length c11] 100)) A6 c6 A11 c11 (List.mem_of_getElem? HX.out) L6.out G6.out L11.out G11.out ((St.refl HP.out.st.wr).alloc (.cells #[.int .i64 x.f0, .bool x.f1, .int .i64 x.f2.f0, .int .i64 x.f2.f1, .int .i64 x.f2.f2, .int .i64 x.f2.f3, .slice A6 x.f2.f4.length c6, .int .i64 x.f3.f0, .int .i64 x.f3.f1, .int .i64 x.f3.f2, .int .i64 x.f3.f3, .slice A11 x.f3.f4.length c11] 100)).wr (HI.out r2 wr r2 _ _ _ HP.out.inv ((St.refl HP.out.st.wr).alloc (.cells #[.int .i64 x.f0, .bool x.f1, .int .i64 x.f2.f0, .int .i64 x.f2.f1, .int .i64 x.f2.f2, .int .i64 x.f2.f3, .slice A6 x.f2.f4.length c6, .int .i64 x.f3.f0, .int .i64 x.f3.f1, .int .i64 x.f3.f2, .int .i64 x.f3.f3, .slice A11 x.f3.f4.length c11] 100))) (HP.out.room HX.out HL.out)).mono ?_
      intro e w2 hp
      obtain ⟨rfl, r3, hs, ht⟩ := St.next ((St.refl HP.out.st.wr).alloc (.cells #[.int .i64 x.f0, .bool x.f1, .int .i64 x.f2.f0, .int .i64 x.f2.f1, .int .i64 x.f2.f2, .int .i64 x.f2.f3, .slice A6 x.f2.f4.length c6, .int .i64 x.f3.f0, .int .i64 x.f3.f1, .int .i64 x.f3.f2, .int .i64 x.f3.f3, .slice A11 x.f3.f4.length c11] 100)) hp
      have HS := Aside0.mk ht
      clear hp hs ht
      go_wp2_with fail
      go_roundw
      case rel => exact ⟨i + 1, r3, by go_num, ⟨HP.out.next HX.out HS.out (HI.out r2 wr r3 _ _ _ HP.out.inv HS.out)⟩⟩
      case measure => simp [intOf]; omega
    · have hb : decide ((i : Int) < (n : Int)) = false := decide_eq_false (by omega)
      go_wp2_with fail
      go_end0
      exact HP.out.done (by rw [HN.out]; exact hlt)
set_option maxHeartbeats 2000000 in
theorem put141 (base : World) (g r n c : Nat) (cw cd : Nat) (A : Option Addr) (l : List S80) (xs : List Int) (d : Bool) (w : World) (I : Nat → World → Prop) (dp : S80 → Bool) (enc : S80 → List Int) (hn : l.length = n) (hC : Kd.C k80 base A n l) (h : Wr w base g r xs d) (hI0 : I r w)
    (hI : ∀ (r1 : Nat) (w1 : World) (r2 : Nat) (w2 : World) (ys : List Int) (d2 : Bool), I r1 w1 → St base g r1 w1 ys d2 r2 w2 → I r2 w2) (hl : (xs ++ encList enc l).length ≤ LIM)
    (item : ∀ (x : S80) (ys : List Int) (d1 : Bool) (r1 : Nat) (w1 : World) (A4 : Option Addr) (c4 : Nat), x ∈ l → x.f4.length ≤ c4 → k80.C base A4 x.f4.length x.f4 → Wr w1 base g r1 ys d1 → I r1 w1 → (ys ++ enc x).length ≤ LIM → Calls Try.prog 142 #[.agg #[.int .i64 x.f0, .int .i64 x.f1, .int .i64 x.f2, .int .i64 x.f3, .slice A4 x.f4.length c4], .pointer (some ⟨cw, 0, none⟩), .pointer (some ⟨cd, 0, none⟩)] w1 (WPost base g r1 (ys ++ enc x) (d1 || dp x) w1)) :
    Calls Try.prog 141 #[.pointer (some ⟨g, 0, none⟩), .slice A n c, .func (.func 142) #[] #[.pointer (some ⟨cw, 0, none⟩), .pointer (some ⟨cd, 0, none⟩)]] w (WPost base g r (xs ++ encList enc l) (d || l.any dp) w) := by
  have HN := Aside0.mk hn
  have HC := Aside0.mk hC
  have H0 := Aside0.mk h
  have HI0 := Aside0.mk hI0
  have HI := Aside0.mk hI
  have HL := Aside0.mk hl
  have HIT := Aside0.mk item
  have hmax : n ≤ 9223372036854775807 := hC.2.1
  clear hn hC h hI0 hI hl item
  go_enter Try.func141, Try.ntmps141
  go_wp2_with fail
  go_at_call 113
  with_reducible refine (number_calls base g r xs d n w H0.out (by omega) (by have := HL.out; unfold encList at this; rw [HN.out] at this; exact lim_left this)).mono ?_
  intro e w1 hp
  obtain ⟨rfl, r1, hs, ht⟩ := (St.refl H0.out).next hp
  have H1 := Aside0.mk ht
  have HI1 := Aside0.mk (HI.out r w r1 w1 _ _ HI0.out ht)
  clear hp hs ht
  go_wp2_with fail
  go_loopw [15] (fun v wr => ∃ (i r2 : Nat), v = .int .i64 (i : Nat) ∧ Aside0 (PutR base g r w I enc dp l xs d i r2 wr)) (fun v _ => n - (intOf v).toNat)
  case atStart => exact ⟨0, r1, rfl, ⟨⟨Nat.zero_le _, by rw [HN.out]; simpa using H1.out, HI1.out⟩⟩⟩
  case round =>
    obtain ⟨i, r2, rfl, HP⟩ := hrel
    by_cases hlt : i < n
    · obtain ⟨x, hx⟩ : ∃ x, l[i]? = some x := ⟨_, List.getElem?_eq_getElem (by rw [HN.out]; exact hlt)⟩
      have HX := Aside0.mk hx
      obtain ⟨ad, A4, c4, hA, e0, e1, e2, e3, e4, l4, g4⟩ := at_T80 HC.out (i : Int) (by omega) (by omega)
      have hrd : rd_T80 l (i : Int) = x := by unfold rd_T80; rw [Int.toNat_natCast, List.getD_eq_getElem?_getD, hx]; rfl
      rw [hrd] at e0 e1 e2 e3 e4 l4 g4
      rw [Int.toNat_natCast] at e0 e1 e2 e3 e4
      clear hrd
      replace e0 := old_cell HP.out.st.wr.dat e0
      replace e1 := old_cell HP.out.st.wr.dat e1
      replace e2 := old_cell HP.out.st.wr.dat e2
      replace e3 := old_cell HP.out.st.wr.dat e3
      replace e4 := old_cell HP.out.st.wr.dat e4
      have L4 := Aside0.mk l4
      have G4 := Aside0.mk g4
      clear l4 g4
      subst hA
      have hb : decide ((i : Int) < (n : Int)) = true := decide_eq_true (by omega)
      clear hx
      go_wp2_with fail
      go_at_call 142
      with_reducible refine (HIT.out x _ _ r2 (wr.alloc (.cells #[.int .i64 x.f0, .int .i64 x.f1, .int .i64 x.f2, .int .i64 x.f3, .slice A4 x.f4.length c4] 80)) A4 c4 (List.mem_of_getElem? HX.out) L4.out G4.out ((St.refl HP.out.st.wr).alloc (.cells #[.int .i64 x.f0, .int .i64 x.f1, .int .i64 x.f2, .int .i64 x.f3, .slice A4 x.f4.length c4] 80)).wr (HI.out r2 wr r2 _ _ _ HP.out.inv ((St.refl HP.out.st.wr).alloc (.cells #[.int .i64 x.f0, .int .i64 x.f1, .int .i64 x.f2, .int .i64 x.f3, .slice A4 x.f4.length c4] 80))) (HP.out.room HX.out HL.out)).mono ?_
      intro e w2 hp
      obtain ⟨rfl, r3, hs, ht⟩ := St.next ((St.refl HP.out.st.wr).alloc (.cells #[.int .i64 x.f0, .int .i64 x.f1, .int .i64 x.f2, .int .i64 x.f3, .slice A4 x.f4.length c4] 80)) hp
      have HS := Aside0.mk ht
      clear hp hs ht
      go_wp2_with fail
      go_roundw
      case rel => exact ⟨i + 1, r3, by go_num, ⟨HP.out.next HX.out HS.out (HI.out r2 wr r3 _ _ _ HP.out.inv HS.out)⟩⟩
      case measure => simp [intOf]; omega
    · have hb : decide ((i : Int) < (n : Int)) = false := decide_eq_false (by omega)
      go_wp2_with fail
      go_end0
      exact HP.out.done (by rw [HN.out]; exact hlt)
end Go.Proofs.Ytpbdkkahodaloaa.U
end

section
namespace Go.Proofs.Ytpbdkkahodaloaa.T
open Go.RowKit Go.Proofs.Ytpbdkkahodaloaa.PS Go.Proofs.Ytpbdkkahodaloaa.U Go.Proofs.YtpbdkkahodaloaaW.PrintWords Go.Proofs.YtpbdkkahodaloaaW.PrintMore
set_option linter.unusedVariables false
set_option maxRecDepth 100000
theorem toList_inj {a b : ByteArray} (h : a.toList = b.toList) : a = b := by
  rw [ByteArray.toList_eq, ByteArray.toList_eq] at h
  cases a; cases b
  simpa using h
theorem len_same {l m : Nat} (h : ((l : Int) != (m : Int)) = false) : l = m := by simp at h; omega
theorem same_no {α : Type} {a b : α} {w w' : World} (hb : Below w.heap.size w w')
    (h : ¬ a = b := by (intro e_; cases e_; first | exact absurd rfl (by assumption) | (have h_ : ∀ z : Int, ¬ ((z != z) = true) := (fun z => by simp); exact absurd (by assumption) (h_ _)))) : SamePost a b w (.returned (.bool false)) w' := ⟨false, rfl, Iff.intro (fun h => by cases h) (fun e => absurd e h), hb⟩
theorem same_yes {α : Type} {a b : α} {w w' : World} (h : a = b) (hb : Below w.heap.size w w') : SamePost a b w (.returned (.bool true)) w' := ⟨true, rfl, Iff.intro (fun _ => h) (fun _ => rfl), hb⟩
theorem drop_next {α : Type} {l m : List α} {i : Nat} {a b : α} (ha : l[i]? = some a) (hb : m[i]? = some b) (ht : l.take i = m.take i) (h : a = b) : l.take (i + 1) = m.take (i + 1) := by
  rw [List.take_add_one, List.take_add_one, ht, ha, hb, h]
theorem ne_at {α : Type} {l m : List α} {i : Nat} {a b : α} (ha : l[i]? = some a) (hb : m[i]? = some b) (h : ¬ a = b) : ¬ l = m := fun e => h (by rw [e, hb] at ha; exact (Option.some.inj ha).symm)
theorem take_all {α : Type} {l m : List α} {i : Nat} (hl : ¬ i < l.length) (hm : l.length = m.length) (h : l.take i = m.take i) : l = m := by
  rw [List.take_of_length_le (by omega), List.take_of_length_le (by omega)] at h; exact h
structure Two (w : World) (k : Nat) (u v : Value) (w' : World) : Prop where
  below : Below w.heap.size w w'
  one : w'.cell? ⟨w.heap.size, k, none⟩ = some u
  two : w'.cell? ⟨w.heap.size + 1, k, none⟩ = some v
theorem Two.next {w w' w2 : World} {k : Nat} {u v : Value} (h : Two w k u v w') (hb : Below w'.heap.size w' w2) : Two w k u v w2 := ⟨below_then h.below h.below.size hb, old_cell hb h.one, old_cell hb h.two⟩
theorem Two.new (w : World) (cs ds : Array Value) (t : TypeId) (k : Nat) {u v : Value} (h1 : cs[k]? = some u) (h2 : ds[k]? = some v) : Two w k u v ((w.alloc (.cells cs t)).alloc (.cells ds t)) := by
  refine ⟨below_alloc (below_alloc (Below.refl _ _) _) _, (blk_cell (blk_alloc (blk_new w _) _) k).trans h1, ?_⟩
  have := blk_new (w.alloc (.cells cs t)) (.cells ds t)
  rw [World.size_alloc] at this
  exact (blk_cell this k).trans h2
set_option maxHeartbeats 4000000 in
theorem line_same (x y : S77) (A : Option Addr) (c : Nat) (B : Option Addr) (d : Nat) (w : World) (hx : k100.C w A x.f6.length x.f6) (hy : k100.C w B y.f6.length y.f6) :
    Calls Try.prog 58 #[.agg #[.string x.f0, .bool x.f1, .bool x.f2, .int .i64 x.f3, .int .i64 x.f4, .int .i64 x.f5, .slice A x.f6.length c], .agg #[.string y.f0, .bool y.f1, .bool y.f2, .int .i64 y.f3, .int .i64 y.f4, .int .i64 y.f5, .slice B y.f6.length d]] w (SamePost x y w) := by
  obtain ⟨x0, x1, x2, x3, x4, x5, l⟩ := x
  obtain ⟨y0, y1, y2, y3, y4, y5, m⟩ := y
  replace hx : k100.C w A l.length l := hx
  replace hy : k100.C w B m.length m := hy
  show Calls Try.prog 58 #[.agg #[.string x0, .bool x1, .bool x2, .int .i64 x3, .int .i64 x4, .int .i64 x5, .slice A l.length c], .agg #[.string y0, .bool y1, .bool y2, .int .i64 y3, .int .i64 y4, .int .i64 y5, .slice B m.length d]] w (SamePost _ _ w)
  have HX := Aside0.mk hx
  have HY := Aside0.mk hy
  clear hx hy
  go_enter Try.func58, Try.ntmps58
  go_wp2_with fail
  all_goals try (go_ret; exact same_no (by repeat (first | exact Below.refl _ _ | apply below_alloc | apply pw_below_drewN | apply below_drew1)))
  rename_i g0 g1 g2 g3 g4 g5 g6 _ _
  have HM := Aside0.mk (len_same g6)
  rw [g6]
  have HE := Aside0.mk (show l = m → (⟨x0, x1, x2, x3, x4, x5, l⟩ : S77) = ⟨y0, y1, y2, y3, y4, y5, m⟩ from fun e => by rw [toList_inj g0, g1, g2, g3, g4, g5, e])
  have HN := Aside0.mk (show ¬ l = m → ¬ (⟨x0, x1, x2, x3, x4, x5, l⟩ : S77) = ⟨y0, y1, y2, y3, y4, y5, m⟩ from fun h e => h (by cases e; rfl))
  clear g0 g1 g2 g3 g4 g5 g6
  have hmax : l.length ≤ 9223372036854775807 := HX.out.2.1
  rw [← HM.out] at HY
  rw [← HM.out]
  go_loopg [5] (l.length + 1) (fun kq v5 w' => ∃ i : Nat, v5 = .int .i64 (i : Int) ∧ Aside0 (kq + i = l.length + 1) ∧ Aside0 (i ≤ l.length) ∧ Aside0 (l.take i = m.take i) ∧ Aside0 (Two w 6 (.slice A l.length c) (.slice B l.length d) w'))
  case atStart => exact ⟨0, rfl, ⟨by omega⟩, ⟨by omega⟩, ⟨rfl⟩, ⟨Two.new w _ _ _ 6 rfl rfl⟩⟩
  case round =>
    obtain ⟨i, rfl, HK, HI, HT, HW⟩ := hrel
    cases gk with
    | zero => exact absurd HK.out (by have := HI.out; omega)
    | succ k1 =>
      have a0 := HW.out.one
      have a1 := HW.out.two
      by_cases hlt : i < l.length
      · have hb0 : decide ((i : Int) < (l.length : Int)) = true := decide_eq_true (by omega)
        obtain ⟨a, ha⟩ : ∃ a, l[i]? = some a := ⟨_, List.getElem?_eq_getElem hlt⟩
        obtain ⟨b, hb⟩ : ∃ b, m[i]? = some b := ⟨_, List.getElem?_eq_getElem (by have := HM.out; omega)⟩
        have hra : rd_T100 l (i : Int) = a := by unfold rd_T100; rw [Int.toNat_natCast, List.getD_eq_getElem?_getD, ha]; rfl
        have hrb : rd_T100 m (i : Int) = b := by unfold rd_T100; rw [Int.toNat_natCast, List.getD_eq_getElem?_getD, hb]; rfl
        obtain ⟨ad, C1, c1, C2, c2, hA, e0, e1, e2, e3, e4, e5, e6, e7, e8, e9, e10, e11, l1, g1, l2, g2⟩ := at_T100 (Kd.C_below HX.out HW.out.below) (i : Int) (by omega) (by omega)
        obtain ⟨bd, D1, d1, D2, d2, hB, f0, f1, f2, f3, f4, f5, f6, f7, f8, f9, f10, f11, m1, j1, m2, j2⟩ := at_T100 (Kd.C_below HY.out HW.out.below) (i : Int) (by omega) (by omega)
        subst hA hB
        rw [hra] at e0 e1 e2 e3 e4 e5 e6 e7 e8 e9 e10 e11 l1 g1 l2 g2
        rw [hrb] at f0 f1 f2 f3 f4 f5 f6 f7 f8 f9 f10 f11 m1 j1 m2 j2
        rw [Int.toNat_natCast] at e0 e1 e2 e3 e4 e5 e6 e7 e8 e9 e10 e11 f0 f1 f2 f3 f4 f5 f6 f7 f8 f9 f10 f11
        have HNE := Aside0.mk (fun h => HN.out (ne_at ha hb h))
        have HNX := Aside0.mk (fun h => drop_next ha hb HT.out h)
        have HG := Aside0.mk (And.intro (And.intro l1 g1) (And.intro l2 g2))
        have HJ := Aside0.mk (And.intro (And.intro m1 j1) (And.intro m2 j2))
        clear hra hrb ha hb l1 g1 l2 g2 m1 j1 m2 j2
        have p0 : (0 : Int) ≤ (i : Int) := by omega
        have p1 : (i : Int) < (l.length : Int) := by omega
        have q0 := World.block_lt_of_cell? wr _ a0
        have q1 := World.block_lt_of_cell? wr _ a1
        have q2 := World.block_lt_of_cell? wr _ e0
        have q3 := World.block_lt_of_cell? wr _ f0
        have q0 : w.heap.size < wr.heap.size := q0
        have q1 : w.heap.size + 1 < wr.heap.size := q1
        go_wp2_with fail
        all_goals try (go_ret; exact same_no (by repeat (first | exact HW.out.below | apply below_alloc | apply pw_below_drewN | apply below_drew1)) (HNE.out (by (intro e_; cases e_; exact absurd rfl (by assumption)))))
        have HE0 := Aside0.mk (And.intro (show a.f0 = b.f0 by assumption) (show a.f1 = b.f1 by assumption))
        clear e0 e1 e2 e3 e4 e5 e6 e7 e8 e9 e10 e11 f0 f1 f2 f3 f4 f5 f6 f7 f8 f9 f10 f11 q2 q3
        with_reducible refine (expr_same a.f2 b.f2 C1 c1 D1 d1 _ (Kd.C_alloc (Kd.C_alloc HG.out.1.2 _) _) HG.out.1.1 (Kd.C_alloc (Kd.C_alloc HJ.out.1.2 _) _) HJ.out.1.1).mono ?_
        rintro e w2 ⟨v, rfl, hv, hb⟩
        have B0 := Aside0.mk (blk_below (blk_alloc (blk_new wr _) _) hb)
        have B1 := Aside0.mk (blk_below (blk_new (wr.alloc _) _) hb)
        rw [World.size_alloc] at B1
        have HW2 := Aside0.mk (HW.out.next (below_then (below_alloc (below_alloc (Below.refl wr.heap.size wr) _) _) (by rw [World.size_alloc, World.size_alloc]; omega) hb))
        have HV := Aside0.mk hv
        have HC2 := Aside0.mk (Kd.C_below (Kd.C_alloc (Kd.C_alloc HG.out.2.2 _) _) hb)
        have HD2 := Aside0.mk (Kd.C_below (Kd.C_alloc (Kd.C_alloc HJ.out.2.2 _) _) hb)
        clear hv hb a0 a1 q0 q1
        have a0 := HW2.out.one
        have a1 := HW2.out.two
        have q0 : w.heap.size < w2.heap.size := World.block_lt_of_cell? w2 _ a0
        have q1 : w.heap.size + 1 < w2.heap.size := World.block_lt_of_cell? w2 _ a1
        have e7 := (blk_cell B0.out 7).trans (show _ = some (Value.int .i64 a.f3.f0) from rfl)
        have e8 := (blk_cell B0.out 8).trans (show _ = some (Value.int .i64 a.f3.f1) from rfl)
        have e9 := (blk_cell B0.out 9).trans (show _ = some (Value.int .i64 a.f3.f2) from rfl)
        have e10 := (blk_cell B0.out 10).trans (show _ = some (Value.int .i64 a.f3.f3) from rfl)
        have e11 := (blk_cell B0.out 11).trans (show _ = some (Value.slice C2 a.f3.f4.length c2) from rfl)
        have f7 := (blk_cell B1.out 7).trans (show _ = some (Value.int .i64 b.f3.f0) from rfl)
        have f8 := (blk_cell B1.out 8).trans (show _ = some (Value.int .i64 b.f3.f1) from rfl)
        have f9 := (blk_cell B1.out 9).trans (show _ = some (Value.int .i64 b.f3.f2) from rfl)
        have f10 := (blk_cell B1.out 10).trans (show _ = some (Value.int .i64 b.f3.f3) from rfl)
        have f11 := (blk_cell B1.out 11).trans (show _ = some (Value.slice D2 b.f3.f4.length d2) from rfl)
        cases v with
        | false =>
          go_wp2_with fail
          go_ret
          exact same_no HW2.out.below (HNE.out (by (intro e_; cases e_; exact absurd (HV.out.2 rfl) (by simp))))
        | true =>
          go_wp2_with fail
          with_reducible refine (expr_same a.f3 b.f3 C2 c2 D2 d2 _ HC2.out HG.out.2.1 HD2.out HJ.out.2.1).mono ?_
          rintro e w3 ⟨v, rfl, hv, hb⟩
          have HW3 := Aside0.mk (HW2.out.next hb)
          have HV2 := Aside0.mk hv
          clear hv hb a0 a1 q0 q1 e7 e8 e9 e10 e11 f7 f8 f9 f10 f11
          cases v with
          | false =>
            go_wp2_with fail
            go_ret
            exact same_no HW3.out.below (HNE.out (by (intro e_; cases e_; exact absurd (HV2.out.2 rfl) (by simp))))
          | true =>
            go_wp2_with fail
            go_roundg k1
            case measure => omega
            case rel => exact ⟨i + 1, by simp, ⟨by have := HK.out; omega⟩, ⟨by omega⟩, ⟨HNX.out (by obtain ⟨a0, a1, a2, a3⟩ := a; obtain ⟨b0, b1, b2, b3⟩ := b; have h0 : a0 = b0 := HE0.out.1; have h1 : a1 = b1 := HE0.out.2; have h2 : a2 = b2 := HV.out.1 (by trivial); have h3 : a3 = b3 := HV2.out.1 (by trivial); rw [h0, h1, h2, h3])⟩, HW3⟩
      · have hb0 : decide ((i : Int) < (l.length : Int)) = false := decide_eq_false (by omega)
        have HF := Aside0.mk (same_yes (HE.out (take_all hlt HM.out HT.out)) HW.out.below)
        go_wp2_with fail
        go_ret
        exact HF.out
end Go.Proofs.Ytpbdkkahodaloaa.T
end

section
namespace Go.Proofs.Ytpbdkkahodaloaa.T
open Go.RowKit Go.Proofs.Ytpbdkkahodaloaa.PS Go.Proofs.Ytpbdkkahodaloaa.U Go.Proofs.YtpbdkkahodaloaaW.PrintWords Go.Proofs.YtpbdkkahodaloaaW.PrintMore
set_option linter.unusedVariables false
set_option maxRecDepth 100000
structure Boxes (w : World) (cs ds : Array Value) (t : TypeId) (w' : World) : Prop where
  below : Below w.heap.size w w'
  one : w'.heap[w.heap.size]? = some (.cells cs t (0, 0))
  two : w'.heap[w.heap.size + 1]? = some (.cells ds t (0, 0))
theorem Boxes.next {w w' w2 : World} {cs ds : Array Value} {t : TypeId} (h : Boxes w cs ds t w') (hb : Below w'.heap.size w' w2) : Boxes w cs ds t w2 := ⟨below_then h.below h.below.size hb, blk_below h.one hb, blk_below h.two hb⟩
theorem Boxes.new (w : World) (cs ds : Array Value) (t : TypeId) : Boxes w cs ds t ((w.alloc (.cells cs t)).alloc (.cells ds t)) := by
  refine ⟨below_alloc (below_alloc (Below.refl _ _) _) _, blk_alloc (blk_new w _) _, ?_⟩
  have := blk_new (w.alloc (.cells cs t)) (.cells ds t)
  rwa [World.size_alloc] at this
theorem Boxes.lt {w w' : World} {cs ds : Array Value} {t : TypeId} (h : Boxes w cs ds t w') : w.heap.size < w'.heap.size ∧ w.heap.size + 1 < w'.heap.size := ⟨blk_lt h.one, blk_lt h.two⟩
theorem str_at {w : World} {A : Option Addr} {l : List ByteArray} (h : Kd.string.C w A l.length l) {i : Nat} {x : ByteArray} (hx : l[i]? = some x) : ∃ ad, A = some ad ∧ w.cell? (ad.add i) = some (.string x) := by
  have hi := (List.getElem?_eq_some_iff.1 hx).1
  obtain ⟨ad, cs, hA, hlen, hK, hc⟩ := Kd.C_get h (⟨#[]⟩ : ByteArray) (i : Int) (by omega) (by omega)
  have hK : cs = [.string (l.getD (i : Int).toNat ⟨#[]⟩)] := hK
  rw [Int.toNat_natCast, List.getD_eq_getElem?_getD, hx] at hK
  rw [Int.toNat_natCast] at hc
  simp only [Option.getD_some] at hK
  subst hK
  exact ⟨ad, hA, by have := hc 0 _ rfl; rwa [show Kd.string.sz = 1 from rfl, Nat.mul_one, Nat.add_zero] at this⟩
theorem eqA74 (d : Nat) (w : World) (x0 y0 : Int) (x1 y1 : Int) : (Op.equalIn (d + 2) 74 (.agg #[.int .i64 x0, .int .i64 x1]) (.agg #[.int .i64 y0, .int .i64 y1])).run Try.prog w = .ok (x0 == y0 && (x1 == y1)) w := by
  refine eqA_of Try.underlying74 (by kernel_rfl) ?_
  refine eqf_cons (by rfl) (by go_simp; rfl) (by go_simp; rfl) (by go_simp) ?_
  exact eqf_last (by rfl) (by go_simp; rfl) (by go_simp; rfl) (by go_simp)
theorem eqA69 (d : Nat) (w : World) (x0 y0 : ByteArray) (x1 y1 : Int) : (Op.equalIn (d + 2) 69 (.agg #[.string x0, .int .i64 x1]) (.agg #[.string y0, .int .i64 y1])).run Try.prog w = .ok (x0.toList == y0.toList && (x1 == y1)) w := by
  refine eqA_of Try.underlying69 (by kernel_rfl) ?_
  refine eqf_cons (by rfl) (by go_simp; rfl) (by go_simp; rfl) (by go_simp) ?_
  exact eqf_last (by rfl) (by go_simp; rfl) (by go_simp; rfl) (by go_simp)
attribute [local go_sem high] eqA74 eqA69
theorem str_ne {s t : ByteArray} (h : (!s.toList == t.toList) = true) : ¬ s = t := by
  rintro rfl; simp at h
theorem str_eq {s t : ByteArray} (h : (!s.toList == t.toList) = false) : s = t := toList_inj (by simpa using h)
theorem band_eq {s t : S74} (h : (!s.f0 == t.f0) = false ∧ (!s.f1 == t.f1) = false) : s = t := by
  obtain ⟨a, b⟩ := s; obtain ⟨c, d⟩ := t
  have h1 : a = c := by simpa using h.1
  have h2 : b = d := by simpa using h.2
  rw [h1, h2]
theorem band_ne {s t : S74} (h : (!s.f0 == t.f0) = true ∨ (!s.f1 == t.f1) = true) : ¬ s = t := by
  rintro rfl
  rcases h with h | h <;> simp at h
theorem group_eq {s t : S69} (h : (!s.f0.toList == t.f0.toList) = false ∧ (!s.f1 == t.f1) = false) : s = t := by
  obtain ⟨a, b⟩ := s; obtain ⟨c, d⟩ := t
  have h1 : a = c := str_eq h.1
  have h2 : b = d := by simpa using h.2
  rw [h1, h2]
theorem group_ne {s t : S69} (h : (!s.f0.toList == t.f0.toList) = true ∨ (!s.f1 == t.f1) = true) : ¬ s = t := by
  rintro rfl
  rcases h with h | h <;> simp at h
def headsOf (p : Pk) : ByteArray × Int × List S97 × List S72 × List S69 := (p.name, p.year, p.options, p.tables, p.groups)
set_option maxHeartbeats 8000000 in
theorem heads_same (w : World) (u v : Value) (p q : Pk) (hp : Lies w u p) (hq : Lies w v q) : Calls Try.prog 57 #[u, v] w (SamePost (headsOf p) (headsOf q) w) := by
  obtain ⟨A2, c2, A3, c3, A4, c4, A5, c5, A6, c6, rfl, hx2, hx3, hx4, _, _⟩ := hp
  obtain ⟨B2, d2, B3, d3, B4, d4, B5, d5, B6, d6, rfl, hy2, hy3, hy4, _, _⟩ := hq
  obtain ⟨x0, x1, xo, xt, xg, xl, xc⟩ := p
  obtain ⟨y0, y1, yo, yt, yg, yl, yc⟩ := q
  replace hx2 : k97.C w A2 xo.length xo := hx2
  replace hx3 : k72.C w A3 xt.length xt := hx3
  replace hx4 : k69.C w A4 xg.length xg := hx4
  replace hy2 : k97.C w B2 yo.length yo := hy2
  replace hy3 : k72.C w B3 yt.length yt := hy3
  replace hy4 : k69.C w B4 yg.length yg := hy4
  show Calls Try.prog 57 #[.agg #[.string x0, .int .i64 x1, .slice A2 xo.length c2, .slice A3 xt.length c3, .slice A4 xg.length c4, .slice A5 xl.length c5, .slice A6 xc.length c6], .agg #[.string y0, .int .i64 y1, .slice B2 yo.length d2, .slice B3 yt.length d3, .slice B4 yg.length d4, .slice B5 yl.length d5, .slice B6 yc.length d6]] w (SamePost (x0, x1, xo, xt, xg) (y0, y1, yo, yt, yg) w)
  have HX2 := Aside0.mk hx2
  have HX3 := Aside0.mk hx3
  have HX4 := Aside0.mk hx4
  have HY2 := Aside0.mk hy2
  have HY3 := Aside0.mk hy3
  have HY4 := Aside0.mk hy4
  clear hx2 hx3 hx4 hy2 hy3 hy4
  go_enter Try.func57, Try.ntmps57
  go_wp2_with fail
  all_goals try (go_ret; exact same_no (by repeat (first | exact Below.refl _ _ | apply below_alloc | apply pw_below_drewN | apply below_drew1)))
  rename_i g0 g1 g2 g3 g4 _ _
  try rw [g4]
  obtain rfl := g1
  have HM2 := Aside0.mk (show xo.length = yo.length by omega)
  have HM3 := Aside0.mk (show xt.length = yt.length by omega)
  have HM4 := Aside0.mk (len_same g4)
  have HE := Aside0.mk (show xo = yo → xt = yt → xg = yg → (x0, x1, xo, xt, xg) = (y0, x1, yo, yt, yg) from fun a b c => by rw [toList_inj g0, a, b, c])
  have HN2 := Aside0.mk (show ¬ xo = yo → ¬ (x0, x1, xo, xt, xg) = (y0, x1, yo, yt, yg) from fun h e => h (by cases e; rfl))
  have HN3 := Aside0.mk (show ¬ xt = yt → ¬ (x0, x1, xo, xt, xg) = (y0, x1, yo, yt, yg) from fun h e => h (by cases e; rfl))
  have HN4 := Aside0.mk (show ¬ xg = yg → ¬ (x0, x1, xo, xt, xg) = (y0, x1, yo, yt, yg) from fun h e => h (by cases e; rfl))
  clear g0 g2 g3 g4
  rw [← HM2.out] at HY2
  rw [← HM3.out] at HY3
  rw [← HM4.out] at HY4
  rw [← HM2.out, ← HM3.out, ← HM4.out]
  have hmax2 : xo.length ≤ 9223372036854775807 := HX2.out.2.1
  go_loopg [5] (xo.length + 1) (fun kq v5 w' => ∃ i : Nat, v5 = .int .i64 (i : Int) ∧ Aside0 (kq + i = xo.length + 1) ∧ Aside0 (i ≤ xo.length) ∧ Aside0 (xo.take i = yo.take i) ∧ Aside0 (Boxes w #[.string x0, .int .i64 x1, .slice A2 xo.length c2, .slice A3 xt.length c3, .slice A4 xg.length c4, .slice A5 xl.length c5, .slice A6 xc.length c6] #[.string y0, .int .i64 x1, .slice B2 xo.length d2, .slice B3 xt.length d3, .slice B4 xg.length d4, .slice B5 yl.length d5, .slice B6 yc.length d6] 33 w'))
  case atStart => exact ⟨0, rfl, ⟨by omega⟩, ⟨by omega⟩, ⟨rfl⟩, ⟨Boxes.new w _ _ _⟩⟩
  case round =>
    obtain ⟨i, rfl, HK, HI, HT, HW⟩ := hrel
    cases gk with
    | zero => exact absurd HK.out (by have := HI.out; omega)
    | succ k1 =>
      have a0 := (blk_cell HW.out.one 2).trans (show _ = some (Value.slice A2 xo.length c2) from rfl)
      have a1 := (blk_cell HW.out.two 2).trans (show _ = some (Value.slice B2 xo.length d2) from rfl)
      obtain ⟨q0, q1⟩ := HW.out.lt
      by_cases hlt : i < xo.length
      · have hb0 : decide ((i : Int) < (xo.length : Int)) = true := decide_eq_true (by omega)
        obtain ⟨a, ha⟩ : ∃ a, xo[i]? = some a := ⟨_, List.getElem?_eq_getElem hlt⟩
        obtain ⟨b, hb⟩ : ∃ b, yo[i]? = some b := ⟨_, List.getElem?_eq_getElem (by have := HM2.out; omega)⟩
        have hra : rd_T97 xo (i : Int) = a := by unfold rd_T97; rw [Int.toNat_natCast, List.getD_eq_getElem?_getD, ha]; rfl
        have hrb : rd_T97 yo (i : Int) = b := by unfold rd_T97; rw [Int.toNat_natCast, List.getD_eq_getElem?_getD, hb]; rfl
        have HNE := Aside0.mk (fun h => HN2.out (ne_at ha hb h))
        have HNX := Aside0.mk (fun h => drop_next ha hb HT.out h)
        obtain ⟨ad, C1, c1, hA, e0, e1, l1, g1⟩ := at_T97 (Kd.C_below HX2.out HW.out.below) (i : Int) (by omega) (by omega)
        obtain ⟨bd, D1, d1, hB, f0, f1, m1, j1⟩ := at_T97 (Kd.C_below HY2.out HW.out.below) (i : Int) (by omega) (by omega)
        subst hA hB
        rw [hra] at e0 e1 l1 g1
        rw [hrb] at f0 f1 m1 j1
        rw [Int.toNat_natCast] at e0 e1 f0 f1
        have HG := Aside0.mk g1
        have HJ := Aside0.mk j1
        clear hra hrb ha hb l1 g1 m1 j1
        have p0 : (0 : Int) ≤ (i : Int) := by omega
        have p1 : (i : Int) < (xo.length : Int) := by omega
        have q2 := World.block_lt_of_cell? wr _ e0
        have q3 := World.block_lt_of_cell? wr _ f0
        go_wp2_with fail
        all_goals try (go_ret; exact same_no (by repeat (first | exact HW.out.below | apply below_alloc | apply pw_below_drewN | apply below_drew1)) (HNE.out (by (intro e_; cases e_; first | exact absurd rfl (by assumption) | (have h_ : ∀ z : Int, ¬ ((z != z) = true) := (fun z => by simp); exact absurd (by assumption) (h_ _))))))
        have r0 := toList_inj (show a.f0.toList = b.f0.toList by assumption)
        have r1 : ((a.f1.length : Int) != (b.f1.length : Int)) = false := by assumption
        rw [r1]
        have HM := Aside0.mk (len_same r1)
        have HQ := Aside0.mk (show a.f1 = b.f1 → a = b from fun h => by obtain ⟨_, _⟩ := a; obtain ⟨_, _⟩ := b; cases r0; cases h; rfl)
        rw [← HM.out] at HJ
        rw [← HM.out]
        have hmx : a.f1.length ≤ 9223372036854775807 := HG.out.2.1
        clear r0 r1 e0 e1 f0 f1 q2 q3 p0 p1
        obtain ⟨wq, hwq⟩ : ∃ wq, wq = wr := ⟨_, rfl⟩
        subst hwq
        go_loopg [8] (a.f1.length + 1) (fun kq v8 w' => ∃ j : Nat, v8 = .int .i64 (j : Int) ∧ Aside0 (kq + j = a.f1.length + 1) ∧ Aside0 (j ≤ a.f1.length) ∧ Aside0 (a.f1.take j = b.f1.take j) ∧ Aside0 (Two wq 1 (.slice C1 a.f1.length c1) (.slice D1 a.f1.length d1) w'))
        case atStart => exact ⟨0, rfl, ⟨by omega⟩, ⟨by omega⟩, ⟨rfl⟩, ⟨Two.new wq _ _ _ 1 rfl rfl⟩⟩
        case round =>
          obtain ⟨j, rfl, HKj, HIj, HTj, HWj⟩ := hrel
          cases gk with
          | zero => exact absurd HKj.out (by have := HIj.out; omega)
          | succ k2 =>
            have s0 := HWj.out.one
            have s1 := HWj.out.two
            by_cases hlj : j < a.f1.length
            · have hb1 : decide ((j : Int) < (a.f1.length : Int)) = true := decide_eq_true (by omega)
              obtain ⟨s, hs⟩ : ∃ s, a.f1[j]? = some s := ⟨_, List.getElem?_eq_getElem hlj⟩
              obtain ⟨t, ht⟩ : ∃ t, b.f1[j]? = some t := ⟨_, List.getElem?_eq_getElem (by have := HM.out; omega)⟩
              obtain ⟨sd, hA, e0⟩ := str_at (Kd.C_below HG.out HWj.out.below) hs
              have HJ2 := Kd.C_below HJ.out HWj.out.below
              rw [HM.out] at HJ2
              obtain ⟨td, hB, f0⟩ := str_at HJ2 ht
              clear HJ2
              subst hA hB
              have HNEj := Aside0.mk (fun h => HNE.out (fun e => ne_at hs ht h (by rw [e])))
              have HNXj := Aside0.mk (fun h => drop_next hs ht HTj.out h)
              have HBB := Aside0.mk (below_then HW.out.below HW.out.below.size HWj.out.below)
              clear hs ht
              have p0 : (0 : Int) ≤ (j : Int) := by omega
              have p1 : (j : Int) < (a.f1.length : Int) := by omega
              go_wp2_with fail
              go_quiet (fail)
              go_wp2_with fail
              all_goals try (go_ret; exact same_no (by repeat (first | exact HBB.out | apply below_alloc | apply pw_below_drewN | apply below_drew1)) (HNEj.out (by (intro e_; exact str_ne (by assumption) e_))))
              go_roundg k2
              case measure => omega
              case rel => exact ⟨j + 1, by simp, ⟨by have := HKj.out; omega⟩, ⟨by omega⟩, ⟨HNXj.out (str_eq (by assumption))⟩, ⟨HWj.out.next (pw_below_drewN (Below.refl _ _) _)⟩⟩
            · have hb1 : decide ((j : Int) < (a.f1.length : Int)) = false := decide_eq_false (by omega)
              have HQQ := Aside0.mk (HQ.out (take_all hlj HM.out HTj.out))
              go_wp2_with fail
              go_roundg k1
              case measure => omega
              case rel => exact ⟨i + 1, by simp, ⟨by have := HK.out; omega⟩, ⟨by omega⟩, ⟨HNX.out HQQ.out⟩, ⟨HW.out.next HWj.out.below⟩⟩
      · have hb0 : decide ((i : Int) < (xo.length : Int)) = false := decide_eq_false (by omega)
        have HR2 := Aside0.mk (take_all hlt HM2.out HT.out)
        have HP2 := HW
        clear HK HI HT HW hb0
        obtain ⟨v2, hv2⟩ : ∃ v2, v2 = wr := ⟨_, rfl⟩
        subst hv2
        go_wp2_with fail
        have hmax3 : xt.length ≤ 9223372036854775807 := HX3.out.2.1
        go_loopg [9] (xt.length + 1) (fun kq v5 w' => ∃ i : Nat, v5 = .int .i64 (i : Int) ∧ Aside0 (kq + i = xt.length + 1) ∧ Aside0 (i ≤ xt.length) ∧ Aside0 (xt.take i = yt.take i) ∧ Aside0 (Boxes w #[.string x0, .int .i64 x1, .slice A2 xo.length c2, .slice A3 xt.length c3, .slice A4 xg.length c4, .slice A5 xl.length c5, .slice A6 xc.length c6] #[.string y0, .int .i64 x1, .slice B2 xo.length d2, .slice B3 xt.length d3, .slice B4 xg.length d4, .slice B5 yl.length d5, .slice B6 yc.length d6] 33 w'))
        case atStart => exact ⟨0, rfl, ⟨by omega⟩, ⟨by omega⟩, ⟨rfl⟩, HP2⟩
        case round =>
          obtain ⟨i, rfl, HK, HI, HT, HW⟩ := hrel
          cases gk with
          | zero => exact absurd HK.out (by have := HI.out; omega)
          | succ k1 =>
            have a0 := (blk_cell HW.out.one 3).trans (show _ = some (Value.slice A3 xt.length c3) from rfl)
            have a1 := (blk_cell HW.out.two 3).trans (show _ = some (Value.slice B3 xt.length d3) from rfl)
            obtain ⟨q0, q1⟩ := HW.out.lt
            by_cases hlt : i < xt.length
            · have hb0 : decide ((i : Int) < (xt.length : Int)) = true := decide_eq_true (by omega)
              obtain ⟨a, ha⟩ : ∃ a, xt[i]? = some a := ⟨_, List.getElem?_eq_getElem hlt⟩
              obtain ⟨b, hb⟩ : ∃ b, yt[i]? = some b := ⟨_, List.getElem?_eq_getElem (by have := HM3.out; omega)⟩
              have hra : rd_T72 xt (i : Int) = a := by unfold rd_T72; rw [Int.toNat_natCast, List.getD_eq_getElem?_getD, ha]; rfl
              have hrb : rd_T72 yt (i : Int) = b := by unfold rd_T72; rw [Int.toNat_natCast, List.getD_eq_getElem?_getD, hb]; rfl
              have HNE := Aside0.mk (fun h => HN3.out (ne_at ha hb h))
              have HNX := Aside0.mk (fun h => drop_next ha hb HT.out h)
              obtain ⟨ad, C1, c1, hA, e0, e1, l1, g1⟩ := at_T72 (Kd.C_below HX3.out HW.out.below) (i : Int) (by omega) (by omega)
              obtain ⟨bd, D1, d1, hB, f0, f1, m1, j1⟩ := at_T72 (Kd.C_below HY3.out HW.out.below) (i : Int) (by omega) (by omega)
              subst hA hB
              rw [hra] at e0 e1 l1 g1
              rw [hrb] at f0 f1 m1 j1
              rw [Int.toNat_natCast] at e0 e1 f0 f1
              have HG := Aside0.mk g1
              have HJ := Aside0.mk j1
              clear hra hrb ha hb l1 g1 m1 j1
              have p0 : (0 : Int) ≤ (i : Int) := by omega
              have p1 : (i : Int) < (xt.length : Int) := by omega
              have q2 := World.block_lt_of_cell? wr _ e0
              have q3 := World.block_lt_of_cell? wr _ f0
              go_wp2_with fail
              all_goals try (go_ret; exact same_no (by repeat (first | exact HW.out.below | apply below_alloc | apply pw_below_drewN | apply below_drew1)) (HNE.out (by (intro e_; cases e_; first | exact absurd rfl (by assumption) | (have h_ : ∀ z : Int, ¬ ((z != z) = true) := (fun z => by simp); exact absurd (by assumption) (h_ _))))))
              have r0 := toList_inj (show a.f0.toList = b.f0.toList by assumption)
              have r1 : ((a.f1.length : Int) != (b.f1.length : Int)) = false := by assumption
              rw [r1]
              have HM := Aside0.mk (len_same r1)
              have HQ := Aside0.mk (show a.f1 = b.f1 → a = b from fun h => by obtain ⟨_, _⟩ := a; obtain ⟨_, _⟩ := b; cases r0; cases h; rfl)
              rw [← HM.out] at HJ
              rw [← HM.out]
              have hmx : a.f1.length ≤ 9223372036854775807 := HG.out.2.1
              clear r0 r1 e0 e1 f0 f1 q2 q3 p0 p1
              obtain ⟨wq, hwq⟩ : ∃ wq, wq = wr := ⟨_, rfl⟩
              subst hwq
              go_loopg [12] (a.f1.length + 1) (fun kq v8 w' => ∃ j : Nat, v8 = .int .i64 (j : Int) ∧ Aside0 (kq + j = a.f1.length + 1) ∧ Aside0 (j ≤ a.f1.length) ∧ Aside0 (a.f1.take j = b.f1.take j) ∧ Aside0 (Two wq 1 (.slice C1 a.f1.length c1) (.slice D1 a.f1.length d1) w'))
              case atStart => exact ⟨0, rfl, ⟨by omega⟩, ⟨by omega⟩, ⟨rfl⟩, ⟨Two.new wq _ _ _ 1 rfl rfl⟩⟩
              case round =>
                obtain ⟨j, rfl, HKj, HIj, HTj, HWj⟩ := hrel
                cases gk with
                | zero => exact absurd HKj.out (by have := HIj.out; omega)
                | succ k2 =>
                  have s0 := HWj.out.one
                  have s1 := HWj.out.two
                  by_cases hlj : j < a.f1.length
                  · have hb1 : decide ((j : Int) < (a.f1.length : Int)) = true := decide_eq_true (by omega)
                    obtain ⟨s, hs⟩ : ∃ s, a.f1[j]? = some s := ⟨_, List.getElem?_eq_getElem hlj⟩
                    obtain ⟨t, ht⟩ : ∃ t, b.f1[j]? = some t := ⟨_, List.getElem?_eq_getElem (by have := HM.out; omega)⟩
                    have hrs : rd_T74 a.f1 (j : Int) = s := by unfold rd_T74; rw [Int.toNat_natCast, List.getD_eq_getElem?_getD, hs]; rfl
                    have hrt : rd_T74 b.f1 (j : Int) = t := by unfold rd_T74; rw [Int.toNat_natCast, List.getD_eq_getElem?_getD, ht]; rfl
                    obtain ⟨sd, hA, e0, e1⟩ := at_T74 (Kd.C_below HG.out HWj.out.below) (j : Int) (by omega) (by omega)
                    obtain ⟨td, hB, f0, f1⟩ := at_T74 (Kd.C_below HJ.out HWj.out.below) (j : Int) (by omega) (by omega)
                    rw [hrs] at e0 e1
                    rw [hrt] at f0 f1
                    rw [Int.toNat_natCast] at e0 e1 f0 f1
                    clear hrs hrt
                    subst hA hB
                    have HNEj := Aside0.mk (fun h => HNE.out (fun e => ne_at hs ht h (by rw [e])))
                    have HNXj := Aside0.mk (fun h => drop_next hs ht HTj.out h)
                    have HBB := Aside0.mk (below_then HW.out.below HW.out.below.size HWj.out.below)
                    clear hs ht
                    have p0 : (0 : Int) ≤ (j : Int) := by omega
                    have p1 : (j : Int) < (a.f1.length : Int) := by omega
                    go_wp2_with fail
                    go_quiet (fail)
                    go_wp2_with fail
                    all_goals try (go_ret; exact same_no (by repeat (first | exact HBB.out | apply below_alloc | apply pw_below_drewN | apply below_drew1)) (HNEj.out (by (intro e_; exact band_ne (by assumption) e_))))
                    go_roundg k2
                    case measure => omega
                    case rel => exact ⟨j + 1, by simp, ⟨by have := HKj.out; omega⟩, ⟨by omega⟩, ⟨HNXj.out (band_eq (by assumption))⟩, ⟨HWj.out.next (pw_below_drewN (Below.refl _ _) _)⟩⟩
                  · have hb1 : decide ((j : Int) < (a.f1.length : Int)) = false := decide_eq_false (by omega)
                    have HQQ := Aside0.mk (HQ.out (take_all hlj HM.out HTj.out))
                    go_wp2_with fail
                    go_roundg k1
                    case measure => omega
                    case rel => exact ⟨i + 1, by simp, ⟨by have := HK.out; omega⟩, ⟨by omega⟩, ⟨HNX.out HQQ.out⟩, ⟨HW.out.next HWj.out.below⟩⟩
            · have hb0 : decide ((i : Int) < (xt.length : Int)) = false := decide_eq_false (by omega)
              have HR3 := Aside0.mk (take_all hlt HM3.out HT.out)
              have HP3 := HW
              clear HK HI HT HW hb0
              obtain ⟨v3, hv3⟩ : ∃ v3, v3 = wr := ⟨_, rfl⟩
              subst hv3
              go_wp2_with fail
              have hmax4 : xg.length ≤ 9223372036854775807 := HX4.out.2.1
              go_loopg [13] (xg.length + 1) (fun kq v5 w' => ∃ i : Nat, v5 = .int .i64 (i : Int) ∧ Aside0 (kq + i = xg.length + 1) ∧ Aside0 (i ≤ xg.length) ∧ Aside0 (xg.take i = yg.take i) ∧ Aside0 (Boxes w #[.string x0, .int .i64 x1, .slice A2 xo.length c2, .slice A3 xt.length c3, .slice A4 xg.length c4, .slice A5 xl.length c5, .slice A6 xc.length c6] #[.string y0, .int .i64 x1, .slice B2 xo.length d2, .slice B3 xt.length d3, .slice B4 xg.length d4, .slice B5 yl.length d5, .slice B6 yc.length d6] 33 w'))
              case atStart => exact ⟨0, rfl, ⟨by omega⟩, ⟨by omega⟩, ⟨rfl⟩, HP3⟩
              case round =>
                obtain ⟨i, rfl, HK, HI, HT, HW⟩ := hrel
                cases gk with
                | zero => exact absurd HK.out (by have := HI.out; omega)
                | succ k1 =>
                  have a0 := (blk_cell HW.out.one 4).trans (show _ = some (Value.slice A4 xg.length c4) from rfl)
                  have a1 := (blk_cell HW.out.two 4).trans (show _ = some (Value.slice B4 xg.length d4) from rfl)
                  obtain ⟨q0, q1⟩ := HW.out.lt
                  by_cases hlt : i < xg.length
                  · have hb0 : decide ((i : Int) < (xg.length : Int)) = true := decide_eq_true (by omega)
                    obtain ⟨a, ha⟩ : ∃ a, xg[i]? = some a := ⟨_, List.getElem?_eq_getElem hlt⟩
                    obtain ⟨b, hb⟩ : ∃ b, yg[i]? = some b := ⟨_, List.getElem?_eq_getElem (by have := HM4.out; omega)⟩
                    have hra : rd_T69 xg (i : Int) = a := by unfold rd_T69; rw [Int.toNat_natCast, List.getD_eq_getElem?_getD, ha]; rfl
                    have hrb : rd_T69 yg (i : Int) = b := by unfold rd_T69; rw [Int.toNat_natCast, List.getD_eq_getElem?_getD, hb]; rfl
                    have HNE := Aside0.mk (fun h => HN4.out (ne_at ha hb h))
                    have HNX := Aside0.mk (fun h => drop_next ha hb HT.out h)
                    obtain ⟨ad, hA, e0, e1⟩ := at_T69 (Kd.C_below HX4.out HW.out.below) (i : Int) (by omega) (by omega)
                    obtain ⟨bd, hB, f0, f1⟩ := at_T69 (Kd.C_below HY4.out HW.out.below) (i : Int) (by omega) (by omega)
                    subst hA hB
                    rw [hra] at e0 e1
                    rw [hrb] at f0 f1
                    rw [Int.toNat_natCast] at e0 e1 f0 f1
                    clear hra hrb ha hb
                    have p0 : (0 : Int) ≤ (i : Int) := by omega
                    have p1 : (i : Int) < (xg.length : Int) := by omega
                    go_wp2_with fail
                    go_quiet (fail)
                    go_wp2_with fail
                    all_goals try (go_ret; exact same_no (by repeat (first | exact HW.out.below | apply below_alloc | apply pw_below_drewN | apply below_drew1)) (HNE.out (by (intro e_; exact group_ne (by assumption) e_))))
                    go_roundg k1
                    case measure => omega
                    case rel => exact ⟨i + 1, by simp, ⟨by have := HK.out; omega⟩, ⟨by omega⟩, ⟨HNX.out (group_eq (by assumption))⟩, ⟨HW.out.next (pw_below_drewN (Below.refl _ _) _)⟩⟩
                  · have hb0 : decide ((i : Int) < (xg.length : Int)) = false := decide_eq_false (by omega)
                    have HR4 := Aside0.mk (take_all hlt HM4.out HT.out)
                    have HP4 := HW
                    clear HK HI HT HW hb0
                    obtain ⟨v4, hv4⟩ : ∃ v4, v4 = wr := ⟨_, rfl⟩
                    subst hv4
                    go_wp2_with fail
                    go_ret
                    exact same_yes (HE.out HR2.out HR3.out HR4.out) (by repeat (first | exact HP4.out.below | apply below_alloc | apply pw_below_drewN | apply below_drew1))
end Go.Proofs.Ytpbdkkahodaloaa.T
end

section
namespace Go.Proofs.Ytpbdkkahodaloaa.J
open Go.RowKit Go.Proofs.Ytpbdkkahodaloaa.PS Go.Proofs.Ytpbdkkahodaloaa.U Go.Proofs.Ytpbdkkahodaloaa.T Go.Proofs.YtpbdkkahodaloaaW.PrintWords Go.Proofs.YtpbdkkahodaloaaW.PrintMore
set_option linter.unusedVariables false
set_option maxRecDepth 100000
def BoolPost (φ : Prop) (w : World) (e : Ending) (w' : World) : Prop := ∃ v, e = .returned (.bool v) ∧ (v = true → φ) ∧ Below w.heap.size w w'
def IntPost (φ : Int → Prop) (w : World) (e : Ending) (w' : World) : Prop := ∃ v, e = .returned (.int .i64 v) ∧ φ v ∧ Below w.heap.size w w'
theorem bool_no {φ : Prop} {w w' : World} (hb : Below w.heap.size w w') : BoolPost φ w (.returned (.bool false)) w' := ⟨false, rfl, (fun h => by cases h), hb⟩
theorem bool_yes {φ : Prop} {w w' : World} (h : φ) (hb : Below w.heap.size w w') : BoolPost φ w (.returned (.bool true)) w' := ⟨true, rfl, (fun _ => h), hb⟩
theorem bel {w w' : World} (h : Below w.heap.size w w' := by repeat (first | exact Below.refl _ _ | exact Aside0.out (by assumption) | apply below_alloc | apply pw_below_drewN | apply below_drew1 | apply below_drew)) : Below w.heap.size w w' := h
set_option maxHeartbeats 4000000 in
theorem named_c (s : ByteArray) (w : World) : Calls Try.prog 129 #[.string s] w (BoolPost (s.size ≤ 12) w) := by
  go_enter Try.func129, Try.ntmps129
  go_wp2_with fail
  all_goals try (go_ret; exact bool_no bel)
  rename_i h0 h1 h2 h3 h4 _ _
  have HS := Aside0.mk (show s.size ≤ 12 by omega)
  go_loopg [3] (s.size + 1) (fun kq v3 w' => ∃ i : Nat, v3 = .int .i64 (i : Int) ∧ Aside0 (kq + i = s.size + 1) ∧ Aside0 (i ≤ s.size) ∧ Aside0 (Below w.heap.size w w'))
  case atStart => exact ⟨0, rfl, ⟨by omega⟩, ⟨by omega⟩, ⟨bel⟩⟩
  case round =>
    obtain ⟨i, rfl, HK, HI, HB⟩ := hrel
    cases gk with
    | zero => exact absurd HK.out (by have := HI.out; omega)
    | succ k1 =>
      by_cases hlt : i < s.size
      · have p0 : (0 : Int) ≤ (i : Int) := by omega
        have p1 : (i : Int) < (s.size : Int) := by omega
        go_wp2_with fail
        all_goals first
          | (go_ret; exact bool_no bel)
          | (go_roundg k1; (case measure => omega); (case rel => exact ⟨i + 1, by simp, ⟨by have := HK.out; omega⟩, ⟨by omega⟩, ⟨bel⟩⟩))
      · go_wp2_with fail
        go_ret
        exact bool_yes HS.out bel
end Go.Proofs.Ytpbdkkahodaloaa.J
end

section
namespace Go.Proofs.Ytpbdkkahodaloaa.J
open Go.RowKit Go.Proofs.Ytpbdkkahodaloaa.PS Go.Proofs.Ytpbdkkahodaloaa.U Go.Proofs.Ytpbdkkahodaloaa.T Go.Proofs.YtpbdkkahodaloaaW.PrintWords Go.Proofs.YtpbdkkahodaloaaW.PrintMore
set_option linter.unusedVariables false
set_option maxRecDepth 100000
theorem int_post {φ : Int → Prop} {v : Int} {w w' : World} (h : φ v) (hb : Below w.heap.size w w') : IntPost φ w (.returned (.int .i64 v)) w' := ⟨v, rfl, h, hb⟩
set_option maxHeartbeats 4000000 in
theorem among_c (l : List ByteArray) (A : Option Addr) (c : Nat) (s : ByteArray) (w : World) (hC : Kd.string.C w A l.length l) : Calls Try.prog 147 #[.slice A l.length c, .string s] w (BoolPost True w) := by
  have HC := Aside0.mk hC
  have hmax : l.length ≤ 9223372036854775807 := hC.2.1
  clear hC
  go_enter Try.func147, Try.ntmps147
  go_wp2_with fail
  go_loopg [5] (l.length + 1) (fun kq v3 w' => ∃ i : Nat, v3 = .int .i64 (i : Int) ∧ Aside0 (kq + i = l.length + 1) ∧ Aside0 (i ≤ l.length) ∧ Aside0 (Below w.heap.size w w'))
  case atStart => exact ⟨0, rfl, ⟨by omega⟩, ⟨by omega⟩, ⟨bel⟩⟩
  case round =>
    obtain ⟨i, rfl, HK, HI, HB⟩ := hrel
    cases gk with
    | zero => exact absurd HK.out (by have := HI.out; omega)
    | succ k1 =>
      by_cases hlt : i < l.length
      · obtain ⟨t, ht⟩ : ∃ t, l[i]? = some t := ⟨_, List.getElem?_eq_getElem hlt⟩
        obtain ⟨ad, hA, e0⟩ := str_at (Kd.C_below HC.out HB.out) ht
        subst hA
        have p0 : (0 : Int) ≤ (i : Int) := by omega
        have p1 : (i : Int) < (l.length : Int) := by omega
        clear ht
        go_wp2_with fail
        all_goals first
          | (go_ret; exact bool_yes trivial bel)
          | (go_roundg k1; (case measure => omega); (case rel => exact ⟨i + 1, by simp, ⟨by have := HK.out; omega⟩, ⟨by omega⟩, ⟨bel⟩⟩))
      · go_wp2_with fail
        go_ret
        exact bool_no bel
theorem look_c (l : List ByteArray) (A : Option Addr) (c : Nat) (s : ByteArray) (w : World) (hC : Kd.string.C w A l.length l) : Calls Try.prog 132 #[.slice A l.length c, .string s] w (IntPost (fun v => v = 0 → s.size ≤ 12) w) := by
  have HC := Aside0.mk hC
  clear hC
  go_enter Try.func132, Try.ntmps132
  go_wp2_with fail
  with_reducible refine (named_c s w).mono ?_
  rintro e w1 ⟨v, rfl, hv, hb⟩
  have HB := Aside0.mk hb
  have HV := Aside0.mk hv
  have HC1 := Aside0.mk (Kd.C_below HC.out hb)
  clear hv hb
  cases v with
  | false =>
    go_wp2_with fail
    go_ret
    exact int_post (fun h => absurd h (by decide)) HB.out
  | true =>
    go_wp2_with fail
    with_reducible refine (among_c l A c s w1 HC1.out).mono ?_
    rintro e w2 ⟨v, rfl, _, hb⟩
    have HB2 := Aside0.mk (below_then HB.out HB.out.size hb)
    clear hb
    cases v with
    | true =>
      go_wp2_with fail
      go_ret
      exact int_post (fun h => absurd h (by decide)) HB2.out
    | false =>
      go_wp2_with fail
      go_ret
      exact int_post (fun _ => HV.out (by trivial)) HB2.out
theorem inRows_c (n : Int) (w : World) : Calls Try.prog 151 #[.int .i64 n] w (IntPost (fun _ => True) w) := by
  go_enter Try.func151, Try.ntmps151
  go_wp2_with fail
  all_goals (go_ret; exact int_post trivial bel)
structure Bx (w : World) (cs : Array Value) (t : TypeId) (w' : World) : Prop where
  below : Below w.heap.size w w'
  one : w'.heap[w.heap.size]? = some (.cells cs t (0, 0))
theorem Bx.next {w w' w2 : World} {cs : Array Value} {t : TypeId} (h : Bx w cs t w') (hb : Below w'.heap.size w' w2) : Bx w cs t w2 := ⟨below_then h.below h.below.size hb, blk_below h.one hb⟩
theorem Bx.new (w : World) (cs : Array Value) (t : TypeId) : Bx w cs t (w.alloc (.cells cs t)) := ⟨below_alloc (Below.refl _ _) _, blk_new w _⟩
theorem rows_c (w : World) (u : Value) (p : Pk) (hp : Lies w u p) (g : Int) : Calls Try.prog 150 #[u, .int .i64 g] w (IntPost (fun _ => True) w) := by
  obtain ⟨A2, c2, A3, c3, A4, c4, A5, c5, A6, c6, rfl, _, _, hx4, _⟩ := hp
  by_cases h0 : 0 ≤ g ∧ g < p.groups.length
  · obtain ⟨h1, h2⟩ := h0
    obtain ⟨ad, hA, e0, e1⟩ := at_T69 (Kd.C_alloc hx4 (.cells #[.string p.name, .int .i64 p.year, .slice A2 p.options.length c2, .slice A3 p.tables.length c3, .slice A4 p.groups.length c4, .slice A5 p.lines.length c5, .slice A6 p.checks.length c6] 33)) g h1 h2
    subst hA
    clear hx4
    go_enter Try.func150, Try.ntmps150
    go_wp2_with fail
    refine (inRows_c _ _).mono ?_
    rintro e w1 ⟨v, rfl, _, hb⟩
    have HB := Aside0.mk (below_then (below_alloc (Below.refl w.heap.size w) _) (by rw [World.size_alloc]; omega) hb)
    clear hb
    go_wp2_with fail
    go_ret
    exact int_post trivial HB.out
  · go_enter Try.func150, Try.ntmps150
    go_wp2_with fail
    all_goals first
      | (go_ret; exact int_post trivial bel)
      | omega
theorem group_c (w : World) (u : Value) (p : Pk) (hp : Lies w u p) (g : Int) : Calls Try.prog 148 #[u, .int .i64 g] w (BoolPost True w) := by
  obtain ⟨A2, c2, A3, c3, A4, c4, A5, c5, A6, c6, rfl, _⟩ := hp
  go_enter Try.func148, Try.ntmps148
  go_wp2_with fail
  all_goals (go_ret; exact ⟨_, rfl, (fun _ => trivial), bel⟩)
structure Few (p : Pk) : Prop where
  o : p.options.length ≤ 4
  t : p.tables.length ≤ 4
  g : p.groups.length ≤ 4
  l : p.lines.length ≤ 48
  c : p.checks.length ≤ 16
  l1 : 1 ≤ p.lines.length
theorem sizes_c (w : World) (u : Value) (p : Pk) (hp : Lies w u p) : Calls Try.prog 105 #[u] w (IntPost (fun v => 0 ≤ v ∧ (v = 0 → Few p)) w) := by
  obtain ⟨A2, c2, A3, c3, A4, c4, A5, c5, A6, c6, rfl, _⟩ := hp
  go_enter Try.func105, Try.ntmps105
  go_wp2_with fail
  all_goals (go_ret; first | exact int_post ⟨by decide, fun h => absurd h (by decide)⟩ bel | exact int_post ⟨by decide, fun _ => ⟨by omega, by omega, by omega, by omega, by omega, by omega⟩⟩ bel)
structure OkO (x : S97) : Prop where
  name : x.f0.size ≤ 12
  len : x.f1.length ≤ 8
  all : ∀ s ∈ x.f1, s.size ≤ 12
theorem info9 : (Try.prog.info? 9).map (fun i => (i.zero, i.size, i.bytes)) = some (some (.string ⟨#[]⟩), 1, 16) := by kernel_rfl
theorem cut_texts {A : Option Addr} {n c : Nat} (m : Nat) (hm : m ≤ n) (hc : n ≤ c) : ∀ W, (Instr.slice 95 (.slice A n c) none (some (.int .i64 (m : Int))) none).run Try.prog W = .ok (.slice A m c) W := by
  obtain ⟨i0, hi0, hz0, hz1, hz2⟩ := info_parts info9
  exact cut_to 95 9 .i64 Try.underlying95 hi0 A n c (m : Int) (by omega) (by omega) hc
theorem take_next {α : Type} {φ : α → Prop} {l : List α} {i : Nat} {a : α} (ha : l[i]? = some a) (h : ∀ x ∈ l.take i, φ x) (hp : φ a) : ∀ x ∈ l.take (i + 1), φ x := by
  intro x hx
  rw [List.take_add_one, ha] at hx
  rcases List.mem_append.1 hx with hx | hx
  · exact h x hx
  · have : x = a := by simpa using hx
    rw [this]; exact hp
set_option maxHeartbeats 4000000 in
theorem options_c (x : S97) (A1 : Option Addr) (c1 : Nat) (l : List ByteArray) (A : Option Addr) (c : Nat) (w : World) (hx : Kd.string.C w A1 x.f1.length x.f1) (hxc : x.f1.length ≤ c1) (hC : Kd.string.C w A l.length l) :
    Calls Try.prog 130 #[.agg #[.string x.f0, .slice A1 x.f1.length c1], .slice A l.length c] w (IntPost (fun v => v = 0 → OkO x) w) := by
  have HX := Aside0.mk hx
  have HXC := Aside0.mk hxc
  have HC := Aside0.mk hC
  have B0 := Aside0.mk (Bx.new w #[.string x.f0, .slice A1 x.f1.length c1] 97)
  clear hx hxc hC
  go_enter Try.func130, Try.ntmps130
  go_wp2_with fail
  with_reducible refine (look_c l A c x.f0 _ (Kd.C_alloc HC.out _)).mono ?_
  rintro e w1 ⟨v, rfl, hv, hb⟩
  have B1 := Aside0.mk (B0.out.next hb)
  have HV := Aside0.mk hv
  clear hv hb
  have a0 := (blk_cell B1.out.one 1).trans (show _ = some (Value.slice A1 x.f1.length c1) from rfl)
  by_cases h0 : v = 0
  case neg =>
    go_wp2_with fail
    go_ret
    exact int_post (fun h => absurd h h0) B1.out.below
  subst h0
  have HN := Aside0.mk (HV.out rfl)
  clear HV
  go_wp2_with fail
  all_goals try (go_ret; exact int_post (fun h => absurd h (by decide)) B1.out.below)
  have HL := Aside0.mk (show x.f1.length ≤ 8 by omega)
  clear a0
  go_loopg [5, 6] (x.f1.length + 1) (fun kq v5 v6 w' => ∃ i : Nat, v5 = .int .i64 0 ∧ v6 = .int .i64 (i : Int) ∧ Aside0 (kq + i = x.f1.length + 1) ∧ Aside0 (i ≤ x.f1.length) ∧ Aside0 (∀ s ∈ x.f1.take i, s.size ≤ 12) ∧ Aside0 (Bx w #[.string x.f0, .slice A1 x.f1.length c1] 97 w'))
  case atStart => exact ⟨0, rfl, rfl, ⟨by omega⟩, ⟨by omega⟩, ⟨by simp⟩, B1⟩
  case round =>
    clear B1
    obtain ⟨i, rfl, rfl, HK, HI, HT, HW⟩ := hrel
    cases gk with
    | zero => exact absurd HK.out (by have := HI.out; omega)
    | succ k1 =>
      have a0 := (blk_cell HW.out.one 1).trans (show _ = some (Value.slice A1 x.f1.length c1) from rfl)
      by_cases hlt : i < x.f1.length
      · obtain ⟨s, hs⟩ : ∃ s, x.f1[i]? = some s := ⟨_, List.getElem?_eq_getElem hlt⟩
        obtain ⟨ad, hA, e0⟩ := str_at (Kd.C_below HX.out HW.out.below) hs
        subst hA
        have p0 : (0 : Int) ≤ (i : Int) := by omega
        have p1 : (i : Int) < (x.f1.length : Int) := by omega
        have hcut : ∀ W, (Instr.slice 95 (.slice (some ad) x.f1.length c1) none (some (.int .i64 (i : Int))) none).run Try.prog W = .ok (.slice (some ad) i c1) W := cut_texts i (by omega) HXC.out
        have hC5 := Kd.C_take (m := i) (Kd.C_below HX.out HW.out.below) (by omega)
        rw [show (x.f1.take i).length = i by rw [List.length_take]; omega] at hC5
        have CW := Aside0.mk (fun (W : World) (hW : Below wr.heap.size wr W) => (show Calls Try.prog 132 #[.slice (some ad) i c1, .string s] W (IntPost (fun v => v = 0 → s.size ≤ 12) W) by
          have h := look_c (x.f1.take i) (some ad) c1 s W (by rw [show (x.f1.take i).length = i by rw [List.length_take]; omega]; exact Kd.C_below hC5 hW)
          rwa [show (x.f1.take i).length = i by rw [List.length_take]; omega] at h))
        have HS := Aside0.mk hs
        have hdr : Below wr.heap.size wr wr := Below.refl _ _
        clear hs hC5
        go_upto_region 9 with (fail)
        go_region_held3 (fun w' => w'.cell? ⟨w.heap.size, 1, none⟩ = some (.slice (some ad) x.f1.length c1) ∧ w'.cell? (ad.add i) = some (.string s) ∧ Below wr.heap.size wr w')
          (first | ((try go_split_ands); refine ⟨?_, ?_, ?_⟩ <;> (first | assumption | exact Below.refl _ _ | exact below_drew1 (by assumption) | exact below_drew (by assumption) | exact old_cell (by assumption) (by assumption) | exact below_then (by assumption) (Below.size (by assumption)) (by assumption) | go_keep)))
          (first | (go_at_call 132; refine (CW.out _ (by first | assumption | exact below_drew (Below.refl _ _) | exact below_drew (by assumption))).mono ?_; rintro e w' ⟨v, rfl, hv, hbv⟩))
        have HB := Aside0.mk (below_then (below_drew (Below.refl wr.heap.size wr)) (Nat.le_refl _) hbv)
        have HV := Aside0.mk hv
        clear hv hbv hcut a0 e0 hdr
        by_cases h0 : v = 0
        · subst h0
          go_wp2_with fail
          go_roundg k1
          case measure => omega
          case rel => exact ⟨i + 1, rfl, by simp, ⟨by have := HK.out; omega⟩, ⟨by omega⟩, ⟨take_next HS.out HT.out (HV.out (by trivial))⟩, ⟨HW.out.next HB.out⟩⟩
        · go_wp2_with fail
          go_ret
          exact int_post (fun h => absurd h h0) (below_then HW.out.below HW.out.below.size HB.out)
      · have HF := Aside0.mk (show OkO x from ⟨HN.out, HL.out, by have := HT.out; rwa [List.take_of_length_le (by omega)] at this⟩)
        go_wp2_with fail
        go_ret
        exact int_post (fun _ => HF.out) HW.out.below
structure OkT (x : S72) : Prop where
  name : x.f0.size ≤ 12
  len : x.f1.length ≤ 8
set_option maxHeartbeats 4000000 in
theorem table_c (x : S72) (A1 : Option Addr) (c1 : Nat) (l : List ByteArray) (A : Option Addr) (c : Nat) (w : World) (hx : k74.C w A1 x.f1.length x.f1) (hC : Kd.string.C w A l.length l) :
    Calls Try.prog 131 #[.agg #[.string x.f0, .slice A1 x.f1.length c1], .slice A l.length c] w (IntPost (fun v => v = 0 → OkT x) w) := by
  have HX := Aside0.mk hx
  have HC := Aside0.mk hC
  have B0 := Aside0.mk (Bx.new w #[.string x.f0, .slice A1 x.f1.length c1] 72)
  clear hx hC
  go_enter Try.func131, Try.ntmps131
  go_wp2_with fail
  with_reducible refine (look_c l A c x.f0 _ (Kd.C_alloc HC.out _)).mono ?_
  rintro e w1 ⟨v, rfl, hv, hb⟩
  have B1 := Aside0.mk (B0.out.next hb)
  have HV := Aside0.mk hv
  clear hv hb
  have a0 := (blk_cell B1.out.one 1).trans (show _ = some (Value.slice A1 x.f1.length c1) from rfl)
  by_cases h0 : v = 0
  case neg =>
    go_wp2_with fail
    go_ret
    exact int_post (fun h => absurd h h0) B1.out.below
  subst h0
  have HN := Aside0.mk (HV.out rfl)
  clear HV
  go_wp2_with fail
  all_goals try (go_ret; exact int_post (fun h => absurd h (by decide)) B1.out.below)
  have HL := Aside0.mk (show x.f1.length ≤ 8 by omega)
  clear a0
  go_loopg [6] (x.f1.length + 1) (fun kq v6 w' => ∃ i : Nat, v6 = .int .i64 (i : Int) ∧ Aside0 (kq + i = x.f1.length + 1) ∧ Aside0 (i ≤ x.f1.length) ∧ Aside0 (Bx w #[.string x.f0, .slice A1 x.f1.length c1] 72 w'))
  case atStart => exact ⟨0, rfl, ⟨by omega⟩, ⟨by omega⟩, B1⟩
  case round =>
    clear B1
    obtain ⟨i, rfl, HK, HI, HW⟩ := hrel
    cases gk with
    | zero => exact absurd HK.out (by have := HI.out; omega)
    | succ k1 =>
      have a0 := (blk_cell HW.out.one 1).trans (show _ = some (Value.slice A1 x.f1.length c1) from rfl)
      have q0 := blk_lt HW.out.one
      by_cases hlt : i < x.f1.length
      · obtain ⟨ad, hA, e0, e1⟩ := at_T74 (Kd.C_below HX.out HW.out.below) (i : Int) (by omega) (by omega)
        rw [Int.toNat_natCast] at e0 e1
        generalize rd_T74 x.f1 (i : Int) = b at e0 e1
        have HX0 := Aside0.mk e0
        have HX1 := Aside0.mk e1
        by_cases hi : i = 0
        · subst hA
          have p0 : (0 : Int) ≤ (i : Int) := by omega
          have p1 : (i : Int) < (x.f1.length : Int) := by omega
          have hi1 : ((i : Int) == 0) = true := by simp [hi]
          have hi2 : decide ((0 : Int) < (i : Int)) = false := decide_eq_false (by omega)
          have hi3 : ¬ 0 < i := by omega
          have HI0 := Aside0.mk hi
          clear hi
          by_cases hf : b.f0 = 0
          · have hf1 : (b.f0 == 0) = true := by simp [hf]
            go_wp2_with fail
            go_quiet (fail)
            go_wp2_with fail
            all_goals first
              | (go_ret; exact int_post (fun h => absurd h (by decide)) (by repeat (first | exact HW.out.below | apply below_alloc | apply pw_below_drewN | apply below_drew1)))
              | (go_roundg k1; (case measure => omega); (case rel => exact ⟨i + 1, by simp, ⟨by have := HK.out; omega⟩, ⟨by omega⟩, ⟨HW.out.next (by repeat (first | exact Below.refl _ _ | apply below_alloc | apply pw_below_drewN | apply below_drew1))⟩⟩))
          · have hf1 : (b.f0 == 0) = false := by simp [hf]
            go_wp2_with fail
            go_quiet (fail)
            go_wp2_with fail
            all_goals first
              | (go_ret; exact int_post (fun h => absurd h (by decide)) (by repeat (first | exact HW.out.below | apply below_alloc | apply pw_below_drewN | apply below_drew1)))
              | (go_roundg k1; (case measure => omega); (case rel => exact ⟨i + 1, by simp, ⟨by have := HK.out; omega⟩, ⟨by omega⟩, ⟨HW.out.next (by repeat (first | exact Below.refl _ _ | apply below_alloc | apply pw_below_drewN | apply below_drew1))⟩⟩))
        · obtain ⟨bd, hB, f0, f1⟩ := at_T74 (Kd.C_below HX.out HW.out.below) ((i - 1 : Nat) : Int) (by omega) (by omega)
          subst hA
          cases hB
          rw [Int.toNat_natCast] at f0 f1
          generalize rd_T74 x.f1 ((i - 1 : Nat) : Int) = d at f0 f1
          have p0 : (0 : Int) ≤ (i : Int) := by omega
          have p1 : (i : Int) < (x.f1.length : Int) := by omega
          have p2 : wrap64 ((i : Int) - 1) = ((i - 1 : Nat) : Int) := by have := HL.out; unfold wrap64; omega
          have p3 : ((i - 1 : Nat) : Int) < (x.f1.length : Int) := by omega
          have p4 : (0 : Int) ≤ ((i - 1 : Nat) : Int) := by omega
          have hi1 : ((i : Int) == 0) = false := by simp; omega
          have hi2 : decide ((0 : Int) < (i : Int)) = true := decide_eq_true (by omega)
          have hi3 : (0 : Int) < (i : Int) := by omega
          have hi4 : 0 < i := by omega
          have p5 := World.block_lt_of_cell? wr _ f0
          go_wp2_with fail
          go_quiet (fail)
          go_wp2_with fail
          all_goals first
            | (go_ret; exact int_post (fun h => absurd h (by decide)) (by repeat (first | exact HW.out.below | apply below_alloc | apply pw_below_drewN | apply below_drew1)))
            | (go_roundg k1; (case measure => omega); (case rel => exact ⟨i + 1, by simp, ⟨by have := HK.out; omega⟩, ⟨by omega⟩, ⟨HW.out.next (by repeat (first | exact Below.refl _ _ | apply below_alloc | apply pw_below_drewN | apply below_drew1))⟩⟩))
      · go_wp2_with fail
        go_ret
        exact int_post (fun _ => ⟨HN.out, HL.out⟩) HW.out.below
end Go.Proofs.Ytpbdkkahodaloaa.J
end

section
namespace Go.Proofs.Ytpbdkkahodaloaa.J
open Go.RowKit Go.Proofs.Ytpbdkkahodaloaa.PS Go.Proofs.Ytpbdkkahodaloaa.U Go.Proofs.Ytpbdkkahodaloaa.T Go.Proofs.YtpbdkkahodaloaaW.PrintWords Go.Proofs.YtpbdkkahodaloaaW.PrintMore
set_option linter.unusedVariables false
set_option maxRecDepth 100000
theorem cells7 {w : World} {g : Nat} {v0 v1 v2 v3 v4 v5 v6 : Value} {t : TypeId} (h : w.heap[g]? = some (.cells #[v0, v1, v2, v3, v4, v5, v6] t (0, 0))) :
    w.cell? ⟨g, 0, none⟩ = some v0 ∧ w.cell? ⟨g, 1, none⟩ = some v1 ∧ w.cell? ⟨g, 2, none⟩ = some v2 ∧ w.cell? ⟨g, 3, none⟩ = some v3 ∧ w.cell? ⟨g, 4, none⟩ = some v4 ∧ w.cell? ⟨g, 5, none⟩ = some v5 ∧ w.cell? ⟨g, 6, none⟩ = some v6 :=
  ⟨(blk_cell h 0).trans rfl, (blk_cell h 1).trans rfl, (blk_cell h 2).trans rfl, (blk_cell h 3).trans rfl, (blk_cell h 4).trans rfl, (blk_cell h 5).trans rfl, (blk_cell h 6).trans rfl⟩
set_option maxHeartbeats 4000000 in
theorem cells_c (w : World) (u : Value) (p : Pk) (hp : Lies w u p) : Calls Try.prog 135 #[u] w (IntPost (fun _ => True) w) := by
  have HL := Aside0.mk hp
  obtain ⟨A2, c2, A3, c3, A4, c4, A5, c5, A6, c6, rfl, hx2, hx3, hx4, hx5, hx6, _⟩ := hp
  have HX4 := Aside0.mk hx4
  have HX5 := Aside0.mk hx5
  have HX6 := Aside0.mk hx6
  clear hx2 hx3 hx4 hx5 hx6
  go_enter Try.func135, Try.ntmps135
  go_upto_block 0 with (fail)
  go_cut [3] (fun v3 w' => ∃ n : Int, v3 = .int .i64 n ∧ Aside0 (Bx w #[.string p.name, .int .i64 p.year, .slice A2 p.options.length c2, .slice A3 p.tables.length c3, .slice A4 p.groups.length c4, .slice A5 p.lines.length c5, .slice A6 p.checks.length c6] 33 w'))
  case first =>
    have hmax : p.lines.length ≤ 9223372036854775807 := HX5.out.2.1
    go_wp2_with fail
    go_loopg [3, 4] (p.lines.length + 1) (fun kq v3 v5 w' => ∃ (i : Nat) (n : Int), v3 = .int .i64 n ∧ v5 = .int .i64 (i : Int) ∧ Aside0 (kq + i = p.lines.length + 1) ∧ Aside0 (i ≤ p.lines.length) ∧ Aside0 (Bx w #[.string p.name, .int .i64 p.year, .slice A2 p.options.length c2, .slice A3 p.tables.length c3, .slice A4 p.groups.length c4, .slice A5 p.lines.length c5, .slice A6 p.checks.length c6] 33 w'))
    case atStart => exact ⟨0, _, rfl, rfl, ⟨by omega⟩, ⟨by omega⟩, ⟨Bx.new w _ _⟩⟩
    case round =>
      obtain ⟨i, n, rfl, rfl, HK, HI, HW⟩ := hrel
      cases gk with
      | zero => exact absurd HK.out (by have := HI.out; omega)
      | succ k1 =>
        have a5 := (blk_cell HW.out.one 5).trans (show _ = some (Value.slice A5 p.lines.length c5) from rfl)
        by_cases hlt : i < p.lines.length
        · have p0 : (0 : Int) ≤ (i : Int) := by omega
          have p1 : (i : Int) < (p.lines.length : Int) := by omega
          obtain ⟨ad, A6_, c6_, hA, e0, e1, e2, e3, e4, e5, e6, l1, g1⟩ := at_T77 (Kd.C_below HX5.out HW.out.below) (i : Int) (by omega) (by omega)
          subst hA
          rw [Int.toNat_natCast] at e5
          obtain ⟨z, hz⟩ : ∃ z, (rd_T77 p.lines (i : Int)).f5 = z := ⟨_, rfl⟩
          rw [hz] at e5
          have HL1 := HL.out.below HW.out.below
          have CW := Aside0.mk (fun (W : World) (hW : Below wr.heap.size wr W) => rows_c W _ p (HL1.below hW) z)
          obtain ⟨b0, b1, b2, b3, b4, b5, b6⟩ := cells7 HW.out.one
          have hdr : Below wr.heap.size wr wr := Below.refl _ _
          clear hz HL1 a5
          go_upto_region 5 with (fail)
          go_region_held3 (fun w' => w'.cell? ⟨w.heap.size, 0, none⟩ = some (.string p.name) ∧ w'.cell? ⟨w.heap.size, 1, none⟩ = some (.int .i64 p.year) ∧ w'.cell? ⟨w.heap.size, 2, none⟩ = some (.slice A2 p.options.length c2) ∧ w'.cell? ⟨w.heap.size, 3, none⟩ = some (.slice A3 p.tables.length c3) ∧ w'.cell? ⟨w.heap.size, 4, none⟩ = some (.slice A4 p.groups.length c4) ∧ w'.cell? ⟨w.heap.size, 5, none⟩ = some (.slice (some ad) p.lines.length c5) ∧ w'.cell? ⟨w.heap.size, 6, none⟩ = some (.slice A6 p.checks.length c6) ∧ w'.cell? ⟨(ad.add (i * 7)).block, (ad.add (i * 7)).off + 5, none⟩ = some (.int .i64 z) ∧ Below wr.heap.size wr w')
            (first | ((try go_split_ands); refine ⟨?_, ?_, ?_, ?_, ?_, ?_, ?_, ?_, ?_⟩ <;> (first | assumption | exact Below.refl _ _ | exact below_drew1 (by assumption) | exact below_drew (by assumption) | exact old_cell (by assumption) (by assumption) | exact below_then (by assumption) (Below.size (by assumption)) (by assumption) | go_keep)))
            (first | (go_at_call 150; refine (CW.out _ (by first | assumption | exact below_drew (Below.refl _ _) | exact below_drew (by assumption))).mono ?_; rintro e w' ⟨v, rfl, _, hbv⟩))
          have HB := Aside0.mk (below_then (below_drew (Below.refl wr.heap.size wr)) (Nat.le_refl _) hbv)
          clear hbv b0 b1 b2 b3 b4 b5 b6 hdr
          go_wp2_with fail
          go_roundg k1
          case measure => omega
          case rel => exact ⟨i + 1, _, rfl, by simp, ⟨by have := HK.out; omega⟩, ⟨by omega⟩, ⟨HW.out.next HB.out⟩⟩
        · go_wp2_with fail
          go_meet
          exact ⟨_, rfl, HW⟩
  case rest =>
  obtain ⟨n5, rfl, HP5⟩ := hcut
  go_upto_block 2 with (fail)
  go_cut [3] (fun v3 w' => ∃ n : Int, v3 = .int .i64 n ∧ Aside0 (Bx w #[.string p.name, .int .i64 p.year, .slice A2 p.options.length c2, .slice A3 p.tables.length c3, .slice A4 p.groups.length c4, .slice A5 p.lines.length c5, .slice A6 p.checks.length c6] 33 w'))
  case first =>
    have hmax : p.groups.length ≤ 9223372036854775807 := HX4.out.2.1
    go_wp2_with fail
    go_loopg [3, 5] (p.groups.length + 1) (fun kq v3 v5 w' => ∃ (i : Nat) (n : Int), v3 = .int .i64 n ∧ v5 = .int .i64 (i : Int) ∧ Aside0 (kq + i = p.groups.length + 1) ∧ Aside0 (i ≤ p.groups.length) ∧ Aside0 (Bx w #[.string p.name, .int .i64 p.year, .slice A2 p.options.length c2, .slice A3 p.tables.length c3, .slice A4 p.groups.length c4, .slice A5 p.lines.length c5, .slice A6 p.checks.length c6] 33 w'))
    case atStart => exact ⟨0, _, rfl, rfl, ⟨by omega⟩, ⟨by omega⟩, HP5⟩
    case round =>
      obtain ⟨i, n, rfl, rfl, HK, HI, HW⟩ := hrel
      cases gk with
      | zero => exact absurd HK.out (by have := HI.out; omega)
      | succ k1 =>
        have a4 := (blk_cell HW.out.one 4).trans (show _ = some (Value.slice A4 p.groups.length c4) from rfl)
        by_cases hlt : i < p.groups.length
        · have p0 : (0 : Int) ≤ (i : Int) := by omega
          have p1 : (i : Int) < (p.groups.length : Int) := by omega
          obtain ⟨ad, hA, e0, e1⟩ := at_T69 (Kd.C_below HX4.out HW.out.below) (i : Int) (by omega) (by omega)
          subst hA
          rw [Int.toNat_natCast] at e0 e1
          go_wp2_with fail
          refine (inRows_c _ _).mono ?_
          rintro e w2 ⟨v, rfl, _, hb⟩
          have HW2 := Aside0.mk (HW.out.next hb)
          clear hb a4 e0 e1
          go_wp2_with fail
          go_roundg k1
          case measure => omega
          case rel => exact ⟨i + 1, _, rfl, by simp, ⟨by have := HK.out; omega⟩, ⟨by omega⟩, HW2⟩
        · go_wp2_with fail
          go_meet
          exact ⟨_, rfl, HW⟩
  case rest =>
  obtain ⟨n4, rfl, HP4⟩ := hcut
  go_upto_block 4 with (fail)
  go_cut [3] (fun v3 w' => ∃ n : Int, v3 = .int .i64 n ∧ Aside0 (Bx w #[.string p.name, .int .i64 p.year, .slice A2 p.options.length c2, .slice A3 p.tables.length c3, .slice A4 p.groups.length c4, .slice A5 p.lines.length c5, .slice A6 p.checks.length c6] 33 w'))
  case first =>
    have hmax : p.checks.length ≤ 9223372036854775807 := HX6.out.2.1
    go_wp2_with fail
    go_loopg [3, 6] (p.checks.length + 1) (fun kq v3 v5 w' => ∃ (i : Nat) (n : Int), v3 = .int .i64 n ∧ v5 = .int .i64 (i : Int) ∧ Aside0 (kq + i = p.checks.length + 1) ∧ Aside0 (i ≤ p.checks.length) ∧ Aside0 (Bx w #[.string p.name, .int .i64 p.year, .slice A2 p.options.length c2, .slice A3 p.tables.length c3, .slice A4 p.groups.length c4, .slice A5 p.lines.length c5, .slice A6 p.checks.length c6] 33 w'))
    case atStart => exact ⟨0, _, rfl, rfl, ⟨by omega⟩, ⟨by omega⟩, HP4⟩
    case round =>
      obtain ⟨i, n, rfl, rfl, HK, HI, HW⟩ := hrel
      cases gk with
      | zero => exact absurd HK.out (by have := HI.out; omega)
      | succ k1 =>
        have a6 := (blk_cell HW.out.one 6).trans (show _ = some (Value.slice A6 p.checks.length c6) from rfl)
        by_cases hlt : i < p.checks.length
        · have p0 : (0 : Int) ≤ (i : Int) := by omega
          have p1 : (i : Int) < (p.checks.length : Int) := by omega
          obtain ⟨ad, A7_, c7_, hA, e0, e1, e2, e3, e4, e5, e6, e7, e8, l1, g1⟩ := at_T82 (Kd.C_below HX6.out HW.out.below) (i : Int) (by omega) (by omega)
          subst hA
          rw [Int.toNat_natCast] at e2
          obtain ⟨z, hz⟩ : ∃ z, (rd_T82 p.checks (i : Int)).f2 = z := ⟨_, rfl⟩
          rw [hz] at e2
          have HL1 := HL.out.below HW.out.below
          have CW := Aside0.mk (fun (W : World) (hW : Below wr.heap.size wr W) => rows_c W _ p (HL1.below hW) z)
          obtain ⟨b0, b1, b2, b3, b4, b5, b6⟩ := cells7 HW.out.one
          have hdr : Below wr.heap.size wr wr := Below.refl _ _
          clear hz HL1 a6
          go_upto_region 13 with (fail)
          go_region_held3 (fun w' => w'.cell? ⟨w.heap.size, 0, none⟩ = some (.string p.name) ∧ w'.cell? ⟨w.heap.size, 1, none⟩ = some (.int .i64 p.year) ∧ w'.cell? ⟨w.heap.size, 2, none⟩ = some (.slice A2 p.options.length c2) ∧ w'.cell? ⟨w.heap.size, 3, none⟩ = some (.slice A3 p.tables.length c3) ∧ w'.cell? ⟨w.heap.size, 4, none⟩ = some (.slice A4 p.groups.length c4) ∧ w'.cell? ⟨w.heap.size, 5, none⟩ = some (.slice A5 p.lines.length c5) ∧ w'.cell? ⟨w.heap.size, 6, none⟩ = some (.slice (some ad) p.checks.length c6) ∧ w'.cell? ⟨(ad.add (i * 9)).block, (ad.add (i * 9)).off + 2, none⟩ = some (.int .i64 z) ∧ Below wr.heap.size wr w')
            (first | ((try go_split_ands); refine ⟨?_, ?_, ?_, ?_, ?_, ?_, ?_, ?_, ?_⟩ <;> (first | assumption | exact Below.refl _ _ | exact below_drew1 (by assumption) | exact below_drew (by assumption) | exact old_cell (by assumption) (by assumption) | exact below_then (by assumption) (Below.size (by assumption)) (by assumption) | go_keep)))
            (first | (go_at_call 150; refine (CW.out _ (by first | assumption | exact below_drew (Below.refl _ _) | exact below_drew (by assumption))).mono ?_; rintro e w' ⟨v, rfl, _, hbv⟩))
          have HB := Aside0.mk (below_then (below_drew (Below.refl wr.heap.size wr)) (Nat.le_refl _) hbv)
          clear hbv b0 b1 b2 b3 b4 b5 b6 hdr
          go_wp2_with fail
          go_roundg k1
          case measure => omega
          case rel => exact ⟨i + 1, _, rfl, by simp, ⟨by have := HK.out; omega⟩, ⟨by omega⟩, ⟨HW.out.next HB.out⟩⟩
        · go_wp2_with fail
          go_meet
          exact ⟨_, rfl, HW⟩
  case rest =>
  obtain ⟨n6, rfl, HP6⟩ := hcut
  go_wp2_with fail
  go_ret
  exact int_post trivial HP6.out.below
end Go.Proofs.Ytpbdkkahodaloaa.J
end

section
namespace Go.Proofs.Ytpbdkkahodaloaa.J
open Go.RowKit Go.Proofs.Ytpbdkkahodaloaa.PS Go.Proofs.Ytpbdkkahodaloaa.U Go.Proofs.Ytpbdkkahodaloaa.T Go.Proofs.YtpbdkkahodaloaaW.PrintWords Go.Proofs.YtpbdkkahodaloaaW.PrintMore
set_option linter.unusedVariables false
set_option maxRecDepth 100000
structure Boxes2 (w : World) (g : Nat) (cs : Array Value) (t : TypeId) (ds : Array Value) (t2 : TypeId) (w' : World) : Prop where
  below : Below w.heap.size w w'
  one : w'.heap[w.heap.size]? = some (.cells cs t (0, 0))
  two : w'.heap[g]? = some (.cells ds t2 (0, 0))
theorem Boxes2.next {w w' w2 : World} {g : Nat} {cs ds : Array Value} {t t2 : TypeId} (h : Boxes2 w g cs t ds t2 w') (hb : Below w'.heap.size w' w2) : Boxes2 w g cs t ds t2 w2 := ⟨below_then h.below h.below.size hb, blk_below h.one hb, blk_below h.two hb⟩
theorem Boxes2.new (w : World) {g : Nat} (cs ds : Array Value) (t t2 : TypeId) (hg : w.heap.size + 1 = g) : Boxes2 w g cs t ds t2 ((w.alloc (.cells cs t)).alloc (.cells ds t2)) := by
  subst hg
  refine ⟨below_alloc (below_alloc (Below.refl _ _) _) _, blk_alloc (blk_new w _) _, ?_⟩
  have := blk_new (w.alloc (.cells cs t)) (.cells ds t2)
  rwa [World.size_alloc] at this
structure ZeroE (e : S80) : Prop where
  op : e.f0 = 0
  num : e.f1 = 0
  den : e.f2 = 0
  mode : e.f3 = 0
  args : e.f4 = []
theorem zero_c (e : S80) (A : Option Addr) (c : Nat) (w : World) : Calls Try.prog 154 #[.agg #[.int .i64 e.f0, .int .i64 e.f1, .int .i64 e.f2, .int .i64 e.f3, .slice A e.f4.length c]] w (BoolPost (ZeroE e) w) := by
  obtain ⟨e0, e1, e2, e3, l⟩ := e
  by_cases h : e0 = 0 ∧ e1 = 0 ∧ e2 = 0 ∧ e3 = 0 ∧ l.length = 0
  · obtain ⟨rfl, rfl, rfl, rfl, hl⟩ := h
    have HL := Aside0.mk (show l = [] from List.length_eq_zero_iff.1 hl)
    have hl2 : ((l.length : Int) == 0) = true := by simp [hl]
    clear hl
    go_enter Try.func154, Try.ntmps154
    go_wp2_with fail
    go_ret
    exact ⟨_, rfl, (fun _ => ⟨rfl, rfl, rfl, rfl, HL.out⟩), bel⟩
  · go_enter Try.func154, Try.ntmps154
    go_wp2_with fail
    all_goals (go_ret; exact ⟨_, rfl, (fun hv => by
      first
        | (exact absurd hv (by decide))
        | (refine absurd ?_ h; have hv2 : l.length = 0 := by simpa using hv
           refine ⟨?_, ?_, ?_, ?_, hv2⟩ <;> first | rfl | assumption)
        | (refine absurd ?_ h; simp at hv; refine ⟨?_, ?_, ?_, ?_, ?_⟩ <;> first | rfl | assumption | omega)), bel⟩)
set_option maxHeartbeats 8000000 in
theorem clause_c (x : S77) (A : Option Addr) (c : Nat) (k : Nat) (hk : k < x.f6.length) (w : World) (hx : k100.C w A x.f6.length x.f6) :
    Calls Try.prog 149 #[.agg #[.string x.f0, .bool x.f1, .bool x.f2, .int .i64 x.f3, .int .i64 x.f4, .int .i64 x.f5, .slice A x.f6.length c], .int .i64 (k : Int)] w (BoolPost (k = 0 → ∀ b, x.f6[0]? = some b → ZeroE b.f2) w) := by
  have HX := Aside0.mk hx
  have hmax : x.f6.length ≤ 9223372036854775807 := hx.2.1
  obtain ⟨b, hb⟩ : ∃ b, x.f6[k]? = some b := ⟨_, List.getElem?_eq_getElem hk⟩
  have hrb : rd_T100 x.f6 (k : Int) = b := by unfold rd_T100; rw [Int.toNat_natCast, List.getD_eq_getElem?_getD, hb]; rfl
  obtain ⟨ad, C1, c1, C2, c2, hA, e0, e1, e2, e3, e4, e5, e6, e7, e8, e9, e10, e11, l1, g1, l2, g2⟩ := at_T100 (Kd.C_alloc hx (.cells #[.string x.f0, .bool x.f1, .bool x.f2, .int .i64 x.f3, .int .i64 x.f4, .int .i64 x.f5, .slice A x.f6.length c] 77)) (k : Int) (by omega) (by omega)
  subst hA
  rw [hrb] at e0 e1 e2 e3 e4 e5 e6 e7 e8 e9 e10 e11 l1 g1 l2 g2
  rw [Int.toNat_natCast] at e0 e1 e2 e3 e4 e5 e6 e7 e8 e9 e10 e11
  have HBB := Aside0.mk hb
  have p0 : (0 : Int) ≤ (k : Int) := by omega
  have p1 : (k : Int) < (x.f6.length : Int) := by omega
  clear hrb hb l1 g1 l2 g2 hx
  by_cases hk0 : k = 0
  · have hk1 : ((k : Int) == 0) = true := by simp [hk0]
    have HK0 := Aside0.mk hk0
    clear hk0
    go_enter Try.func149, Try.ntmps149
    go_wp2_with fail
    all_goals try (go_ret; exact bool_no bel)
    refine (zero_c b.f2 C1 c1 _).mono ?_
    rintro e w1 ⟨v, rfl, hv, hb⟩
    have HB := Aside0.mk (below_then (below_alloc (below_alloc (Below.refl w.heap.size w) _) _) (by rw [World.size_alloc, World.size_alloc]; omega) hb)
    have HV := Aside0.mk hv
    clear hv hb
    go_wp2_with fail
    go_ret
    exact ⟨v, rfl, (fun h _ b2 hb2 => by have h1 := HBB.out; rw [HK0.out] at h1; rw [h1] at hb2; cases hb2; exact HV.out h), HB.out⟩
  · have hk1 : ((k : Int) == 0) = false := by simp; omega
    have HK0 := Aside0.mk hk0
    clear hk0
    go_enter Try.func149, Try.ntmps149
    go_wp2_with fail
    all_goals try (go_ret; exact bool_no bel)
    have HF := Aside0.mk (show k = 0 → ∀ b, x.f6[0]? = some b → ZeroE b.f2 from fun h => absurd h HK0.out)
    obtain ⟨CB, hCB⟩ : ∃ CB, w.heap.size + 1 = CB := ⟨_, rfl⟩
    rw [hCB]
    have HCB := Aside0.mk hCB
    clear e0 e1 e2 e3 e4 e5 e6 e7 e8 e9 e10 e11 hCB
    go_loopg [6] k (fun kq v6 w' => ∃ i : Nat, v6 = .int .i64 (i : Int) ∧ Aside0 (kq + i = k + 1) ∧ Aside0 (1 ≤ i ∧ i ≤ k) ∧ Aside0 (∃ cs2 : Array Value, cs2[0]? = some (.int .i64 b.f0) ∧ Boxes2 w CB #[.string x.f0, .bool x.f1, .bool x.f2, .int .i64 x.f3, .int .i64 x.f4, .int .i64 x.f5, .slice (some ad) x.f6.length c] 77 cs2 100 w'))
    case atStart => exact ⟨1, rfl, ⟨by omega⟩, ⟨by have := HK0.out; omega⟩, ⟨by refine ⟨_, ?_, Boxes2.new w _ _ 77 100 HCB.out⟩; rfl⟩⟩
    case round =>
      obtain ⟨i, rfl, HK, HI, HW⟩ := hrel
      cases gk with
      | zero => exact absurd HK.out (by have := HI.out; omega)
      | succ k1 =>
        obtain ⟨cs2, hc2, hW⟩ := HW.out
        have HB := Aside0.mk hW
        have a0 := (blk_cell hW.one 6).trans (show _ = some (Value.slice (some ad) x.f6.length c) from rfl)
        have a1 := (blk_cell hW.two 0).trans hc2
        have HC2 := Aside0.mk hc2
        clear hW hc2 HW
        by_cases hlt : i < k
        · obtain ⟨bd, D1, d1, D2, d2, hB, f0, _⟩ := at_T100 (Kd.C_below HX.out HB.out.below) (i : Int) (by omega) (by omega)
          cases hB
          rw [Int.toNat_natCast] at f0
          have p2 : (0 : Int) ≤ (i : Int) := by omega
          have p3 : (i : Int) < (x.f6.length : Int) := by omega
          go_wp2_with fail
          go_quiet (fail)
          go_wp2_with fail
          all_goals first
            | (go_ret; exact bool_no (by repeat (first | exact HB.out.below | apply pw_below_drewN | apply below_drew1)))
            | (go_roundg k1; (case measure => omega); (case rel => exact ⟨i + 1, by simp, ⟨by have := HK.out; omega⟩, ⟨by have := HI.out; omega⟩, ⟨cs2, HC2.out, HB.out.next (by repeat (first | exact Below.refl _ _ | apply pw_below_drewN | apply below_drew1))⟩⟩))
        · go_wp2_with fail
          go_ret
          exact bool_yes HF.out HB.out.below
end Go.Proofs.Ytpbdkkahodaloaa.J
end

section
namespace Go.Proofs.Ytpbdkkahodaloaa.J
open Go.RowKit Go.Proofs.Ytpbdkkahodaloaa.PS Go.Proofs.Ytpbdkkahodaloaa.U Go.Proofs.Ytpbdkkahodaloaa.T Go.Proofs.YtpbdkkahodaloaaW.PrintWords Go.Proofs.YtpbdkkahodaloaaW.PrintMore
set_option linter.unusedVariables false
set_option maxRecDepth 100000
def PairPost (φ : Int → Prop) (w : World) (e : Ending) (w' : World) : Prop := ∃ v k, e = .returned (.tuple #[.int .i64 v, .int .i64 k]) ∧ φ v ∧ Below w.heap.size w w'
theorem pair_post {φ : Int → Prop} {v k : Int} {w w' : World} (h : φ v) (hb : Below w.heap.size w w') : PairPost φ w (.returned (.tuple #[.int .i64 v, .int .i64 k])) w' := ⟨v, k, rfl, h, hb⟩
theorem cells9 {w : World} {g : Nat} {v0 v1 v2 v3 v4 v5 v6 v7 v8 : Value} {t : TypeId} (h : w.heap[g]? = some (.cells #[v0, v1, v2, v3, v4, v5, v6, v7, v8] t (0, 0))) :
    w.cell? ⟨g, 0, none⟩ = some v0 ∧ w.cell? ⟨g, 2, none⟩ = some v2 ∧ w.cell? ⟨g, 8, none⟩ = some v8 :=
  ⟨(blk_cell h 0).trans rfl, (blk_cell h 2).trans rfl, (blk_cell h 8).trans rfl⟩
structure OkL (x : S77) : Prop where
  name : x.f0.size ≤ 12
  len : x.f6.length ≤ 6
  zero : ∀ b, x.f6[0]? = some b → ZeroE b.f2
  ty : 1 ≤ x.f3
structure OkC (x : S82) : Prop where
  name : x.f0.size ≤ 12
  text : x.f4.size ≤ 40
set_option maxHeartbeats 8000000 in
theorem oneLine_c (w : World) (u : Value) (p : Pk) (hp : Lies w u p) (x : S77) (B : Option Addr) (d : Nat) (l : List ByteArray) (A : Option Addr) (c : Nat) (hx : k100.C w B x.f6.length x.f6) (hC : Kd.string.C w A l.length l) :
    Calls Try.prog 133 #[u, .agg #[.string x.f0, .bool x.f1, .bool x.f2, .int .i64 x.f3, .int .i64 x.f4, .int .i64 x.f5, .slice B x.f6.length d], .slice A l.length c] w (PairPost (fun v => v = 0 → OkL x) w) := by
  obtain ⟨x0, x1, x2, x3, x4, x5, xl⟩ := x
  replace hx : k100.C w B xl.length xl := hx
  show Calls Try.prog 133 #[u, .agg #[.string x0, .bool x1, .bool x2, .int .i64 x3, .int .i64 x4, .int .i64 x5, .slice B xl.length d], .slice A l.length c] w (PairPost (fun v => v = 0 → OkL ⟨x0, x1, x2, x3, x4, x5, xl⟩) w)
  have HL := Aside0.mk hp
  obtain ⟨A2, c2, A3, c3, A4, c4, A5, c5, A6, c6, rfl, _⟩ := hp
  have HX := Aside0.mk hx
  have hmax : xl.length ≤ 9223372036854775807 := hx.2.1
  have HC := Aside0.mk hC
  have B0 := Aside0.mk (Boxes2.new w #[.string p.name, .int .i64 p.year, .slice A2 p.options.length c2, .slice A3 p.tables.length c3, .slice A4 p.groups.length c4, .slice A5 p.lines.length c5, .slice A6 p.checks.length c6] #[.string x0, .bool x1, .bool x2, .int .i64 x3, .int .i64 x4, .int .i64 x5, .slice B xl.length d] 33 77 rfl)
  clear hx hC
  go_enter Try.func133, Try.ntmps133
  go_wp2_with fail
  with_reducible refine (look_c l A c x0 _ (Kd.C_alloc (Kd.C_alloc HC.out _) _)).mono ?_
  rintro e w1 ⟨v, rfl, hv, hb⟩
  have B1 := Aside0.mk (B0.out.next hb)
  have HV := Aside0.mk hv
  clear hv hb B0
  by_cases h0 : v = 0
  case neg =>
    go_wp2_with fail
    go_ret2
    exact pair_post (fun h => absurd h h0) B1.out.below
  subst h0
  have HN := Aside0.mk (HV.out rfl)
  clear HV
  obtain ⟨b0, b1, b2, b3, b4, b5, b6⟩ := cells7 B1.out.one
  obtain ⟨d0, d1, d2, d3, d4, d5, d6⟩ := cells7 B1.out.two
  go_upto_region 4 with (fail)
  go_cut [9] (fun s wd => ∃ b : Bool, s = .bool b ∧ wd = w1 ∧ Aside0 (b = true → 1 ≤ x3))
  case first =>
    go_wp2_with fail
    all_goals (go_meet; exact ⟨_, rfl, rfl, ⟨fun h => by first | (exact absurd h (by decide)) | assumption | (simp at h; omega)⟩⟩)
  case rest =>
  obtain ⟨t9, rfl, hw, H9⟩ := hcut
  subst hw
  go_upto_region 5 with (fail)
  go_cut [10] (fun s wd => ∃ b : Bool, s = .bool b ∧ wd = wc)
  case first =>
    by_cases h5 : x3 = 5
    · have g5 : (x3 == 5) = true := by simp [h5]
      clear h5
      go_wp2_with fail
      all_goals (go_meet; exact ⟨_, rfl, rfl⟩)
    · have g5 : (x3 == 5) = false := by simp [h5]
      clear h5
      go_wp2_with fail
      all_goals (go_meet; exact ⟨_, rfl, rfl⟩)
  case rest =>
  obtain ⟨t10, rfl, hw⟩ := hcut
  subst hw
  go_upto_region 6 with (fail)
  go_cut [64] (fun s wd => ∃ b : Bool, s = .bool b ∧ wd = wc ∧ Aside0 (b = false → t9 = true))
  case first =>
    by_cases h5 : x3 = 5
    · have g5 : (x3 == 5) = true := by simp [h5]
      have g6 : (x3 != 5) = false := by simp [h5]
      clear h5
      cases t9 <;> cases t10 <;> go_wp2_with fail
      all_goals (go_meet; exact ⟨_, rfl, rfl, ⟨fun h => by first | trivial | rfl | (exact absurd h (by decide))⟩⟩)
    · have g5 : (x3 == 5) = false := by simp [h5]
      have g6 : (x3 != 5) = true := by simp [h5]
      clear h5
      by_cases h4 : x4 = -1
      · have g4 : (x4 != -1) = false := by simp [h4]
        clear h4
        cases t9 <;> cases t10 <;> go_wp2_with fail
        all_goals (go_meet; exact ⟨_, rfl, rfl, ⟨fun h => by first | trivial | rfl | (exact absurd h (by decide))⟩⟩)
      · have g4 : (x4 != -1) = true := by simp [h4]
        clear h4
        cases t9 <;> cases t10 <;> go_wp2_with fail
        all_goals (go_meet; exact ⟨_, rfl, rfl, ⟨fun h => by first | trivial | rfl | (exact absurd h (by decide))⟩⟩)
  case rest =>
  obtain ⟨t64, rfl, hw, H64⟩ := hcut
  subst hw
  cases t64 with
  | true =>
    go_wp2_with fail
    go_ret2
    exact pair_post (fun h => absurd h (by decide)) B1.out.below
  | false =>
  have HTY := Aside0.mk (H9.out (H64.out rfl))
  clear H9 H64
  go_wp2_with fail
  with_reducible refine (group_c wc _ p (HL.out.below B1.out.below) x5).mono ?_
  rintro e w2 ⟨v, rfl, _, hb⟩
  have B2 := Aside0.mk (B1.out.next hb)
  clear hb b0 b1 b2 b3 b4 b5 b6 d0 d1 d2 d3 d4 d5 d6 B1
  cases v with
  | false =>
    go_wp2_with fail
    go_ret2
    exact pair_post (fun h => absurd h (by decide)) B2.out.below
  | true =>
  obtain ⟨d0, d1, d2, d3, d4, d5, d6⟩ := cells7 B2.out.two
  go_upto_region 11 with (fail)
  go_cut [91] (fun s wd => ∃ b : Bool, s = .bool b ∧ Aside0 (b = false → xl.length ≤ 6) ∧ wd = w2)
  case first =>
    by_cases hn : xl.length ≤ 6
    · have HN6 := Aside0.mk hn
      have m1 : ¬ (6 : Int) < (xl.length : Int) := by omega
      have m2 : decide ((6 : Int) < (xl.length : Int)) = false := decide_eq_false m1
      have m3 : ¬ 6 < xl.length := by omega
      have m4 : decide (6 < xl.length) = false := decide_eq_false m3
      by_cases hz : xl.length = 0
      · have h1 : ¬ 0 < xl.length := by omega
        have h2 : decide (0 < xl.length) = false := decide_eq_false h1
        have h3 : (xl.length : Int) < 1 := by omega
        have h4 : decide ((xl.length : Int) < 1) = true := decide_eq_true h3
        have h5 : decide ((0 : Int) < (xl.length : Int)) = false := decide_eq_false (by omega)
        clear hz hn
        cases x1 <;> go_wp2_with fail
        all_goals (go_meet; exact ⟨_, rfl, ⟨fun _ => HN6.out⟩, rfl⟩)
      · have h1 : 0 < xl.length := by omega
        have h2 : decide (0 < xl.length) = true := decide_eq_true h1
        have h3 : ¬ (xl.length : Int) < 1 := by omega
        have h4 : decide ((xl.length : Int) < 1) = false := decide_eq_false h3
        have h5 : decide ((0 : Int) < (xl.length : Int)) = true := decide_eq_true (by omega)
        clear hz hn
        cases x1 <;> go_wp2_with fail
        all_goals (go_meet; exact ⟨_, rfl, ⟨fun _ => HN6.out⟩, rfl⟩)
    · have h1 : (6 : Int) < (xl.length : Int) := by omega
      have h2 : (0 : Int) < (xl.length : Int) := by omega
      have h3 : ¬ (xl.length : Int) < 1 := by omega
      have h4 : decide ((6 : Int) < (xl.length : Int)) = true := decide_eq_true h1
      have h5 : decide ((0 : Int) < (xl.length : Int)) = true := decide_eq_true h2
      have h6 : decide ((xl.length : Int) < 1) = false := decide_eq_false h3
      have h7 : 6 < xl.length := by omega
      have h8 : 0 < xl.length := by omega
      cases x1 <;> go_wp2_with fail
      all_goals (go_meet; exact ⟨true, (by first | rfl | simp [h4, h5] | (simp; omega)), ⟨fun h => by cases h⟩, rfl⟩)
  case rest =>
  obtain ⟨t91, rfl, H6, hw⟩ := hcut
  subst hw
  cases t91 with
  | true =>
    go_wp2_with fail
    go_ret2
    exact pair_post (fun h => absurd h (by decide)) B2.out.below
  | false =>
  have HL6 := Aside0.mk (H6.out rfl)
  clear H6
  go_wp2_with fail
  clear d0 d1 d2 d3 d4 d5 d6
  go_loopg [12] (xl.length + 1) (fun kq v12 w' => ∃ i : Nat, v12 = .int .i64 (i : Int) ∧ Aside0 (kq + i = xl.length + 1) ∧ Aside0 (i ≤ xl.length) ∧ Aside0 (0 < i → ∀ b, xl[0]? = some b → ZeroE b.f2) ∧ Aside0 (Boxes2 w (w.heap.size + 1) #[.string p.name, .int .i64 p.year, .slice A2 p.options.length c2, .slice A3 p.tables.length c3, .slice A4 p.groups.length c4, .slice A5 p.lines.length c5, .slice A6 p.checks.length c6] 33 #[.string x0, .bool x1, .bool x2, .int .i64 x3, .int .i64 x4, .int .i64 x5, .slice B xl.length d] 77 w'))
  case atStart => exact ⟨0, rfl, ⟨by omega⟩, ⟨by omega⟩, ⟨fun h => absurd h (by decide)⟩, B2⟩
  case round =>
    clear B2
    obtain ⟨i, rfl, HK, HI, HZ, HW⟩ := hrel
    cases gk with
    | zero => exact absurd HK.out (by have := HI.out; omega)
    | succ k1 =>
      obtain ⟨d0, d1, d2, d3, d4, d5, d6⟩ := cells7 HW.out.two
      by_cases hlt : i < xl.length
      · go_wp2_with fail
        with_reducible refine (clause_c ⟨x0, x1, x2, x3, x4, x5, xl⟩ B d i hlt wr (Kd.C_below HX.out HW.out.below)).mono ?_
        rintro e w3 ⟨v, rfl, hv, hb⟩
        have HW3 := Aside0.mk (HW.out.next hb)
        have HV := Aside0.mk hv
        clear hv hb d0 d1 d2 d3 d4 d5 d6
        cases v with
        | false =>
          go_wp2_with fail
          go_ret2
          exact pair_post (fun h => absurd h (by decide)) HW3.out.below
        | true =>
          go_wp2_with fail
          go_roundg k1
          case measure => omega
          case rel => exact ⟨i + 1, by simp, ⟨by have := HK.out; omega⟩, ⟨by omega⟩, ⟨fun _ => (Nat.eq_zero_or_pos i).elim (fun h => HV.out (by trivial) h) (fun h => HZ.out h)⟩, HW3⟩
      · have HF := Aside0.mk (show OkL ⟨x0, x1, x2, x3, x4, x5, xl⟩ from ⟨HN.out, HL6.out, fun b hb => (Nat.eq_zero_or_pos i).elim (fun h => by have h2 : 0 < xl.length := (List.getElem?_eq_some_iff.1 hb).1; omega) (fun h => HZ.out h b hb), HTY.out⟩)
        go_wp2_with fail
        go_ret2
        exact pair_post (fun _ => HF.out) HW.out.below
set_option maxHeartbeats 8000000 in
theorem oneCheck_c (w : World) (u : Value) (p : Pk) (hp : Lies w u p) (x : S82) (B : Option Addr) (d : Nat) (l : List ByteArray) (A : Option Addr) (c : Nat) (hC : Kd.string.C w A l.length l) :
    Calls Try.prog 134 #[u, .agg #[.string x.f0, .bool x.f1, .int .i64 x.f2, .int .i64 x.f3.f0, .int .i64 x.f3.f1, .int .i64 x.f3.f2, .int .i64 x.f3.f3, .slice B x.f3.f4.length d, .string x.f4], .slice A l.length c] w (IntPost (fun v => v = 0 → OkC x) w) := by
  have HL := Aside0.mk hp
  obtain ⟨A2, c2, A3, c3, A4, c4, A5, c5, A6, c6, rfl, _⟩ := hp
  have HC := Aside0.mk hC
  have B0 := Aside0.mk (Boxes2.new w #[.string p.name, .int .i64 p.year, .slice A2 p.options.length c2, .slice A3 p.tables.length c3, .slice A4 p.groups.length c4, .slice A5 p.lines.length c5, .slice A6 p.checks.length c6] #[.string x.f0, .bool x.f1, .int .i64 x.f2, .int .i64 x.f3.f0, .int .i64 x.f3.f1, .int .i64 x.f3.f2, .int .i64 x.f3.f3, .slice B x.f3.f4.length d, .string x.f4] 33 82 rfl)
  clear hC
  go_enter Try.func134, Try.ntmps134
  go_wp2_with fail
  with_reducible refine (look_c l A c x.f0 _ (Kd.C_alloc (Kd.C_alloc HC.out _) _)).mono ?_
  rintro e w1 ⟨v, rfl, hv, hb⟩
  have B1 := Aside0.mk (B0.out.next hb)
  have HV := Aside0.mk hv
  clear hv hb B0
  by_cases h0 : v = 0
  case neg =>
    go_wp2_with fail
    go_ret
    exact int_post (fun h => absurd h h0) B1.out.below
  subst h0
  have HN := Aside0.mk (HV.out rfl)
  clear HV
  obtain ⟨b0, b1, b2, b3, b4, b5, b6⟩ := cells7 B1.out.one
  obtain ⟨d0, d2, d8⟩ := cells9 B1.out.two
  go_wp2_with fail
  with_reducible refine (group_c w1 _ p (HL.out.below B1.out.below) x.f2).mono ?_
  rintro e w2 ⟨v, rfl, _, hb⟩
  have B2 := Aside0.mk (B1.out.next hb)
  clear hb b0 b1 b2 b3 b4 b5 b6 d0 d2 d8 B1
  cases v with
  | false =>
    go_wp2_with fail
    go_ret
    exact int_post (fun h => absurd h (by decide)) B2.out.below
  | true =>
  obtain ⟨d0, d2, d8⟩ := cells9 B2.out.two
  go_wp2_with fail
  all_goals try (go_ret; exact int_post (fun h => absurd h (by decide)) B2.out.below)
  have HT := Aside0.mk (show x.f4.size ≤ 40 by omega)
  clear d0 d2 d8
  go_loopg [8] (x.f4.size + 1) (fun kq v8 w' => ∃ i : Nat, v8 = .int .i64 (i : Int) ∧ Aside0 (kq + i = x.f4.size + 1) ∧ Aside0 (i ≤ x.f4.size) ∧ Aside0 (Boxes2 w (w.heap.size + 1) #[.string p.name, .int .i64 p.year, .slice A2 p.options.length c2, .slice A3 p.tables.length c3, .slice A4 p.groups.length c4, .slice A5 p.lines.length c5, .slice A6 p.checks.length c6] 33 #[.string x.f0, .bool x.f1, .int .i64 x.f2, .int .i64 x.f3.f0, .int .i64 x.f3.f1, .int .i64 x.f3.f2, .int .i64 x.f3.f3, .slice B x.f3.f4.length d, .string x.f4] 82 w'))
  case atStart => exact ⟨0, rfl, ⟨by omega⟩, ⟨by omega⟩, B2⟩
  case round =>
    clear B2
    obtain ⟨i, rfl, HK, HI, HW⟩ := hrel
    cases gk with
    | zero => exact absurd HK.out (by have := HI.out; omega)
    | succ k1 =>
      obtain ⟨d0, d2, d8⟩ := cells9 HW.out.two
      by_cases hlt : i < x.f4.size
      · have p0 : (0 : Int) ≤ (i : Int) := by omega
        have p1 : (i : Int) < (x.f4.size : Int) := by omega
        go_wp2_with fail
        all_goals first
          | (go_ret; exact int_post (fun h => absurd h (by decide)) (by repeat (first | exact HW.out.below | apply pw_below_drewN | apply below_drew1)))
          | (go_roundg k1; (case measure => omega); (case rel => exact ⟨i + 1, by simp, ⟨by have := HK.out; omega⟩, ⟨by omega⟩, ⟨HW.out.next (by repeat (first | exact Below.refl _ _ | apply pw_below_drewN | apply below_drew1))⟩⟩))
      · go_wp2_with fail
        go_ret
        exact int_post (fun _ => ⟨HN.out, HT.out⟩) HW.out.below
end Go.Proofs.Ytpbdkkahodaloaa.J
end

section
set_option linter.unusedSimpArgs false
set_option linter.unusedVariables false
namespace Go.Proofs.Ytpbdkkahodaloaa.V
open Go.RowKit Go.Proofs.Ytpbdkkahodaloaa.PS Go.Proofs.YtpbdkkahodaloaaW.PrintWords Go.Proofs.YtpbdkkahodaloaaW.PrintLast Go.Proofs.YtpbdkkahodaloaaW.PrintMore
structure R3 where
  at_ : Int
  err : Int
  bad : Int
def bytes (l : List Int) : Prop := ∀ c ∈ l, 0 ≤ c ∧ c ≤ 255
structure Good (b : List Int) (s : R3) : Prop where
  lo : 0 ≤ s.at_
  hi : s.at_ ≤ b.length
def failR (e a : Int) (s : R3) : R3 := if s.err = 0 then ⟨s.at_, e, a⟩ else s
def shortR (b : List Int) (s : R3) : R3 := failR 70 b.length s
theorem fail_is (b : List Int) (s : R3) (e a : Int) : pack_reader_fail.f b s.at_ s.err s.bad e a = some ((failR e a s).at_, (failR e a s).err, (failR e a s).bad) := by
  unfold pack_reader_fail.f failR
  split <;> rfl
theorem short_is (b : List Int) (s : R3) : pack_reader_short.f b s.at_ s.err s.bad = some ((shortR b s).at_, (shortR b s).err, (shortR b s).bad) := by
  unfold pack_reader_short.f
  rw [fail_is]; rfl
theorem failR_good {b : List Int} {s : R3} (h : Good b s) (e a : Int) : Good b (failR e a s) := by
  unfold failR; split
  · exact ⟨h.lo, h.hi⟩
  · exact h
theorem failR_at (e a : Int) (s : R3) : (failR e a s).at_ = s.at_ := by unfold failR; split <;> rfl
def numL (b : List Int) (fr : Int) : Nat → Int → Nat → R3 → Int × R3
  | 0, _, _, s => (0, s)
  | f + 1, n, i, s => if s.err = 0 then (if s.at_ = b.length then (0, shortR b s) else
      if (i = 9 ∧ rd b s.at_ > 1) ∨ (0 < i ∧ rd b s.at_ = 0) then (0, failR 71 fr s) else
      if rd b s.at_ < 128 then (n + rd b s.at_ % 128 * 128 ^ i, ⟨s.at_ + 1, s.err, s.bad⟩) else numL b fr f (n + rd b s.at_ % 128 * 128 ^ i) (i + 1) ⟨s.at_ + 1, s.err, s.bad⟩)
    else (0, s)
def numR (b : List Int) (s : R3) : Int × R3 := numL b s.at_ 10 0 0 s
theorem numL_good (b : List Int) (fr : Int) : ∀ (f : Nat) (n : Int) (i : Nat) (s : R3), Good b s → Good b (numL b fr f n i s).2
  | 0, n, i, s, h => h
  | f + 1, n, i, s, h => by
    unfold numL
    split
    · split
      · exact failR_good h _ _
      · rename_i h1
        split
        · exact failR_good h _ _
        · have h2 : Good b ⟨s.at_ + 1, s.err, s.bad⟩ := ⟨by have := h.lo; show 0 ≤ s.at_ + 1; omega, by have := h.hi; show s.at_ + 1 ≤ _; omega⟩
          split
          · exact h2
          · exact numL_good b fr f _ _ _ h2
    · exact h
theorem numR_good {b : List Int} {s : R3} (h : Good b s) : Good b (numR b s).2 := numL_good b _ _ _ _ s h
theorem and127 (c : Nat) (h : c < 256) : bits BinOp.and IntKind.u8 (c : Int) 127 = ((c % 128 : Nat) : Int) := by
  have h : ∀ x : Fin 256, bits BinOp.and IntKind.u8 ((x.val : Nat) : Int) 127 = ((x.val % 128 : Nat) : Int) := by decide +kernel
  exact h ⟨c, by omega⟩
theorem pow128 (i : Nat) : (128 : Nat) ^ i = 2 ^ (7 * i) := by rw [Nat.pow_mul]
theorem join7 (n i c : Nat) (hi : i ≤ 9) (hn : n < 128 ^ i) (hc : c < 256) (hc9 : i = 9 → c ≤ 1) :
    bits BinOp.or IntKind.u64 (n : Int) (shl .u64 (IntKind.u64.wrap (bits BinOp.and IntKind.u8 (c : Int) 127)) (wrap64 (7 * (i : Int)))) = ((n + c % 128 * 128 ^ i : Nat) : Int) ∧ n + c % 128 * 128 ^ i < 18446744073709551616 ∧ (i < 9 → n + c % 128 * 128 ^ i < 128 ^ (i + 1)) := by
  rw [and127 c hc]
  have hw : wrap64 (7 * (i : Int)) = ((7 * i : Nat) : Int) := by unfold wrap64; omega
  have hu : IntKind.u64.wrap ((c % 128 : Nat) : Int) = ((c % 128 : Nat) : Int) := by rw [IntKind.wrap_u64]; omega
  rw [hw, hu]
  have e : (2 : Nat) ^ (7 * i) = 128 ^ i := (pow128 i).symm
  have hp9 : (128 : Nat) ^ i ≤ 128 ^ 9 := Nat.pow_le_pow_right (by decide) hi
  have hlt : c % 128 * 128 ^ i < 18446744073709551616 := by
    by_cases h9 : i = 9
    · subst h9
      have := hc9 rfl
      have h2 : c % 128 ≤ 1 := by omega
      calc c % 128 * 128 ^ 9 ≤ 1 * 128 ^ 9 := Nat.mul_le_mul_right _ h2
        _ < 18446744073709551616 := by decide
    · have h8 : (128 : Nat) ^ i ≤ 128 ^ 8 := Nat.pow_le_pow_right (by decide) (by omega)
      calc c % 128 * 128 ^ i ≤ 127 * 128 ^ 8 := Nat.mul_le_mul (by omega) h8
        _ < 18446744073709551616 := by decide
  have hs : shl .u64 ((c % 128 : Nat) : Int) ((7 * i : Nat) : Int) = ((c % 128 * 128 ^ i : Nat) : Int) := by
    unfold shl
    rw [Int.toNat_natCast, Nat.min_eq_left (by show 7 * i ≤ 64; omega)]
    have : ((c % 128 : Nat) : Int) * 2 ^ (7 * i) = ((c % 128 * 128 ^ i : Nat) : Int) := by rw [← e]; push_cast; rfl
    rw [this, IntKind.wrap_u64]
    omega
  have hn64 : n < 18446744073709551616 := Nat.lt_of_lt_of_le hn (Nat.le_trans hp9 (by decide))
  have hor : n ||| c % 128 * 128 ^ i = n + c % 128 * 128 ^ i := by
    rw [Nat.or_comm, nat_join (7 * i) (c % 128 * 128 ^ i) n (by rw [e]; exact Nat.mul_mod_left _ _) (by rw [e]; exact hn), Nat.add_comm]
  have hsum : n + c % 128 * 128 ^ i < 18446744073709551616 := by
    have h1 : n ||| c % 128 * 128 ^ i < 2 ^ 64 := Nat.or_lt_two_pow (by omega) (by omega)
    rw [hor] at h1
    omega
  refine ⟨?_, hsum, fun h9 => ?_⟩
  · rw [hs, u64_or_nat n _ hn64 hlt, hor]
  · rw [Nat.pow_succ]
    have : c % 128 * 128 ^ i ≤ 127 * 128 ^ i := Nat.mul_le_mul_right _ (by omega)
    omega
theorem rd_byte {l : List Int} (hl : bytes l) {i : Int} (h0 : 0 ≤ i) (h : i < l.length) : ∃ c : Nat, rd l i = (c : Int) ∧ c < 256 := by
  have e : rd l i = l[i.toNat]'(by omega) := by simp [rd, List.getD_eq_getElem?_getD, List.getElem?_eq_getElem (by omega : i.toNat < l.length)]
  have hb := hl _ (List.getElem_mem (by omega : i.toNat < l.length))
  refine ⟨(l[i.toNat]'(by omega)).toNat, ?_, ?_⟩
  · rw [e]; omega
  · omega
theorem wrap_next {x : Int} (h0 : 0 ≤ x) (h1 : x ≤ 9223372036854775806) : wrap64 (x + 1) = x + 1 := by unfold wrap64; omega
theorem wrap_next' {i : Nat} (h1 : i ≤ 9223372036854775806) : wrap64 ((i : Int) + 1) = ((i + 1 : Nat) : Int) := by unfold wrap64; omega
theorem wrap_seven {i : Nat} (h : i ≤ 9) : 0 ≤ wrap64 (7 * (i : Int)) := by
  have e : wrap64 (7 * (i : Int)) = ((7 * i : Nat) : Int) := by unfold wrap64; omega
  rw [e]; omega
attribute [local irreducible] rd
set_option maxHeartbeats 1000000 in
theorem num_ev (b : List Int) (hb : bytes b) (hl : b.length ≤ 9223372036854775806) (fr : Int) : ∀ (f i n : Nat) (s : R3), Good b s → f + i = 10 → i ≤ 9 → n < 128 ^ i →
    Ev (fun k => pack_reader_number.l0 k fr (n : Int) (i : Int) b s.at_ s.err s.bad) ((numL b fr f n i s).1, (numL b fr f n i s).2.at_, (numL b fr f n i s).2.err, (numL b fr f n i s).2.bad)
  | 0, i, n, s, h, hf, hi, hn => by omega
  | f + 1, i, n, s, h, hf, hi, hn => by
    by_cases he : s.err = 0
    · by_cases ha : s.at_ = (b.length : Int)
      · refine Ev.step (f := fun _ => some (0, (shortR b s).at_, (shortR b s).err, (shortR b s).bad)) (fun k => ?_) ?_
        · simp only [pack_reader_number.l0]
          rw [if_pos he, if_pos ha, short_is]; rfl
        · unfold numL
          rw [if_pos he, if_pos ha]
          exact Ev.now _
      · have h0 := h.lo
        have h1 : s.at_ < (b.length : Int) := by have := h.hi; omega
        obtain ⟨c, hc, hc2⟩ := rd_byte hb h0 h1
        have hj : ∀ x : Bool, (x = true ↔ ((i = 9 ∧ rd b s.at_ > 1) ∨ (0 < i ∧ rd b s.at_ = 0))) → Ev (fun k => pack_reader_number.j1 k fr (n : Int) (i : Int) (rd b s.at_) x b s.at_ s.err s.bad) ((numL b fr (f + 1) n i s).1, (numL b fr (f + 1) n i s).2.at_, (numL b fr (f + 1) n i s).2.err, (numL b fr (f + 1) n i s).2.bad) := by
          intro x hx
          unfold numL
          rw [if_pos he, if_neg ha]
          by_cases hbad : (i = 9 ∧ rd b s.at_ > 1) ∨ (0 < i ∧ rd b s.at_ = 0)
          · rw [if_pos hbad]
            refine Ev.step (f := fun _ => some (0, (failR 71 fr s).at_, (failR 71 fr s).err, (failR 71 fr s).bad)) (fun k => ?_) (Ev.now _)
            simp only [pack_reader_number.j1]
            rw [if_pos (hx.mpr hbad), fail_is]; rfl
          · rw [if_neg hbad]
            have hxf : ¬ x = true := fun h => hbad (hx.mp h)
            obtain ⟨j1, j2, j3⟩ := join7 n i c hi hn hc2 (fun h9 => by
              have : ¬ (i = 9 ∧ rd b s.at_ > 1) := fun h => hbad (.inl h)
              rw [hc] at this
              omega)
            rw [hc]
            have hcm : ((c : Int)) % 128 = ((c % 128 : Nat) : Int) := by omega
            have hval : (n : Int) + (c : Int) % 128 * 128 ^ i = ((n + c % 128 * 128 ^ i : Nat) : Int) := by rw [hcm]; push_cast; rfl
            rw [hval]
            by_cases hlo : (c : Int) < 128
            · rw [if_pos hlo]
              refine Ev.step (f := fun _ => some (((n + c % 128 * 128 ^ i : Nat) : Int), s.at_ + 1, s.err, s.bad)) (fun k => ?_) (Ev.now _)
              simp only [pack_reader_number.j1]
              rw [if_neg hxf, if_pos (wrap_seven hi), if_pos hlo, j1, wrap_next h0 (by omega)]
            · rw [if_neg hlo]
              have hi9 : i < 9 := by
                by_cases h9 : i = 9
                · exfalso
                  have : ¬ (i = 9 ∧ rd b s.at_ > 1) := fun h => hbad (.inl h)
                  rw [hc] at this
                  omega
                · omega
              refine Ev.step (fun k => ?_) (num_ev b hb hl fr f (i + 1) (n + c % 128 * 128 ^ i) ⟨s.at_ + 1, s.err, s.bad⟩ ⟨by show 0 ≤ s.at_ + 1; omega, by show s.at_ + 1 ≤ _; omega⟩ (by omega) (by omega) (j3 hi9))
              simp only [pack_reader_number.j1]
              rw [if_neg hxf, if_pos (wrap_seven hi), if_neg hlo, j1, wrap_next h0 (by omega), wrap_next' (by omega)]
        by_cases h9 : i = 9
        · by_cases hg : rd b s.at_ > 1
          · refine Ev.step (fun k => ?_) (hj true ⟨fun _ => .inl ⟨h9, hg⟩, fun _ => rfl⟩)
            simp only [pack_reader_number.l0]
            rw [if_pos he, if_neg ha, if_pos h0, if_pos h1, if_pos (show (i : Int) = 9 by rw [h9]; rfl), if_pos hg]
          · refine Ev.step (fun k => ?_) (hj (rd b s.at_ == 0) ⟨fun h => .inr ⟨by rw [h9]; decide, by simpa using h⟩, fun h => (by rcases h with h | h; exact absurd h.2 hg; simpa using h.2)⟩)
            simp only [pack_reader_number.l0]
            rw [if_pos he, if_neg ha, if_pos h0, if_pos h1, if_pos (show (i : Int) = 9 by rw [h9]; rfl), if_neg hg, if_pos (show (i : Int) > 0 by rw [h9]; decide)]
        · by_cases hi0 : 0 < i
          · refine Ev.step (fun k => ?_) (hj (rd b s.at_ == 0) ⟨fun h => .inr ⟨hi0, by simpa using h⟩, fun h => (by rcases h with h | h; exact absurd h.1 h9; simpa using h.2)⟩)
            simp only [pack_reader_number.l0]
            rw [if_pos he, if_neg ha, if_pos h0, if_pos h1, if_neg (show ¬ ((i : Int) = 9) from fun h => h9 (by omega)), if_pos (show (i : Int) > 0 by omega)]
          · refine Ev.step (fun k => ?_) (hj false ⟨fun h => absurd h (by decide), fun h => h.elim (fun h => absurd h.1 h9) (fun h => absurd h.1 hi0)⟩)
            simp only [pack_reader_number.l0]
            rw [if_pos he, if_neg ha, if_pos h0, if_pos h1, if_neg (show ¬ ((i : Int) = 9) from fun h => h9 (by omega)), if_neg (show ¬ ((i : Int) > 0) from fun h => hi0 (by omega))]
    · refine Ev.step (f := fun _ => some (0, s.at_, s.err, s.bad)) (fun k => ?_) ?_
      · simp only [pack_reader_number.l0]
        rw [if_neg he]
      · unfold numL
        rw [if_neg he]
        exact Ev.now _
theorem numR_ev (b : List Int) (hb : bytes b) (hl : b.length ≤ 9223372036854775806) (s : R3) (h : Good b s) : Ev (fun k => pack_reader_number.f k b s.at_ s.err s.bad) ((numR b s).1, (numR b s).2.at_, (numR b s).2.err, (numR b s).2.bad) :=
  num_ev b hb hl s.at_ 10 0 0 s h (by omega) (by omega) (by decide)
end Go.Proofs.Ytpbdkkahodaloaa.V
end

section
set_option linter.unusedSimpArgs false
set_option linter.unusedVariables false
namespace Go.Proofs.Ytpbdkkahodaloaa.V
open Go.RowKit Go.Proofs.Ytpbdkkahodaloaa.PS Go.Proofs.YtpbdkkahodaloaaW.PrintWords Go.Proofs.YtpbdkkahodaloaaW.PrintLast Go.Proofs.YtpbdkkahodaloaaW.PrintMore
attribute [local irreducible] rd
theorem numL_range (b : List Int) (hb : bytes b) (fr : Int) : ∀ (f i n : Nat) (s : R3), Good b s → f + i = 10 → i ≤ 9 → n < 128 ^ i → 0 ≤ (numL b fr f n i s).1 ∧ (numL b fr f n i s).1 < 18446744073709551616
  | 0, i, n, s, h, hf, hi, hn => by omega
  | f + 1, i, n, s, h, hf, hi, hn => by
    unfold numL
    split
    · split
      · exact ⟨Int.le_refl 0, by show (0 : Int) < _; omega⟩
      · rename_i he ha
        split
        · exact ⟨Int.le_refl 0, by show (0 : Int) < _; omega⟩
        · rename_i hbad
          have h0 := h.lo
          have h1 : s.at_ < (b.length : Int) := by have := h.hi; omega
          obtain ⟨c, hc, hc2⟩ := rd_byte hb h0 h1
          obtain ⟨j1, j2, j3⟩ := join7 n i c hi hn hc2 (fun h9 => by
            have : ¬ (i = 9 ∧ rd b s.at_ > 1) := fun h => hbad (.inl h)
            rw [hc] at this
            omega)
          have hval : (n : Int) + rd b s.at_ % 128 * 128 ^ i = ((n + c % 128 * 128 ^ i : Nat) : Int) := by rw [hc, show ((c : Int)) % 128 = ((c % 128 : Nat) : Int) by omega]; push_cast; rfl
          rw [hval]
          split
          · exact ⟨by show (0 : Int) ≤ ((n + c % 128 * 128 ^ i : Nat) : Int); omega, by show ((n + c % 128 * 128 ^ i : Nat) : Int) < _; omega⟩
          · rename_i hlo
            have hi9 : i < 9 := by
              by_cases h9 : i = 9
              · exfalso
                have : ¬ (i = 9 ∧ rd b s.at_ > 1) := fun h => hbad (.inl h)
                rw [hc] at this hlo
                omega
              · omega
            exact numL_range b hb fr f (i + 1) _ _ ⟨by show 0 ≤ s.at_ + 1; omega, by show s.at_ + 1 ≤ _; omega⟩ (by omega) (by omega) (j3 hi9)
    · exact ⟨Int.le_refl 0, by show (0 : Int) < _; omega⟩
theorem numR_range {b : List Int} (hb : bytes b) {s : R3} (h : Good b s) : 0 ≤ (numR b s).1 ∧ (numR b s).1 < 18446744073709551616 := numL_range b hb s.at_ 10 0 0 s h (by omega) (by omega) (by decide)
def unz (n : Int) : Int := if n % 2 = 0 then n / 2 else -(n / 2) - 1
theorem i64_xor0 (a : Int) (h0 : -9223372036854775808 ≤ a) (h1 : a ≤ 9223372036854775807) : bits BinOp.xor IntKind.i64 a 0 = a := by
  show IntKind.i64.wrap ((BitVec.ofInt 64 a ^^^ BitVec.ofInt 64 0).toNat : Int) = _
  rw [show BitVec.ofInt 64 0 = 0#64 by rfl, BitVec.xor_zero, BitVec.toNat_ofInt, IntKind.wrap_i64]
  omega
theorem i64_xor1 (a : Int) (h0 : -9223372036854775808 ≤ a) (h1 : a ≤ 9223372036854775807) : bits BinOp.xor IntKind.i64 a (-1) = -a - 1 := by
  show IntKind.i64.wrap ((BitVec.ofInt 64 a ^^^ BitVec.ofInt 64 (-1)).toNat : Int) = _
  rw [show BitVec.ofInt 64 (-1) = BitVec.allOnes 64 by decide, BitVec.xor_allOnes, BitVec.toNat_not, BitVec.toNat_ofInt, IntKind.wrap_i64]
  omega
theorem and1 (n : Nat) (h : n < 18446744073709551616) : bits BinOp.and IntKind.u64 (n : Int) 1 = ((n % 2 : Nat) : Int) := by
  have := u64_and_nat n 1 h (by omega)
  rw [Nat.and_one_is_mod] at this
  exact this
theorem unz_is (n : Int) (h0 : 0 ≤ n) (h1 : n < 18446744073709551616) : bits BinOp.xor IntKind.i64 (wrap64 (n / 2)) (wrap64 (-(wrap64 (bits BinOp.and IntKind.u64 n 1)))) = unz n := by
  obtain ⟨m, rfl⟩ := Int.eq_ofNat_of_zero_le h0
  rw [and1 m (by omega)]
  have hw : wrap64 ((m : Int) / 2) = (m : Int) / 2 := by unfold wrap64; omega
  rw [hw]
  unfold unz
  by_cases he : (m : Int) % 2 = 0
  · rw [if_pos he, show m % 2 = 0 by omega, show wrap64 (-(wrap64 ((0 : Nat) : Int))) = 0 by unfold wrap64; omega]
    exact i64_xor0 ((m : Int) / 2) (by omega) (by omega)
  · rw [if_neg he, show m % 2 = 1 by omega, show wrap64 (-(wrap64 ((1 : Nat) : Int))) = -1 by unfold wrap64; omega]
    exact i64_xor1 ((m : Int) / 2) (by omega) (by omega)
def intR (b : List Int) (s : R3) : Int × R3 := (unz (numR b s).1, (numR b s).2)
def byteR (b : List Int) (s : R3) : Int × R3 := if s.err = 0 then (if s.at_ = b.length then (0, shortR b s) else (rd b s.at_, ⟨s.at_ + 1, s.err, s.bad⟩)) else (0, s)
def flagR (b : List Int) (s : R3) : Bool × R3 := ((byteR b s).1 == 1, if (byteR b s).1 > 1 then failR 71 s.at_ (byteR b s).2 else (byteR b s).2)
def givenR (b : List Int) (says is : Int) (s : R3) : Int × R3 := if bits .and .u8 says is = 0 ∨ ¬ s.err = 0 then (0, s) else ((intR b s).1, if (intR b s).1 = 0 then failR 71 s.at_ (intR b s).2 else (intR b s).2)
def bandR (b : List Int) (s : R3) : S74 × R3 := (⟨(intR b s).1, (intR b (intR b s).2).1⟩, (intR b (intR b s).2).2)
theorem intR_good {b : List Int} {s : R3} (h : Good b s) : Good b (intR b s).2 := numR_good h
theorem byteR_good {b : List Int} {s : R3} (h : Good b s) : Good b (byteR b s).2 := by
  unfold byteR
  split
  · split
    · exact failR_good h _ _
    · exact ⟨by have := h.lo; show 0 ≤ s.at_ + 1; omega, by have := h.hi; show s.at_ + 1 ≤ _; omega⟩
  · exact h
theorem flagR_good {b : List Int} {s : R3} (h : Good b s) : Good b (flagR b s).2 := by
  unfold flagR
  show Good b (if _ then _ else _)
  split
  · exact failR_good (byteR_good h) _ _
  · exact byteR_good h
theorem givenR_good {b : List Int} {s : R3} (h : Good b s) (says is : Int) : Good b (givenR b says is s).2 := by
  unfold givenR
  split
  · exact h
  · show Good b (if _ then _ else _)
    split
    · exact failR_good (intR_good h) _ _
    · exact intR_good h
theorem intR_ev {b : List Int} (hb : bytes b) (hl : b.length ≤ 9223372036854775806) {s : R3} (h : Good b s) : Ev (fun k => pack_reader_int.f k b s.at_ s.err s.bad) ((intR b s).1, (intR b s).2.at_, (intR b s).2.err, (intR b s).2.bad) := by
  have hr := numR_range hb h
  unfold pack_reader_int.f
  refine Ev.bind (numR_ev b hb hl s h) (Ev.congr (fun k => ?_) (Ev.now _))
  simp only [unz_is _ hr.1 hr.2]
  rfl
theorem byte_is {b : List Int} (hl : b.length ≤ 9223372036854775806) {s : R3} (h : Good b s) : pack_reader_byte.f b s.at_ s.err s.bad = some ((byteR b s).1, (byteR b s).2.at_, (byteR b s).2.err, (byteR b s).2.bad) := by
  have h0 := h.lo
  have h1 := h.hi
  unfold pack_reader_byte.f byteR
  by_cases he : s.err = 0
  · rw [if_pos he, if_pos he]
    by_cases ha : s.at_ = (b.length : Int)
    · rw [if_pos ha, if_pos ha, short_is]; rfl
    · rw [if_neg ha, if_neg ha, wrap_next h0 (by omega), show s.at_ + 1 - 1 = s.at_ by omega, show wrap64 s.at_ = s.at_ by unfold wrap64; omega, if_pos h0, if_pos (by omega)]
  · rw [if_neg he, if_neg he]
theorem flag_is {b : List Int} (hl : b.length ≤ 9223372036854775806) {s : R3} (h : Good b s) : pack_reader_flag.f b s.at_ s.err s.bad = some ((flagR b s).1, (flagR b s).2.at_, (flagR b s).2.err, (flagR b s).2.bad) := by
  unfold pack_reader_flag.f flagR
  rw [byte_is hl h]
  simp only [Option.bind_some]
  by_cases hc : (byteR b s).1 > 1
  · rw [if_pos hc, if_pos hc, fail_is]; rfl
  · rw [if_neg hc, if_neg hc]
theorem given_ev {b : List Int} (hb : bytes b) (hl : b.length ≤ 9223372036854775806) {s : R3} (h : Good b s) (says is : Int) : Ev (fun k => pack_reader_given.f k b s.at_ s.err s.bad says is) ((givenR b says is s).1, (givenR b says is s).2.at_, (givenR b says is s).2.err, (givenR b says is s).2.bad) := by
  have hj : ∀ x : Bool, (x = true ↔ (bits .and .u8 says is = 0 ∨ ¬ s.err = 0)) → Ev (fun k => pack_reader_given.j0 k x b s.at_ s.err s.bad) ((givenR b says is s).1, (givenR b says is s).2.at_, (givenR b says is s).2.err, (givenR b says is s).2.bad) := by
    intro x hx
    unfold givenR
    by_cases hc : bits .and .u8 says is = 0 ∨ ¬ s.err = 0
    · rw [if_pos hc]
      refine Ev.step (f := fun _ => some (0, s.at_, s.err, s.bad)) (fun k => ?_) (Ev.now _)
      simp only [pack_reader_given.j0]
      rw [if_pos (hx.mpr hc)]
    · rw [if_neg hc]
      have hxf : ¬ x = true := fun e => hc (hx.mp e)
      refine Ev.step (f := fun k => (pack_reader_int.f k b s.at_ s.err s.bad).bind fun bt182 => (if bt182.1 = 0 then ((pack_reader_fail.f b bt182.2.1 bt182.2.2.1 bt182.2.2.2 71 s.at_).bind fun bt186 => (some (bt182.1, bt186.1, bt186.2.1, bt186.2.2))) else (some (bt182.1, bt182.2.1, bt182.2.2.1, bt182.2.2.2)))) (fun k => ?_) (Ev.bind (intR_ev hb hl h) (Ev.congr (fun k => ?_) (Ev.now _)))
      · simp only [pack_reader_given.j0]
        rw [if_neg hxf]
      · simp only []
        by_cases hz : (intR b s).1 = 0
        · rw [if_pos hz, if_pos hz, fail_is]; rfl
        · rw [if_neg hz, if_neg hz]
  unfold pack_reader_given.f
  by_cases ha : bits .and .u8 says is = 0
  · refine Ev.congr (fun k => ?_) (hj true ⟨fun _ => .inl ha, fun _ => rfl⟩)
    rw [if_pos ha]
  · refine Ev.congr (fun k => ?_) (hj (s.err != 0) ⟨fun e => .inr (by simpa using e), fun e => by simpa using e.resolve_left ha⟩)
    rw [if_neg ha]
theorem band_ev {b : List Int} (hb : bytes b) (hl : b.length ≤ 9223372036854775806) {s : R3} (h : Good b s) : Ev (fun k => pack_reader_band.f k b s.at_ s.err s.bad) ((bandR b s).1.f0, (bandR b s).1.f1, (bandR b s).2.at_, (bandR b s).2.err, (bandR b s).2.bad) := by
  unfold pack_reader_band.f
  refine Ev.bind (intR_ev hb hl h) (Ev.bind (intR_ev hb hl (intR_good h)) (Ev.now _))
structure Rd (w0 w : World) (g : Nat) (b : List Int) (s : R3) : Prop where
  is : IsS151 w0 w g b s.at_ s.err s.bad
  dat : Below w0.heap.size w0 w
  good : Good b s
  byt : bytes b
  len : b.length ≤ 131072
def RP (w0 : World) (g : Nat) (b : List Int) (s' : R3) (v : Value) (w : World) (e : Ending) (w' : World) : Prop := e = .returned v ∧ Rd w0 w' g b s' ∧ KeepBut w w' g none
section
variable {w0 w : World} {g : Nat} {b : List Int} {s : R3}
theorem fail_r (h : Rd w0 w g b s) (e a : Int) : Calls Try.prog 91 #[.pointer (some ⟨g, 0, none⟩), .int .i64 e, .int .i64 a] w (RP w0 g b (failR e a s) (.tuple #[]) w) :=
  (pack_reader_fail.calls g b s.at_ s.err s.bad e a _ _ _ w0 w h.is h.dat (fail_is b s e a)).mono fun e' w' ⟨he, hi, hb, hk⟩ => ⟨he, ⟨hi, hb, failR_good h.good _ _, h.byt, h.len⟩, hk⟩
theorem short_r (h : Rd w0 w g b s) : Calls Try.prog 90 #[.pointer (some ⟨g, 0, none⟩)] w (RP w0 g b (shortR b s) (.tuple #[]) w) :=
  (pack_reader_short.calls g b s.at_ s.err s.bad _ _ _ w0 w h.is h.dat (short_is b s)).mono fun e' w' ⟨he, hi, hb, hk⟩ => ⟨he, ⟨hi, hb, failR_good h.good _ _, h.byt, h.len⟩, hk⟩
theorem number_r (h : Rd w0 w g b s) : Calls Try.prog 121 #[.pointer (some ⟨g, 0, none⟩)] w (RP w0 g b (numR b s).2 (.int .u64 (numR b s).1) w) := by
  obtain ⟨k, hk⟩ := numR_ev b h.byt (by have := h.len; omega) s h.good
  exact (pack_reader_number.calls k g b s.at_ s.err s.bad _ _ _ _ w0 w h.is h.dat (hk k (Nat.le_refl _))).mono fun e' w' ⟨he, hi, hb, hk⟩ => ⟨he, ⟨hi, hb, numR_good h.good, h.byt, h.len⟩, hk⟩
theorem int_r (h : Rd w0 w g b s) : Calls Try.prog 93 #[.pointer (some ⟨g, 0, none⟩)] w (RP w0 g b (intR b s).2 (.int .i64 (intR b s).1) w) := by
  obtain ⟨k, hk⟩ := intR_ev h.byt (by have := h.len; omega) h.good
  exact (pack_reader_int.calls k g b s.at_ s.err s.bad _ _ _ _ w0 w h.is h.dat (hk k (Nat.le_refl _))).mono fun e' w' ⟨he, hi, hb, hk⟩ => ⟨he, ⟨hi, hb, intR_good h.good, h.byt, h.len⟩, hk⟩
theorem byte_r (h : Rd w0 w g b s) : Calls Try.prog 143 #[.pointer (some ⟨g, 0, none⟩)] w (RP w0 g b (byteR b s).2 (.int .u8 (byteR b s).1) w) :=
  (pack_reader_byte.calls g b s.at_ s.err s.bad _ _ _ _ w0 w h.is h.dat (byte_is (by have := h.len; omega) h.good)).mono fun e' w' ⟨he, hi, hb, hk⟩ => ⟨he, ⟨hi, hb, byteR_good h.good, h.byt, h.len⟩, hk⟩
theorem flag_r (h : Rd w0 w g b s) : Calls Try.prog 125 #[.pointer (some ⟨g, 0, none⟩)] w (RP w0 g b (flagR b s).2 (.bool (flagR b s).1) w) :=
  (pack_reader_flag.calls g b s.at_ s.err s.bad _ _ _ _ w0 w h.is h.dat (flag_is (by have := h.len; omega) h.good)).mono fun e' w' ⟨he, hi, hb, hk⟩ => ⟨he, ⟨hi, hb, flagR_good h.good, h.byt, h.len⟩, hk⟩
theorem given_r (h : Rd w0 w g b s) (says is : Int) : Calls Try.prog 144 #[.pointer (some ⟨g, 0, none⟩), .int .u8 says, .int .u8 is] w (RP w0 g b (givenR b says is s).2 (.int .i64 (givenR b says is s).1) w) := by
  obtain ⟨k, hk⟩ := given_ev h.byt (by have := h.len; omega) h.good says is
  exact (pack_reader_given.calls k g b s.at_ s.err s.bad says is _ _ _ _ w0 w h.is h.dat (hk k (Nat.le_refl _))).mono fun e' w' ⟨he, hi, hb, hk⟩ => ⟨he, ⟨hi, hb, givenR_good h.good _ _, h.byt, h.len⟩, hk⟩
theorem band_r (h : Rd w0 w g b s) : Calls Try.prog 124 #[.pointer (some ⟨g, 0, none⟩)] w (RP w0 g b (bandR b s).2 (.agg #[.int .i64 (bandR b s).1.f0, .int .i64 (bandR b s).1.f1]) w) := by
  obtain ⟨k, hk⟩ := band_ev h.byt (by have := h.len; omega) h.good
  exact (pack_reader_band.calls k g b s.at_ s.err s.bad _ _ _ _ _ w0 w h.is h.dat (hk k (Nat.le_refl _))).mono fun e' w' ⟨he, hi, hb, hk⟩ => ⟨he, ⟨hi, hb, intR_good (intR_good h.good), h.byt, h.len⟩, hk⟩
end
end Go.Proofs.Ytpbdkkahodaloaa.V
end

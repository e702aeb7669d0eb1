-- Part 8 of the texts of the claim CR (wrote by programs: words of the kit's print.sh, printed functions; and my own texts; joined by wip/tools/pack.py).
import Derived.Test.YtfhgomcfpmbhnaaCR7
import Derived.StillTailTactics

section
namespace Go.Proofs.Ytfhgomcfpmbhnaa.Y
open Go Go.RowKit Go.Proofs.Ytfhgomcfpmbhnaa.PS Go.Proofs.Ytfhgomcfpmbhnaa.F Go.Proofs.YtfhgomcfpmbhnaaW.PrintWords Go.Proofs.YtfhgomcfpmbhnaaW.PrintMore Go.Proofs.YtfhgomcfpmbhnaaW.Fits
attribute [local go_sem] frun_add frun_sub frun_mul frun_quo frun_neg frun_of frun_same frun_store frun_bits frun_from
attribute [local go_sem ↓] Go.wp_at_zero Go.wp_at_succ
set_option linter.unusedVariables false
set_option maxRecDepth 100000
def Refuses (w : World) (c : Int) (e : Ending) (w' : World) : Prop := e = .returned (.tuple #[.slice none 0 0, .int .i64 c]) ∧ Below w.heap.size w w'
set_option maxHeartbeats 4000000 in
theorem smooth_bad (A : Option Addr) (c0 n : Nat) (a1 : Int) (w : World) (h : a1 < 1 ∨ 15 < a1 ∨ (1 ≤ a1 ∧ a1 ≤ 15 ∧ a1 % 2 = 0)) :
    Calls Try.prog 27 #[.slice A n c0, .int .i64 a1] w (Refuses w 173) := by
  by_cases h1 : a1 < 1
  · have b1 : decide (a1 < 1) = true := decide_eq_true h1
    clear h
    go_enter Try.func27, Try.ntmps27
    go_wp2
    go_ret2
    exact ⟨rfl, Below.refl _ _⟩
  · have b1 : decide (a1 < 1) = false := decide_eq_false h1
    by_cases h2 : 15 < a1
    · have b2 : decide (15 < a1) = true := decide_eq_true h2
      clear h
      go_enter Try.func27, Try.ntmps27
      go_wp2
      go_ret2
      exact ⟨rfl, Below.refl _ _⟩
    · have b2 : decide (15 < a1) = false := decide_eq_false h2
      have h3 : a1 % 2 = 0 := by omega
      have b3 : (a1 % 2 == 0) = true := beq_iff_eq.mpr h3
      have b4 : 1 ≤ a1 := by omega
      have b5 : a1 ≤ 15 := by omega
      clear h h3 h1 h2
      go_enter Try.func27, Try.ntmps27
      go_wp2
      go_ret2
      exact ⟨rfl, Below.refl _ _⟩
set_option maxHeartbeats 4000000 in
theorem smooth_unord (A : Option Addr) (c0 : Nat) (l : List S58) (a1 : Int) (w : World) (hr : Kd.C k58 w A l.length l) (hc : l.length ≤ c0) (h1 : 1 ≤ a1) (h15 : a1 ≤ 15) (hodd : (a1 % 2 == 0) = false) (k : Nat) (hord : curve_ordered.f k l = some false) :
    Calls Try.prog 27 #[.slice A l.length c0, .int .i64 a1] w (Refuses w 172) := by
  have HR := Aside0.mk hr
  have HC := Aside0.mk hc
  clear hr
  have n1 : decide (a1 < 1) = false := decide_eq_false (by omega)
  have n15 : decide (15 < a1) = false := decide_eq_false (by omega)
  go_enter Try.func27, Try.ntmps27
  go_wp2_with fail
  go_at_call 48
  with_reducible refine (curve_ordered.calls k A c0 l false w HR.out HC.out hord).mono ?_
  rintro e w1 ⟨rfl, hb⟩
  have HB0 := Aside0.mk hb
  clear hb
  go_wp2_with fail
  go_ret2
  exact ⟨rfl, HB0.out⟩
def nanAt (w : World) (x y : Nat) : Nat := (Question.nanBits .f32 x y).cut (w.tape w.drawn (.nanBits .f32 x y))
theorem frun_sub_nan {P : Program} {w : World} {t : TypeId} {x y : Nat} (h : fk_sub x y = false) : (binOp .sub t (.float .f32 x) (.float .f32 y)).run P w = .ok (.float .f32 (nanAt w x y)) w.drew := by
  have hn : Ieee.single.sub x y = none := by
    unfold fk_sub at h
    cases hs : Ieee.single.sub x y with
    | none => rfl
    | some r => rw [hs] at h; cases h
  have hn' : FloatKind.f32.format.sub x y = none := hn
  simp [binOp, Op.floatArith, hn', Question.forced, nanAt]
theorem nanAt_is (w : World) (x y : Nat) : nanAt w x y < 4294967296 ∧ 2139095040 < nanAt w x y % 2147483648 := by
  unfold nanAt
  generalize w.tape w.drawn (.nanBits .f32 x y) = t
  show (t % 2) * 2 ^ 31 + 0x7f800000 + 1 + (t / 2) % (2 ^ 23 - 1) < 4294967296 ∧ 2139095040 < ((t % 2) * 2 ^ 31 + 0x7f800000 + 1 + (t / 2) % (2 ^ 23 - 1)) % 2147483648
  have hz : (t / 2) % (2 ^ 23 - 1) < 2 ^ 23 - 1 := Nat.mod_lt _ (by decide)
  generalize (t / 2) % (2 ^ 23 - 1) = z at hz ⊢
  rcases Nat.mod_two_eq_zero_or_one t with h | h <;> rw [h] <;> omega
def absF (d : Nat) : Nat := if (FloatKind.f32.format.order d 0 == some Ordering.lt) = true then fl_neg d else d
def geF (d y : Nat) : Bool := (FloatKind.f32.format.order d y == some Ordering.gt) || (FloatKind.f32.format.order d y == some Ordering.eq)
def isJump (l : List S58) (least : Nat) (i : Nat) : Bool := fk_sub (l.getD i z58).f1 (l.getD (i - 1) z58).f1 && geF (absF (fl_sub (l.getD i z58).f1 (l.getD (i - 1) z58).f1)) least
def jumpsL (l : List S58) (least : Nat) (n : Nat) : List Int := List.map (fun i : Nat => (i : Int)) ((List.range' 1 (n - 1)).filter (isJump l least))
theorem jumpsL_succ (l : List S58) (least : Nat) (n : Nat) (h : 1 ≤ n) : jumpsL l least (n + 1) = jumpsL l least n ++ if isJump l least n = true then [(n : Int)] else [] := by
  unfold jumpsL
  rw [show n + 1 - 1 = (n - 1) + 1 by omega, List.range'_concat, List.filter_append, List.map_append, show 1 + 1 * (n - 1) = n by omega]
  congr 1
  by_cases hj : isJump l least n = true
  · rw [if_pos hj]; simp [hj]
  · rw [if_neg hj]; simp [hj]
theorem jumpsL_len (l : List S58) (least : Nat) (n : Nat) : (jumpsL l least n).length ≤ n := by
  unfold jumpsL
  rw [List.length_map]
  have := List.length_filter_le (isJump l least) (List.range' 1 (n - 1))
  rw [List.length_range'] at this
  omega
theorem rd58 (l : List S58) (i : Nat) : rd_T58 l (i : Int) = l.getD i z58 := rfl
attribute [local go_sem] frun_sub_nan
theorem info3' : (Try.prog.info? 3).map (fun i => (i.zero, i.size, i.bytes)) = some (some (.int .i64 0), 1, 8) := by kernel_rfl
set_option maxHeartbeats 4000000 in

theorem jumps_calls (A : Option Addr) (c0 : Nat) (l : List S58) (least : Nat) (w : World) (hr : Kd.C k58 w A l.length l) (hc : l.length ≤ c0) (hlen : l.length < 8796093022208) (hleast : least < 4294967296) :
    Calls Try.prog 32 #[.slice A l.length c0, .float .f32 least] w fun e w' => ∃ v0_ : Value, e = .returned v0_ ∧ w'.ownsRow w.heap.size 3 1 v0_ (jumpsL l least l.length).length (nums .i64 (jumpsL l least l.length)) ∧ Below w.heap.size w w' := by
  have HR := Aside0.mk hr
  have HL := Aside0.mk hlen
  have HC := Aside0.mk hc
  have HLE := Aside0.mk hleast
  clear hr hlen hleast hc
  go_enter Try.func32, Try.ntmps32
  go_wp2
  go_loopg [5, 6] (l.length + 2) (fun kq v5 v6 w' => ∃ i : Nat, v6 = .int .i64 (i : Int) ∧ Aside0 (1 ≤ i) ∧ Aside0 (kq + i = l.length + 3) ∧ Aside0 (i ≤ l.length ∨ i = 1) ∧ Aside0 (w'.ownsRow w.heap.size 3 1 v5 (jumpsL l least i).length (nums .i64 (jumpsL l least i))) ∧ Aside0 (Below w.heap.size w w'))
  case atStart => exact ⟨1, rfl, ⟨by omega⟩, ⟨by omega⟩, ⟨by omega⟩, ⟨(own_nil w _ 3 1 : w.ownsRow w.heap.size 3 1 (.slice none 0 0) 0 [])⟩, ⟨Below.refl _ _⟩⟩
  case round =>
    obtain ⟨i, rfl, H1, HK, HI, HO, HB⟩ := hrel
    cases gk with
    | zero => exact absurd HK.out (by have := HI.out; omega)
    | succ k1 =>
      by_cases hlt : i < l.length
      · have hb0 : decide ((i : Int) < (l.length : Int)) = true := decide_eq_true (by omega)
        have h1 := H1.out
        obtain ⟨ad, e1, hx0, hx1⟩ := at_T58 HR.out (i : Int) (by omega) (by omega)
        cases e1
        obtain ⟨ad', e1, hy0, hy1⟩ := at_T58 HR.out ((i - 1 : Nat) : Int) (by omega) (by omega)
        cases e1
        rw [Int.toNat_natCast] at hx0 hx1 hy0 hy1
        replace hx1 := (HB.out.cell (World.block_lt_of_cell? w _ hx1)).trans hx1
        replace hy1 := (HB.out.cell (World.block_lt_of_cell? w _ hy1)).trans hy1
        clear hx0 hy0
        obtain ⟨Y, hY⟩ : ∃ Y, (rd_T58 l (i : Int)).f1 = Y := ⟨_, rfl⟩
        obtain ⟨Z, hZ⟩ : ∃ Z, (rd_T58 l ((i - 1 : Nat) : Int)).f1 = Z := ⟨_, rfl⟩
        rw [hY] at hx1
        rw [hZ] at hy1
        have HJ := Aside0.mk (jumpsL_succ l least i h1)
        have hji : isJump l least i = (fk_sub Y Z && geF (absF (fl_sub Y Z)) least) := by
          unfold isJump
          rw [← rd58 l i, ← rd58 l (i - 1), hY, hZ]
        have HJI := Aside0.mk hji
        clear hji hY hZ
        obtain ⟨m, rfl⟩ : ∃ m, i = m + 1 := ⟨i - 1, by omega⟩
        rw [show m + 1 - 1 = m by omega] at hy1
        have hn8 : (l.length : Int) < 8796093022208 := by have := HL.out; omega
        have hi8 : (m : Int) + 1 < (l.length : Int) := by omega
        have q0 : (0 : Int) ≤ (m : Int) + 1 := by omega
        have q1 : (m : Int) < (l.length : Int) := by omega
        have q2 : (0 : Int) ≤ (m : Int) := by omega
        have q3 : IntKind.i64.wrap (m : Int) = (m : Int) := Go.IntWalk.i64_in _ (by omega)
        have q4 : ((m : Int) + 1).toNat = m + 1 := by omega
        have hjl := jumpsL_len l least (m + 1)
        obtain ⟨i0, hi0, hz0, hz1, hz2⟩ := info_parts info3'
        have HI0 := Aside0.mk hi0
        have HZ0 := Aside0.mk hz0
        have HZ1 := Aside0.mk hz1
        have HZ2 := Aside0.mk hz2
        clear hi0 hz0 hz1 hz2
        by_cases hk : fk_sub Y Z = true
        · go_wp2_with fail
          go_quiet (fail)
          rw [hk] at HJI
          generalize fl_sub Y Z = D at HJI ⊢
          clear hx1 hy1 hk
          by_cases hs : (FloatKind.f32.format.order D 0 == some Ordering.lt) = true
          · have ha : absF D = fl_neg D := by unfold absF; rw [if_pos hs]
            rw [ha] at HJI
            by_cases hge : geF (fl_neg D) least = true
            · have HGE := Aside0.mk hge
              replace hge : (FloatKind.f32.format.order (fl_neg D) least == some Ordering.gt || FloatKind.f32.format.order (fl_neg D) least == some Ordering.eq) = true := hge
              clear q0 q1 q2 q3 q4
              go_wp2_with (first | (at_builtin; refine wpList_append_own _ rfl _ _ 66 rfl w.heap.size 3 i0 (.int .i64 0) 1 8 Try.underlying66 HI0.out HZ0.out HZ1.out HZ2.out rfl (by decide) u5 (jumpsL l least (m + 1)).length (nums .i64 (jumpsL l least (m + 1))) rfl (by first | exact HO.out.alloc _ | exact own_drewN (HO.out.alloc _) _ | exact own_drew (HO.out.alloc _)) ⟨wr.heap.size, 0, none⟩ 1 1 [.int .i64 ((m : Int) + 1)] rfl rfl (World.news_of_block (cs := #[.int .i64 ((m : Int) + 1)]) (t := 3) (fr := (0, 0)) (by first | exact heap_alloc_new wr _)) (by simp [Value.oneCell']) (by have := HL.out; unfold maxLen; omega) (by have := HL.out; omega) (by simp; exact Nat.le_succ_of_le HB.out.size) ?_; intro v1 w3 hown3 hgrow3 _))
              go_roundg k1
              case measure => omega
              case rel =>
                have hl3 : jumpsL l least (m + 1 + 1) = jumpsL l least (m + 1) ++ [((m + 1 : Nat) : Int)] := by rw [HJ.out, if_pos (by rw [HJI.out]; simpa using HGE.out)]
                refine ⟨m + 2, by simp; omega, ⟨by omega⟩, ⟨by have := HK.out; omega⟩, ⟨by omega⟩, ⟨by rw [hl3, List.length_append, nums_append]; exact hown3⟩, ⟨(pw_below_drewN (HB.out.alloc HB.out.size _) _).grown hgrow3 (Nat.le_trans HB.out.size (by simp)) (fun k hk => own_base HO.out k hk)⟩⟩
            · replace hge : geF (fl_neg D) least = false := by simpa using hge
              have HGE := Aside0.mk hge
              replace hge : (FloatKind.f32.format.order (fl_neg D) least == some Ordering.gt || FloatKind.f32.format.order (fl_neg D) least == some Ordering.eq) = false := hge
              clear q0 q1 q2 q3 q4
              go_wp2_with fail
              go_roundg k1
              case measure => omega
              case rel =>
                have hl3 : jumpsL l least (m + 1 + 1) = jumpsL l least (m + 1) := by rw [HJ.out, if_neg (by rw [HJI.out]; simp [HGE.out]), List.append_nil]
                refine ⟨m + 2, by simp; omega, ⟨by omega⟩, ⟨by have := HK.out; omega⟩, ⟨by omega⟩, ⟨by rw [hl3]; exact own_drewN HO.out _⟩, ⟨pw_below_drewN HB.out _⟩⟩
          · replace hs : (FloatKind.f32.format.order D 0 == some Ordering.lt) = false := by simpa using hs
            have ha : absF D = D := by unfold absF; rw [if_neg (by rw [hs]; simp)]
            rw [ha] at HJI
            by_cases hge : geF D least = true
            · have HGE := Aside0.mk hge
              replace hge : (FloatKind.f32.format.order D least == some Ordering.gt || FloatKind.f32.format.order D least == some Ordering.eq) = true := hge
              clear q0 q1 q2 q3 q4
              go_wp2_with (first | (at_builtin; refine wpList_append_own _ rfl _ _ 66 rfl w.heap.size 3 i0 (.int .i64 0) 1 8 Try.underlying66 HI0.out HZ0.out HZ1.out HZ2.out rfl (by decide) u5 (jumpsL l least (m + 1)).length (nums .i64 (jumpsL l least (m + 1))) rfl (by first | exact HO.out.alloc _ | exact own_drewN (HO.out.alloc _) _ | exact own_drew (HO.out.alloc _)) ⟨wr.heap.size, 0, none⟩ 1 1 [.int .i64 ((m : Int) + 1)] rfl rfl (World.news_of_block (cs := #[.int .i64 ((m : Int) + 1)]) (t := 3) (fr := (0, 0)) (by first | exact heap_alloc_new wr _)) (by simp [Value.oneCell']) (by have := HL.out; unfold maxLen; omega) (by have := HL.out; omega) (by simp; exact Nat.le_succ_of_le HB.out.size) ?_; intro v1 w3 hown3 hgrow3 _))
              go_roundg k1
              case measure => omega
              case rel =>
                have hl3 : jumpsL l least (m + 1 + 1) = jumpsL l least (m + 1) ++ [((m + 1 : Nat) : Int)] := by rw [HJ.out, if_pos (by rw [HJI.out]; simpa using HGE.out)]
                refine ⟨m + 2, by simp; omega, ⟨by omega⟩, ⟨by have := HK.out; omega⟩, ⟨by omega⟩, ⟨by rw [hl3, List.length_append, nums_append]; exact hown3⟩, ⟨(pw_below_drewN (HB.out.alloc HB.out.size _) _).grown hgrow3 (Nat.le_trans HB.out.size (by simp)) (fun k hk => own_base HO.out k hk)⟩⟩
            · replace hge : geF D least = false := by simpa using hge
              have HGE := Aside0.mk hge
              replace hge : (FloatKind.f32.format.order D least == some Ordering.gt || FloatKind.f32.format.order D least == some Ordering.eq) = false := hge
              clear q0 q1 q2 q3 q4
              go_wp2_with fail
              go_roundg k1
              case measure => omega
              case rel =>
                have hl3 : jumpsL l least (m + 1 + 1) = jumpsL l least (m + 1) := by rw [HJ.out, if_neg (by rw [HJI.out]; simp [HGE.out]), List.append_nil]
                refine ⟨m + 2, by simp; omega, ⟨by omega⟩, ⟨by have := HK.out; omega⟩, ⟨by omega⟩, ⟨by rw [hl3]; exact own_drewN HO.out _⟩, ⟨pw_below_drewN HB.out _⟩⟩
        · replace hk : fk_sub Y Z = false := by simpa using hk
          go_wp2_with fail
          rw [hk] at HJI
          go_still_tail 11, (by kernel_rfl)
          have hw : ({ wr with drawn := wr.drawn + 1 } : World) = wr.drew := rfl
          rw [hw]
          refine Kd.event_run (v := .float .f32 (nanAt wr.drew Y Z)) (w1 := wr.drew.drew) rfl (by go_simp) ?_
          refine Kd.event_run rfl rfl ?_
          apply wpList_nil
          obtain ⟨hD0, hD1⟩ := nanAt_is wr.drew Y Z
          generalize nanAt wr.drew Y Z = D at hD0 hD1 ⊢
          have hs : (FloatKind.f32.format.order D 0 == some Ordering.lt) = false := by
            have : FloatKind.f32.format.order D 0 = none := order_nan D 0 hD0 (by omega) (.inl hD1)
            rw [this]; rfl
          have hge : (FloatKind.f32.format.order D least == some Ordering.gt || FloatKind.f32.format.order D least == some Ordering.eq) = false := by
            have : FloatKind.f32.format.order D least = none := order_nan D least hD0 HLE.out (.inl hD1)
            rw [this]; rfl
          clear hD0 hD1 q0 q1 q2 q3 q4 hk hx1 hy1 hw
          go_simp
          go_wp2_with fail
          go_roundg k1
          case measure => omega
          case rel =>
            have hl3 : jumpsL l least (m + 1 + 1) = jumpsL l least (m + 1) := by rw [HJ.out, if_neg (by rw [HJI.out]; simp), List.append_nil]
            refine ⟨m + 2, by simp; omega, ⟨by omega⟩, ⟨by have := HK.out; omega⟩, ⟨by omega⟩, ⟨by rw [hl3]; exact own_drew (own_drew HO.out)⟩, ⟨pw_below_drewN HB.out 2⟩⟩
      · have hb0 : decide ((i : Int) < (l.length : Int)) = false := decide_eq_false (by omega)
        have hge : jumpsL l least i = jumpsL l least l.length := by
          rcases Nat.lt_or_ge l.length i with h | h
          · have : i = 1 := by have := HI.out; omega
            have : l.length = 0 := by omega
            simp [*, jumpsL]
          · rw [show i = l.length by omega]
        have HO2 := HO.out
        rw [hge] at HO2
        go_wp2
        go_ret
        exact ⟨_, rfl, HO2, HB.out⟩
end Go.Proofs.Ytfhgomcfpmbhnaa.Y
end

section
namespace Go.Proofs.Ytfhgomcfpmbhnaa.F
open Go.RowKit Go.Proofs.Ytfhgomcfpmbhnaa.Y Go.Proofs.Ytfhgomcfpmbhnaa.PS Ieee
open Go.Proofs.YtfhgomcfpmbhnaaW.PrintWords Go.Proofs.YtfhgomcfpmbhnaaW.PrintMore
set_option linter.unusedVariables false
set_option linter.unusedSimpArgs false
theorem fl_neg_is (d : Nat) (h0 : 2147483648 ≤ d) (h1 : d < 4294967296) : fl_neg d = d - 2147483648 := by
  obtain ⟨r, rfl⟩ : ∃ r, d = 2 ^ 31 + r := ⟨d - 2147483648, by omega⟩
  have hr : r < 2 ^ 31 := by omega
  have e : fl_neg (2 ^ 31 + r) = (2 ^ 31 + r) ^^^ 2 ^ 31 := rfl
  rw [e, show 2 ^ 31 + r - 2147483648 = r by omega]
  refine Nat.eq_of_testBit_eq fun j => ?_
  rw [Nat.testBit_xor, Nat.testBit_two_pow]
  rcases Nat.lt_trichotomy j 31 with hj | hj | hj
  · rw [Nat.testBit_two_pow_add_gt hj, decide_eq_false (by omega), Bool.xor_false]
  · subst hj
    rw [Nat.testBit_two_pow_add_eq, decide_eq_true rfl, Nat.testBit_lt_two_pow hr]
    rfl
  · have p : 2 ^ 32 ≤ 2 ^ j := Nat.pow_le_pow_right (by decide) hj
    rw [Nat.testBit_lt_two_pow (by omega), decide_eq_false (by omega), Nat.testBit_lt_two_pow (by omega)]
    rfl
theorem cmp_eq (a b : Int) : (some (compare a b) == some Ordering.eq) = decide (a = b) := by
  rcases Int.lt_trichotomy a b with h | h | h
  · rw [show compare a b = .lt from Int.compare_eq_lt.2 h, decide_eq_false (by omega)]; rfl
  · rw [show compare a b = .eq from Int.compare_eq_eq.2 h, decide_eq_true h]; rfl
  · rw [show compare a b = .gt from Int.compare_eq_gt.2 h, decide_eq_false (by omega)]; rfl
theorem geF_is (x y : Nat) (hx : x < 4294967296) (hy : y < 4294967296) (nx : x % 2147483648 ≤ 2139095040) (ny : y % 2147483648 ≤ 2139095040) : geF x y = decide (ordI y ≤ ordI x) := by
  have e : FloatKind.f32.format.order x y = some (compare (ordI x) (ordI y)) := order_is x y hx hy nx ny
  unfold geF
  rw [e, cmp_gt, cmp_eq, Bool.eq_iff_iff]
  simp only [Bool.or_eq_true, decide_eq_true_eq]
  omega
theorem geF_nan (x y : Nat) (hx : x < 4294967296) (hy : y < 4294967296) (h : 2139095040 < x % 2147483648 ∨ 2139095040 < y % 2147483648) : geF x y = false := by
  have e : FloatKind.f32.format.order x y = none := order_nan x y hx hy h
  unfold geF
  rw [e]; rfl
theorem absF_nan (x : Nat) (hx : x < 4294967296) (h : 2139095040 < x % 2147483648) : absF x = x := by
  have e : FloatKind.f32.format.order x 0 = none := order_nan x 0 hx (by decide) (.inl h)
  unfold absF
  rw [e]; rfl
theorem absF_is (x : Nat) (hx : x < 4294967296) (nx : x % 2147483648 ≤ 2139095040) : absF x < 4294967296 ∧ absF x % 2147483648 = x % 2147483648 ∧ ordI (absF x) = ((x % 2147483648 : Nat) : Int) := by
  have e : FloatKind.f32.format.order x 0 = some (compare (ordI x) (ordI 0)) := order_is x 0 hx (by decide) nx (by decide)
  have o0 : ordI 0 = 0 := by decide
  unfold absF
  rw [e, cmp_lt, o0]
  by_cases h : ordI x < 0
  · have hge : 2147483648 ≤ x := by
      unfold ordI at h
      split at h <;> omega
    rw [if_pos (by simpa using h), fl_neg_is x hge hx]
    unfold ordI
    rw [if_neg (by omega)]
    omega
  · rw [if_neg (by simpa using h)]
    unfold ordI at h ⊢
    split at h
    · rename_i hge
      rw [if_pos hge]
      omega
    · rename_i hge
      rw [if_neg hge]
      omega
theorem chainJ {β : Type} (S : Nat → Option Int) (N1 : Int → Option Bool) (N2 : Option Bool) (J : Nat → Int → Bool → Option β) (d : Int) (a b : Bool) (q : β) (e1 : Ev S d) (h1 : N1 d = some a) (h2 : N2 = some b) (h : Ev (fun k => if a = true then J k d true else J k d b) q) :
    Ev (fun k => (S k).bind fun t => (N1 t).bind fun t3 => N2.bind fun t4 => if t3 = true then J k t true else J k t t4) q := by
  subst h2
  refine Ev.bind (f := fun k t => (N1 t).bind fun t3 => (some b).bind fun t4 => if t3 = true then J k t true else J k t t4) e1 ?_
  rw [h1]
  exact h
theorem j1_step (l : List S38) (least : Nat) (acc : List Int) (i : Int) (d : Nat) (hd : d < 4294967296) (hle : least < 4294967296) (nd : d % 2147483648 ≤ 2139095040) (nl : least % 2147483648 ≤ 2139095040) (hc : acc.length < 17592186044416) (hw : wrap64 (i + 1) = i + 1) (k : Nat) :
    levyref17_Jumps.j1 (k + 1) l (least : Int) acc i (d : Int) false = if geF (absF d) least = true then levyref17_Jumps.l0 k l (least : Int) (acc ++ [i]) (i + 1) else levyref17_Jumps.l0 k l (least : Int) acc (i + 1) := by
  obtain ⟨a1, a2, a3⟩ := absF_is d hd nd
  have hg := geF_is (absF d) least a1 hle (by omega) nl
  rw [a3] at hg
  have hX : ∀ x : Nat, x < 2147483648 → x = d % 2147483648 → levyref17_Less.f (x : Int) (least : Int) = some (!geF (absF d) least) := by
    intro x hx hxd
    rw [less_is x least (by omega) hle, order_is x least (by omega) hle (by omega) nl, cmp_lt, hg]
    have : ordI x = ((d % 2147483648 : Nat) : Int) := by
      unfold ordI
      rw [if_neg (by omega), hxd]
    rw [this]
    refine congrArg some ?_
    rw [Bool.eq_iff_iff]
    simp only [decide_eq_true_eq, Bool.not_eq_true', decide_eq_false_iff_not]
    omega
  rw [levyref17_Jumps.j1, if_neg (by simp), hw]
  generalize geF (absF d) least = b at hX ⊢
  by_cases hge : (d : Int) ≥ 2147483648
  · have e : ((d : Int) - 2147483648) % 4294967296 = ((d - 2147483648 : Nat) : Int) := by omega
    rw [if_pos hge, e, hX (d - 2147483648) (by omega) (by omega)]
    cases b
    · rfl
    · simp only [Option.bind_some, Bool.not_true, if_pos hc]
      rfl
  · rw [if_neg hge, hX d (by omega) (by omega)]
    cases b
    · rfl
    · simp only [Option.bind_some, Bool.not_true, if_pos hc]
      rfl
theorem sub_lt' (x y r : Nat) (h : single.sub x y = some r) : r < 4294967296 := single.sub_lt h
theorem jumps_from {l : List S73} (hg : Good l) (hl : l.length < 8796093022208) (least : Nat) (hle : least < 4294967296) : ∀ (n i : Nat), 1 ≤ i → i + n = l.length →
    Ev (fun k => levyref17_Jumps.l0 k (l.map dB) (least : Int) (jumpsL (l.map dP) least i) (i : Int)) (jumpsL (l.map dP) least l.length) := by
  intro n
  induction n with
  | zero =>
    intro i h1 hn
    obtain rfl : i = l.length := by omega
    refine Ev.step (f := fun _ => some (jumpsL (l.map dP) least l.length)) (fun k => ?_) (Ev.now _)
    rw [levyref17_Jumps.l0, if_neg (by rw [List.length_map]; omega)]
  | succ n ih =>
    intro i h1 hn
    have h := ih (i + 1) (by omega) (by omega)
    have hjs := jumpsL_succ (l.map dP) least i h1
    obtain ⟨hlt, he⟩ := hB_lt hg (i : Int)
    obtain ⟨hlt1, he1⟩ := hB_lt hg ((i : Int) - 1)
    have hw : wrap64 ((i : Int) + 1) = (i : Int) + 1 := by unfold wrap64; omega
    have hw1 : wrap64 ((i : Int) - 1) = (i : Int) - 1 := by unfold wrap64; omega
    have hcast : ((i + 1 : Nat) : Int) = (i : Int) + 1 := by omega
    rw [hcast] at h
    have g0 : ((l.map dP).getD i z58).f1 = hB l (i : Int) := by
      rw [← rd58, rd_P]; rfl
    have g1 : ((l.map dP).getD (i - 1) z58).f1 = hB l ((i : Int) - 1) := by
      rw [← rd58, rd_P, show ((i - 1 : Nat) : Int) = (i : Int) - 1 by omega]; rfl
    have hji : isJump (l.map dP) least i = (fk_sub (hB l (i : Int)) (hB l ((i : Int) - 1)) && geF (absF (fl_sub (hB l (i : Int)) (hB l ((i : Int) - 1)))) least) := by
      unfold isJump
      rw [g0, g1]
    have hlen := jumpsL_len (l.map dP) least i
    have hB1 : (rd_T38 (l.map dB) ((i : Int) - 1)).f1 = (hB l ((i : Int) - 1) : Int) := by rw [rd_B]; exact he1
    have hC1 : (rd_T38 (l.map dB) (i : Int)).f1 = (hB l (i : Int) : Int) := by rw [rd_B]; exact he
    generalize hB l (i : Int) = y at *
    generalize hB l ((i : Int) - 1) = z at *
    generalize jumpsL (l.map dP) least i = acc at *
    refine Ev.step (f := fun k => ((levyref17_Sub.f k (y : Int) (z : Int)).bind fun t202 => ((levyref17_NaN.f t202).bind fun t203 => ((levyref17_NaN.f (least : Int)).bind fun t204 => (if t203 = true then (levyref17_Jumps.j1 k (l.map dB) (least : Int) acc (i : Int) t202 true) else (levyref17_Jumps.j1 k (l.map dB) (least : Int) acc (i : Int) t202 t204)))))) (fun k => by rw [levyref17_Jumps.l0, if_pos (by rw [List.length_map]; omega), if_pos (by omega), hw1, if_pos (by omega), if_pos (by rw [List.length_map]; omega), hB1, hC1]) ?_
    have st : ∀ t : Int, ∀ k, levyref17_Jumps.j1 (k + 1) (l.map dB) (least : Int) acc (i : Int) t true = levyref17_Jumps.l0 k (l.map dB) (least : Int) acc ((i : Int) + 1) := fun t k => by
      rw [levyref17_Jumps.j1, if_pos rfl, hw]
    have hsub := sub_is y z hlt hlt1
    cases hs : single.sub y z with
    | none =>
      rw [hs] at hsub
      have hf : fk_sub y z = false := by unfold fk_sub; rw [hs]; rfl
      rw [hf, Bool.false_and] at hji
      rw [if_neg (by rw [hji]; simp), List.append_nil] at hjs
      rw [hjs] at h
      refine chainJ (fun k => levyref17_Sub.f k (y : Int) (z : Int)) levyref17_NaN.f _ (fun k t b => levyref17_Jumps.j1 k (l.map dB) (least : Int) acc (i : Int) t b) _ true _ _ hsub (nan_is 2143289344) (nan_is least) ?_
      exact Ev.congr (fun k => if_pos rfl) (Ev.step (st _) h)
    | some d =>
      rw [hs] at hsub
      have hd := sub_lt' y z d hs
      obtain ⟨f1, f2⟩ := fk_of.2.1 hs
      rw [f1, f2, Bool.true_and] at hji
      refine chainJ (fun k => levyref17_Sub.f k (y : Int) (z : Int)) levyref17_NaN.f _ (fun k t b => levyref17_Jumps.j1 k (l.map dB) (least : Int) acc (i : Int) t b) (d : Int) _ _ _ hsub (nan_is d) (nan_is least) ?_
      by_cases n1 : 2139095040 < d % 2147483648
      · rw [absF_nan d hd n1, geF_nan d least hd hle (.inl n1)] at hji
        rw [if_neg (by rw [hji]; simp), List.append_nil] at hjs
        rw [hjs] at h
        rw [decide_eq_true n1]
        exact Ev.congr (fun k => if_pos rfl) (Ev.step (st _) h)
      · rw [decide_eq_false n1]
        refine Ev.congr (f := fun k => levyref17_Jumps.j1 k (l.map dB) (least : Int) acc (i : Int) (d : Int) (decide (2139095040 < least % 2147483648))) (fun k => if_neg (by simp)) ?_
        obtain ⟨a1, a2, a3⟩ := absF_is d hd (by omega)
        by_cases n2 : 2139095040 < least % 2147483648
        · rw [geF_nan (absF d) least a1 hle (.inr n2)] at hji
          rw [if_neg (by rw [hji]; simp), List.append_nil] at hjs
          rw [hjs] at h
          rw [decide_eq_true n2]
          exact Ev.step (st _) h
        · rw [decide_eq_false n2]
          refine Ev.step (j1_step (l.map dB) least acc (i : Int) d hd hle (by omega) (by omega) (by omega) hw) ?_
          rw [hji] at hjs
          by_cases hj : geF (absF d) least = true
          · rw [if_pos hj] at hjs
            rw [hjs] at h
            exact Ev.congr (fun k => if_pos hj) h
          · rw [if_neg hj, List.append_nil] at hjs
            rw [hjs] at h
            exact Ev.congr (fun k => if_neg hj) h
theorem jumps_is {l : List S73} (hg : Good l) (hl : l.length < 8796093022208) (least : Nat) (hle : least < 4294967296) : Ev (fun k => levyref17_Jumps.f k (l.map dB) (least : Int)) (jumpsL (l.map dP) least l.length) := by
  by_cases h0 : l.length = 0
  · obtain rfl : l = [] := List.eq_nil_of_length_eq_zero h0
    refine Ev.step (f := fun _ => some (jumpsL (List.map dP []) least ([] : List S73).length)) (fun k => ?_) (Ev.now _)
    unfold levyref17_Jumps.f
    rw [levyref17_Jumps.l0, if_neg (by simp)]
    rfl
  · exact jumps_from hg hl least hle (l.length - 1) 1 (by omega) (by omega)
end Go.Proofs.Ytfhgomcfpmbhnaa.F
end

section
namespace Go.Proofs.Ytfhgomcfpmbhnaa.F
open Go.RowKit Go.Proofs.Ytfhgomcfpmbhnaa.Y Go.Proofs.Ytfhgomcfpmbhnaa.PS Ieee
open Go.Proofs.YtfhgomcfpmbhnaaW.PrintWords Go.Proofs.YtfhgomcfpmbhnaaW.PrintMore
set_option linter.unusedVariables false
set_option linter.unusedSimpArgs false
theorem wrap_id (x : Int) (h0 : -4611686018427387904 ≤ x) (h1 : x ≤ 4611686018427387904) : wrap64 x = x := by unfold wrap64; omega
theorem inf_add (x y : Nat) (hx : x < 4294967296) (hy : y < 4294967296) (fx : x % 2147483648 = 2139095040) (fy : y % 2147483648 < 2139095040) : single.add x y = some x := by
  unfold Format.add
  rw [read_inf x hx fx, read_fin y hy fy]
  have hsum : (Datum.infinity (sX x)).sum (Datum.number (sX y) (mX y) (eX y)) = some (Datum.infinity (sX x)) := rfl
  rw [hsum]
  have hw : (some (Datum.infinity (sX x))).map single.write = some (single.word (sX x) single.infRung) := rfl
  rw [hw, k3, inf_word x hx fx]
theorem add_num (x y : Nat) (hx : isNum x) (hy : y < 4294967296) (fy : y % 2147483648 < 2139095040) : ∃ r, single.add x y = some r ∧ isNum r := by
  by_cases fx : x % 2147483648 < 2139095040
  · exact add_fin x y hx.1 hy fx fy
  · exact ⟨x, inf_add x y hx.1 hy (by have := hx.2; omega) fy, hx⟩
def AllFin (t : List S58) : Prop := ∀ q ∈ t, q.f1 < 4294967296 ∧ q.f1 % 2147483648 < 2139095040
theorem sumOk_of : ∀ (t : List S58) (s : Nat), isNum s → AllFin t → SumOk s t ∧ isNum (sumF s t)
  | [], s, hs, _ => ⟨trivial, hs⟩
  | q :: t, s, hs, ht => by
    obtain ⟨h0, h1⟩ := ht q List.mem_cons_self
    obtain ⟨r, hr, nr⟩ := add_num s q.f1 hs h0 h1
    obtain ⟨k1, k2⟩ := fk_of.1 hr
    have ih := sumOk_of t r nr (fun p hp => ht p (List.mem_cons_of_mem _ hp))
    refine ⟨⟨k1, ?_⟩, ?_⟩
    · rw [k2]; exact ih.1
    · show isNum (sumF (fl_add s q.f1) t)
      rw [k2]; exact ih.2
theorem allFin_near {l : List S58} (h : AllFin l) (a b : Nat) : AllFin (nearL l a b) := fun q hq => h q (List.mem_of_mem_take (List.mem_of_mem_drop hq))
theorem allFin_P {l : List S73} (hg : Good l) (ho : InOrd l l.length) : AllFin (l.map dP) := by
  intro q hq
  obtain ⟨j, hj, rfl⟩ := List.mem_iff_getElem.1 hq
  rw [List.length_map] at hj
  obtain ⟨f0, _⟩ := ho (j : Int) (by omega) (by omega)
  obtain ⟨hlt, _⟩ := hB_lt hg (j : Int)
  have e : ((l.map dP)[j]'(by rw [List.length_map]; exact hj)).f1 = hB l (j : Int) := by
    rw [List.getElem_map]
    unfold hB rd_T73
    rw [List.getD_eq_getElem?_getD, Int.toNat_natCast, List.getElem?_eq_getElem hj]
    rfl
  rw [e]
  exact ⟨hlt, f0⟩
def sumC (N : List S58) (c : Nat) : Nat := sumF (N.getD 0 z58).f1 ((N.drop 1).take (c - 1))
theorem sumC_one (N : List S58) : sumC N 1 = (N.getD 0 z58).f1 := by
  unfold sumC
  rfl
theorem sumC_num {N : List S58} (h : AllFin N) (hn : 0 < N.length) (c : Nat) : isNum (sumC N c) := by
  unfold sumC
  have h0 := h (N.getD 0 z58) (by rw [List.getD_eq_getElem?_getD, List.getElem?_eq_getElem hn]; exact List.getElem_mem _)
  exact (sumOk_of _ _ ⟨h0.1, by omega⟩ (fun q hq => h q (List.mem_of_mem_drop (List.mem_of_mem_take hq)))).2
theorem sumC_succ {N : List S58} (h : AllFin N) (c : Nat) (h1 : 1 ≤ c) (hc : c < N.length) : ∃ r, single.add (sumC N c) (N.getD c z58).f1 = some r ∧ sumC N (c + 1) = r := by
  have hq := h (N.getD c z58) (by rw [List.getD_eq_getElem?_getD, List.getElem?_eq_getElem hc]; exact List.getElem_mem _)
  obtain ⟨r, hr, _⟩ := add_num (sumC N c) _ (sumC_num h (by omega) c) hq.1 hq.2
  refine ⟨r, hr, ?_⟩
  have hd : c - 1 < (N.drop 1).length := by rw [List.length_drop]; omega
  have e : ((N.drop 1).getD (c - 1) z58) = N.getD c z58 := by
    rw [List.getD_eq_getElem?_getD, List.getD_eq_getElem?_getD, List.getElem?_drop, show 1 + (c - 1) = c by omega]
  have := sumF_succ (N.drop 1) (N.getD 0 z58).f1 (c - 1) hd
  rw [e, show c - 1 + 1 = c by omega] at this
  show sumF (N.getD 0 z58).f1 ((N.drop 1).take (c + 1 - 1)) = r
  rw [show c + 1 - 1 = c by omega, this]
  exact (fk_of.1 hr).2
theorem near_at (l : List S58) (h i c : Nat) (hi : i < l.length) (hc : c < (nearL l h i).length) : (nearL l h i).getD c z58 = l.getD (i - h + c) z58 := by
  have hl := (nearL_len l h i hi).1
  unfold nearL
  rw [List.getD_eq_getElem?_getD, List.getD_eq_getElem?_getD, List.getElem?_drop, List.getElem?_take, if_pos (by omega)]
section
variable {l : List S73} (hg : Good l) (hl : l.length < 8796093022208) (ho : InOrd l l.length) (h : Nat) (hh : h ≤ 7)
theorem chainA {β : Type} (A : Nat → Option Int) (Rest : Nat → Int → Option β) (r : Int) (q : β) (e1 : Ev A r) (e2 : Ev (fun k => Rest k r) q) : Ev (fun k => (A k).bind fun t => Rest k t) q := Ev.bind (f := fun k t => Rest k t) e1 e2
include hg hl ho hh
theorem ref_tail (i : Nat) (hi : i < l.length) (x7 : List S38) (q : List S38 × Int)
    (hend : Ev (fun k => levyref17_Smooth.l1 k (l.map dB) x7 (h : Int) (i : Int) ((nearL (l.map dP) h i).length : Int) (sumC (nearL (l.map dP) h i) (nearL (l.map dP) h i).length : Int) ((i : Int) + (h : Int) + 1)) q) :
    ∀ (n j c : Nat), i - h < j → j + n = i + h + 1 → c = min j l.length - (i - h) →
    Ev (fun k => levyref17_Smooth.l1 k (l.map dB) x7 (h : Int) (i : Int) (c : Int) (sumC (nearL (l.map dP) h i) c : Int) (j : Int)) q := by
  have hN := nearL_len (l.map dP) h i (by rw [List.length_map]; exact hi)
  rw [List.length_map] at hN
  intro n
  induction n with
  | zero =>
    intro j c hj hn hc
    have : c = (nearL (l.map dP) h i).length := by omega
    rw [this, show (j : Int) = (i : Int) + (h : Int) + 1 by omega]
    exact hend
  | succ n ih =>
    intro j c hj hn hc
    have w0 : Aside0 (wrap64 ((i : Int) + (h : Int)) = (i : Int) + h) := ⟨wrap_id _ (by omega) (by omega)⟩
    have w1 : Aside0 (wrap64 ((j : Int) + 1) = ((j + 1 : Nat) : Int)) := ⟨(wrap_id _ (by omega) (by omega)).trans (by omega)⟩
    have s1 : ∀ k, levyref17_Smooth.l1 (k + 1) (l.map dB) x7 (h : Int) (i : Int) (c : Int) (sumC (nearL (l.map dP) h i) c : Int) (j : Int) = levyref17_Smooth.j3 k (l.map dB) x7 (h : Int) (i : Int) (c : Int) (sumC (nearL (l.map dP) h i) c : Int) (j : Int) (decide ((j : Int) ≥ (l.length : Int))) := by
      intro k
      rw [levyref17_Smooth.l1, w0.out, if_pos (by omega), if_neg (by omega), List.length_map]
    refine Ev.step s1 ?_
    by_cases hlt : j < l.length
    · rw [decide_eq_false (by omega)]
      have hcN : c < (nearL (l.map dP) h i).length := by omega
      obtain ⟨r, hr, hs⟩ := sumC_succ (allFin_near (allFin_P hg ho) h i) c (by omega) hcN
      have hnum := sumC_num (allFin_near (allFin_P hg ho) h i) hN.2 c
      have hy : ((nearL (l.map dP) h i).getD c z58).f1 = hB l (j : Int) := by
        rw [near_at _ _ _ _ (by rw [List.length_map]; exact hi) hcN, show i - h + c = j by omega, ← rd58, rd_P]
        rfl
      rw [hy] at hr
      obtain ⟨hlty, he⟩ := hB_lt hg (j : Int)
      have hB1 : (rd_T38 (l.map dB) (j : Int)).f1 = (hB l (j : Int) : Int) := by rw [rd_B]; exact he
      have w2 : Aside0 (wrap64 ((c : Int) + 1) = ((c + 1 : Nat) : Int)) := ⟨(wrap_id _ (by omega) (by omega)).trans (by omega)⟩
      have hI := ih (j + 1) (c + 1) (by omega) (by omega) (by omega)
      rw [hs] at hI
      refine Ev.step (f := fun k => (levyref17_Add.f k (sumC (nearL (l.map dP) h i) c : Int) (hB l (j : Int) : Int)).bind fun t195 => levyref17_Smooth.l1 k (l.map dB) x7 (h : Int) (i : Int) ((c + 1 : Nat) : Int) t195 ((j + 1 : Nat) : Int)) (fun k => ?_) ?_
      · rw [levyref17_Smooth.j3, if_neg (by simp), if_neg (by omega), if_pos (by omega), if_pos (by rw [List.length_map]; omega), hB1, w1.out, w2.out]
      · exact chainA (fun k => levyref17_Add.f k (sumC (nearL (l.map dP) h i) c : Int) (hB l (j : Int) : Int)) (fun k t => levyref17_Smooth.l1 k (l.map dB) x7 (h : Int) (i : Int) ((c + 1 : Nat) : Int) t ((j + 1 : Nat) : Int)) (r : Int) q (add_ev hnum.1 hlty hr) hI
    · rw [decide_eq_true (by omega)]
      have hI := ih (j + 1) c (by omega) (by omega) (by omega)
      refine Ev.step (fun k => ?_) hI
      rw [levyref17_Smooth.j3, if_pos rfl, w1.out]
theorem ref_head (i : Nat) (hi : i < l.length) (x7 : List S38) (q : List S38 × Int)
    (hend : Ev (fun k => levyref17_Smooth.l1 k (l.map dB) x7 (h : Int) (i : Int) ((nearL (l.map dP) h i).length : Int) (sumC (nearL (l.map dP) h i) (nearL (l.map dP) h i).length : Int) ((i : Int) + (h : Int) + 1)) q) :
    ∀ (n : Nat) (j : Int), (i : Int) - h ≤ j → j + n = ((i - h : Nat) : Int) → Ev (fun k => levyref17_Smooth.l1 k (l.map dB) x7 (h : Int) (i : Int) 0 0 j) q := by
  have hN := nearL_len (l.map dP) h i (by rw [List.length_map]; exact hi)
  rw [List.length_map] at hN
  intro n
  induction n with
  | zero =>
    intro j hj hn
    obtain rfl : j = ((i - h : Nat) : Int) := by omega
    have w0 : Aside0 (wrap64 ((i : Int) + (h : Int)) = (i : Int) + h) := ⟨wrap_id _ (by omega) (by omega)⟩
    have w1 : Aside0 (wrap64 (((i - h : Nat) : Int) + 1) = ((i - h + 1 : Nat) : Int)) := ⟨(wrap_id _ (by omega) (by omega)).trans (by omega)⟩
    have w3 : Aside0 (wrap64 (0 + 1) = ((1 : Nat) : Int)) := ⟨by unfold wrap64; omega⟩
    have hI := ref_tail hg hl ho h hh i hi x7 q hend (i + h + 1 - (i - h + 1)) (i - h + 1) 1 (by omega) (by omega) (by omega)
    rw [sumC_one] at hI
    have hy : ((nearL (l.map dP) h i).getD 0 z58).f1 = hB l ((i - h : Nat) : Int) := by
      rw [near_at _ _ _ _ (by rw [List.length_map]; exact hi) hN.2, Nat.add_zero, ← rd58, rd_P]
      rfl
    rw [hy] at hI
    obtain ⟨hlty, he⟩ := hB_lt hg ((i - h : Nat) : Int)
    have hB1 : (rd_T38 (l.map dB) ((i - h : Nat) : Int)).f1 = (hB l ((i - h : Nat) : Int) : Int) := by rw [rd_B]; exact he
    refine Ev.step (f := fun k => levyref17_Smooth.j3 k (l.map dB) x7 (h : Int) (i : Int) 0 0 ((i - h : Nat) : Int) false) (fun k => ?_) (Ev.step (fun k => ?_) hI)
    · rw [levyref17_Smooth.l1, w0.out, if_pos (by omega), if_neg (by omega), List.length_map, decide_eq_false (by omega)]
    · rw [levyref17_Smooth.j3, if_neg (by simp), if_pos rfl, if_pos (by omega), if_pos (by rw [List.length_map]; omega), hB1, w1.out, w3.out]
  | succ n ih =>
    intro j hj hn
    have w0 : Aside0 (wrap64 ((i : Int) + (h : Int)) = (i : Int) + h) := ⟨wrap_id _ (by omega) (by omega)⟩
    have w1 : Aside0 (wrap64 (j + 1) = j + 1) := ⟨wrap_id _ (by omega) (by omega)⟩
    refine Ev.step (f := fun k => levyref17_Smooth.j3 k (l.map dB) x7 (h : Int) (i : Int) 0 0 j true) (fun k => ?_) (Ev.step (fun k => ?_) (ih (j + 1) (by omega) (by omega)))
    · rw [levyref17_Smooth.l1, w0.out, if_pos (by omega), if_pos (by omega)]
    · rw [levyref17_Smooth.j3, if_pos rfl, w1.out]
theorem smooth_okk : SmoothOk (l.map dP) h := by
  intro i hi
  have hN := nearL_len (l.map dP) h i hi
  rw [List.length_map] at hi
  have hf := allFin_near (allFin_P hg ho) h i
  have h0 := hf ((nearL (l.map dP) h i).getD 0 z58) (by rw [List.getD_eq_getElem?_getD, List.getElem?_eq_getElem hN.2]; exact List.getElem_mem _)
  obtain ⟨s1, s2⟩ := sumOk_of ((nearL (l.map dP) h i).drop 1) _ ⟨h0.1, by omega⟩ (fun q hq => hf q (List.mem_of_mem_drop hq))
  refine ⟨s1, ?_⟩
  have hlen : (nearL (l.map dP) h i).length ≤ 15 := by rw [List.length_map] at hN; omega
  obtain ⟨a, r, g1, g2, g3, g4, g5, g6⟩ := over_whole (sumN (l.map dP) h i) ((nearL (l.map dP) h i).length : Int) s2 (by omega) (by omega) (by omega)
  have : a = fl_of ((nearL (l.map dP) h i).length : Int) := (Option.some.inj g1).symm
  rw [← this]
  exact g3
def meanD (l : List S73) (h n : Nat) : List S73 := List.map (fun i : Nat => (⟨(rd_T73 l (i : Int)).f0, ((fl_quo (sumN (l.map dP) h i) (fl_of ((nearL (l.map dP) h i).length : Int)) : Nat) : Int)⟩ : S73)) (List.range n)
omit hg hl ho hh in
theorem meanD_succ (l : List S73) (h n : Nat) : meanD l h (n + 1) = meanD l h n ++ [(⟨(rd_T73 l (n : Int)).f0, ((fl_quo (sumN (l.map dP) h n) (fl_of ((nearL (l.map dP) h n).length : Int)) : Nat) : Int)⟩ : S73)] := by
  unfold meanD
  rw [List.range_succ, List.map_append]
  rfl
omit hg hl ho hh in
theorem meanD_P (l : List S73) (h n : Nat) : (meanD l h n).map dP = smoothL (l.map dP) h n := by
  unfold meanD smoothL
  rw [List.map_map]
  refine List.map_congr_left fun i _ => ?_
  show (⟨(rd_T73 l (i : Int)).f0, _⟩ : S58) = ⟨((l.map dP).getD i z58).f0, _⟩
  rw [← rd58, rd_P]
  rfl
theorem ref_from : ∀ (n i : Nat), i + n = l.length → AllNum (meanD l h i) → AllNum (meanD l h l.length) ∧ Ev (fun k => levyref17_Smooth.l0 k (l.map dB) ((meanD l h i).map dB) (h : Int) (i : Int)) ((meanD l h l.length).map dB, 0) := by
  intro n
  induction n with
  | zero =>
    intro i hn ha
    obtain rfl : i = l.length := by omega
    refine ⟨ha, Ev.step (f := fun _ => some ((meanD l h l.length).map dB, 0)) (fun k => ?_) (Ev.now _)⟩
    rw [levyref17_Smooth.l0, if_neg (by rw [List.length_map]; omega)]
  | succ n ih =>
    intro i hn ha
    have hi : i < l.length := by omega
    have hN := nearL_len (l.map dP) h i (by rw [List.length_map]; exact hi)
    rw [List.length_map] at hN
    have hlen : (nearL (l.map dP) h i).length ≤ 15 := by omega
    have hf := allFin_near (allFin_P hg ho) h i
    have hsc : sumC (nearL (l.map dP) h i) (nearL (l.map dP) h i).length = sumN (l.map dP) h i := by
      unfold sumC sumN
      rw [List.take_of_length_le (by rw [List.length_drop]; omega)]
    have hnum := sumC_num hf hN.2 (nearL (l.map dP) h i).length
    rw [hsc] at hnum
    obtain ⟨a, r, g1, g2, g3, g4, g5, g6⟩ := over_whole (sumN (l.map dP) h i) ((nearL (l.map dP) h i).length : Int) hnum (by omega) (by omega) (by omega)
    have haf : a = fl_of ((nearL (l.map dP) h i).length : Int) := (Option.some.inj g1).symm
    have hms := meanD_succ l h i
    rw [← haf, g4] at hms
    have ha2 : AllNum (meanD l h (i + 1)) := by rw [hms]; exact ha.snoc _ _ g6
    obtain ⟨r1, r2⟩ := ih (i + 1) (by omega) ha2
    refine ⟨r1, ?_⟩
    rw [hms, snocB] at r2
    have wi : Aside0 (wrap64 ((i : Int) - (h : Int)) = (i : Int) - h) := ⟨wrap_id _ (by omega) (by omega)⟩
    have w1 : Aside0 (wrap64 ((i : Int) + 1) = ((i + 1 : Nat) : Int)) := ⟨(wrap_id _ (by omega) (by omega)).trans (by omega)⟩
    have w0 : Aside0 (wrap64 ((i : Int) + (h : Int)) = (i : Int) + h) := ⟨wrap_id _ (by omega) (by omega)⟩
    have hml : (((meanD l h i).map dB).length < 8796093022208) = True := eq_true (by rw [List.length_map]; unfold meanD; rw [List.length_map, List.length_range]; omega)
    refine Ev.step (f := fun k => levyref17_Smooth.l1 k (l.map dB) ((meanD l h i).map dB) (h : Int) (i : Int) 0 0 ((i : Int) - h)) (fun k => by rw [levyref17_Smooth.l0, if_pos (by rw [List.length_map]; omega), wi.out]) ?_
    refine ref_head hg hl ho h hh i hi _ _ ?_ ((i - h : Nat) - ((i : Int) - h)).toNat _ (by omega) (by omega)
    rw [hsc]
    refine Ev.step (f := fun k => (levyref17_Whole.f ((nearL (l.map dP) h i).length : Int)).bind fun t187 => (levyref17_Div.f k (sumN (l.map dP) h i : Int) t187).bind fun t188 => levyref17_Smooth.l0 k (l.map dB) ((meanD l h i).map dB ++ [(⟨(rd_T73 l (i : Int)).f0, t188⟩ : S38)]) (h : Int) ((i + 1 : Nat) : Int)) (fun k => ?_) ?_
    · have hp1 : (0 ≤ (i : Int)) = True := eq_true (by omega)
      have hp2 : ((i : Int) < ((l.map dB).length : Int)) = True := eq_true (by rw [List.length_map]; omega)
      rw [levyref17_Smooth.l1, w0.out, if_neg (by omega), rd_B]
      simp only [hml, hp1, hp2, if_true, w1.out]
      rfl
    · exact chain1 (levyref17_Whole.f ((nearL (l.map dP) h i).length : Int)) (fun k t => levyref17_Div.f k (sumN (l.map dP) h i : Int) t) (fun k t188 => levyref17_Smooth.l0 k (l.map dB) ((meanD l h i).map dB ++ [(⟨(rd_T73 l (i : Int)).f0, t188⟩ : S38)]) (h : Int) ((i + 1 : Nat) : Int)) (a : Int) (r : Int) _ g2 g5 r2
end
theorem ref_bad (l : List S38) (a1 : Int) (h : a1 < 1 ∨ 15 < a1 ∨ (1 ≤ a1 ∧ a1 ≤ 15 ∧ a1 % 2 = 0)) : Ev (fun k => levyref17_Smooth.f k l a1) ([], 173) := by
  have e : ∀ k, levyref17_Smooth.f k l a1 = levyref17_Smooth.j0 k l a1 true := by
    intro k
    unfold levyref17_Smooth.f
    by_cases h1 : a1 < 1
    · rw [if_pos h1]
    · rw [if_neg h1]
      by_cases h2 : a1 > 15
      · rw [if_pos h2]
      · rw [if_neg h2, Int.tmod_eq_emod_of_nonneg (by omega), show a1 % 2 = 0 by omega]
        rfl
  refine Ev.congr e (Ev.step (f := fun _ => some ([], 173)) (fun k => ?_) (Ev.now _))
  rw [levyref17_Smooth.j0, if_pos rfl]
theorem ref_good {l : List S73} (a1 : Int) (h1 : 1 ≤ a1) (h15 : a1 ≤ 15) (hodd : a1 % 2 = 1) (b : Bool) (q : List S38 × Int) (ho : Ev (fun k => levyref17_Ordered.f k (l.map dB)) b)
    (h : Ev (fun k => if b = true then levyref17_Smooth.l0 k (l.map dB) [] (a1 / 2) 0 else some ([], 172)) q) : Ev (fun k => levyref17_Smooth.f k (l.map dB) a1) q := by
  have e : ∀ k, levyref17_Smooth.f k (l.map dB) a1 = levyref17_Smooth.j0 k (l.map dB) a1 false := by
    intro k
    unfold levyref17_Smooth.f
    rw [if_neg (by omega), if_neg (by omega), Int.tmod_eq_emod_of_nonneg (by omega), hodd]
    rfl
  have w : wrap64 (Int.tdiv (wrap64 (a1 - 1)) 2) = a1 / 2 := by
    have : wrap64 (a1 - 1) = a1 - 1 := by unfold wrap64; omega
    rw [this, Int.tdiv_eq_ediv_of_nonneg (by omega)]
    unfold wrap64
    omega
  refine Ev.congr e (Ev.step (f := fun k => (levyref17_Ordered.f k (l.map dB)).bind fun t186 => if t186 = true then levyref17_Smooth.l0 k (l.map dB) [] (a1 / 2) 0 else some ([], 172)) (fun k => ?_) ?_)
  · rw [levyref17_Smooth.j0, if_neg (by simp), w]
  · exact Ev.bind (f := fun k t186 => if t186 = true then levyref17_Smooth.l0 k (l.map dB) [] (a1 / 2) 0 else some ([], 172)) ho h
end Go.Proofs.Ytfhgomcfpmbhnaa.F
end

section
namespace Go.Proofs.Ytfhgomcfpmbhnaa.Y
open Go.RowKit Go.Proofs.Ytfhgomcfpmbhnaa.PS Go.Proofs.Ytfhgomcfpmbhnaa.F Go.Proofs.YtfhgomcfpmbhnaaW.PrintWords Go.Proofs.YtfhgomcfpmbhnaaW.PrintMore
attribute [local go_sem] frun_bits frun_from
set_option linter.unusedVariables false
set_option maxRecDepth 100000
theorem C_own58 {w : World} {base n : Nat} {v : Value} {xs : List S58} (hn : xs.length = n) (h : w.ownsRow base 58 2 v n (pntv xs)) : ∃ A c, v = .slice A n c ∧ n ≤ c ∧ Kd.C k58 w A n xs := by
  rcases h.2 with ⟨rfl, rfl⟩ | ⟨g, cap, cur, rfl, _, _, h1, h2, _⟩
  · obtain rfl : xs = [] := List.eq_nil_of_length_eq_zero hn
    exact ⟨none, 0, rfl, Nat.le_refl _, Kd.C_nil k58 w⟩
  · refine ⟨some ⟨g, 0, none⟩, cap, rfl, h1, C_pnt hn.symm (by unfold maxLen at h2; omega) (fun j u hu => ?_)⟩
    have := h.cells (g := g) rfl j u hu
    rwa [add_plain] at this
theorem C_ownI {w : World} {base n : Nat} {v : Value} {xs : List Int} (hn : xs.length = n) (h : w.ownsRow base 3 1 v n (nums .i64 xs)) : ∃ A c, v = .slice A n c ∧ n ≤ c ∧ Kd.C (Kd.int .i64) w A n xs := by
  rcases h.2 with ⟨rfl, rfl⟩ | ⟨g, cap, cur, rfl, _, _, h1, h2, _⟩
  · obtain rfl : xs = [] := List.eq_nil_of_length_eq_zero hn
    exact ⟨none, 0, rfl, Nat.le_refl _, Kd.C_nil _ w⟩
  · refine ⟨some ⟨g, 0, none⟩, cap, rfl, h1, hn, by unfold maxLen at h2; omega, fun _ => ⟨_, rfl, fun j p hj => ⟨[.int .i64 p], rfl, rfl, fun i u hu => ?_⟩⟩⟩
    have e : (nums .i64 xs)[j]? = some (.int .i64 p) := by unfold nums; rw [List.getElem?_map, hj]; rfl
    have := h.cells (g := g) rfl j _ e
    match i, hu with
    | 0, hu =>
      obtain rfl : Value.int .i64 p = u := by simpa using hu
      rw [show j * (Kd.int .i64).sz + 0 = j by show j * 1 + 0 = j; omega]
      exact this
    | i + 1, hu => simp at hu
def GivesOne {α : Type} (d : Kd α) (n : Nat) (xs : List α) (w : World) (e : Ending) (w' : World) : Prop := ∃ A c, e = .returned (.slice A n c) ∧ n ≤ c ∧ d.C w' A n xs ∧ Below w.heap.size w w'
def GivesTwo {α : Type} (d : Kd α) (n : Nat) (xs : List α) (r : Int) (w : World) (e : Ending) (w' : World) : Prop := ∃ A c, e = .returned (.tuple #[.slice A n c, .int .i64 r]) ∧ n ≤ c ∧ d.C w' A n xs ∧ Below w.heap.size w w'
theorem bits_c (A : Option Addr) (c n : Nat) (l : List S73) (w : World) (hn : l.length = n) (hr : Kd.C k73 w A n l) (hc : n ≤ c) (hl : n < 8796093022208) : Calls Try.prog 38 #[.slice A n c] w (GivesOne k38 n (l.map dB) w) := by
  subst hn
  obtain ⟨k, hk⟩ := (F.bits_is l hl).rounds
  refine (levylaw17_bits.calls k A c l _ w hr hc hk).mono ?_
  rintro e w' ⟨v, rfl, hR, hb⟩
  obtain ⟨A', c', rfl, h1, h2⟩ := Kd.R_reads hR
  rw [List.length_map] at h1 h2 ⊢
  exact ⟨A', c', rfl, h1, h2, hb⟩
theorem same_c (A A1 : Option Addr) (c c1 n : Nat) (m : List S73) (w : World) (hn : m.length = n) (ha : AllNum m) (hl : n < 8796093022208) (hr : Kd.C k58 w A n (m.map dP)) (hc : n ≤ c) (hr1 : Kd.C k38 w A1 n (m.map dB)) (hc1 : n ≤ c1) :
    Calls Try.prog 15 #[.slice A n c, .slice A1 n c1] w fun e w' => e = .returned (.bool true) ∧ Drawn0 w w' := by
  obtain ⟨k, hk⟩ := (F.same_is' m ha (by omega)).rounds
  have h1 : (m.map dP).length = n := by rw [List.length_map, hn]
  have h2 : (m.map dB).length = n := by rw [List.length_map, hn]
  have h := levylaw17_sameDots.calls k A c (m.map dP) A1 c1 (m.map dB) true w (by rw [h1]; exact hr) (by rw [h1]; exact hc) (by rw [h2]; exact hr1) (by rw [h2]; exact hc1) hk
  rw [h1, h2] at h
  exact h
theorem rate_c (g c n m : Nat) (l res : List S73) (w : World) (hn : l.length = n) (hm : res.length = m) (hin : InRow w g (l.map dP)) (hc : n ≤ c) (hl : n < 8796093022208) (he : Ev (fun k => curve_Rate.f k (l.map dP)) (res.map dP)) : Calls Try.prog 30 #[.slice (some ⟨g, 0, none⟩) n c] w (GivesOne k58 m (res.map dP) w) := by
  obtain ⟨k, hk⟩ := he.rounds
  have h1 : (l.map dP).length = n := by rw [List.length_map, hn]
  have h := curve_Rate.calls k (some ⟨g, 0, none⟩) c (l.map dP) _ w (hin.C (by rw [h1]; omega)) (by rw [h1]; exact hc) hk
  rw [h1] at h
  refine h.mono ?_
  rintro e w' ⟨v, rfl, hR, hb⟩
  obtain ⟨A', c', rfl, h1, h2⟩ := Kd.R_reads hR
  rw [List.length_map, hm] at h1 h2 ⊢
  exact ⟨A', c', rfl, h1, h2, hb⟩
theorem slope_c (g c n m : Nat) (l res : List S73) (r : Int) (w : World) (hn : l.length = n) (hm : res.length = m) (hin : InRow w g (l.map dP)) (hc : n ≤ c) (hl : n < 8796093022208) (he : Ev (fun k => curve_Slope.f k (l.map dP)) (res.map dP, r)) : Calls Try.prog 29 #[.slice (some ⟨g, 0, none⟩) n c] w (GivesTwo k58 m (res.map dP) r w) := by
  obtain ⟨k, hk⟩ := he.rounds
  have h1 : (l.map dP).length = n := by rw [List.length_map, hn]
  have h := curve_Slope.calls k (some ⟨g, 0, none⟩) c (l.map dP) _ _ w (hin.C (by rw [h1]; omega)) (by rw [h1]; exact hc) hk
  rw [h1] at h
  refine h.mono ?_
  rintro e w' ⟨v, rfl, hR, hb⟩
  obtain ⟨A', c', rfl, h1, h2⟩ := Kd.R_reads hR
  rw [List.length_map, hm] at h1 h2 ⊢
  exact ⟨A', c', rfl, h1, h2, hb⟩
theorem rateB_c (A : Option Addr) (c n m : Nat) (l res : List S73) (w : World) (hn : l.length = n) (hm : res.length = m) (hr : Kd.C k38 w A n (l.map dB)) (hc : n ≤ c) (he : Ev (fun k => levyref17_Rate.f k (l.map dB)) (res.map dB)) : Calls Try.prog 42 #[.slice A n c] w (GivesOne k38 m (res.map dB) w) := by
  obtain ⟨k, hk⟩ := he.rounds
  have h1 : (l.map dB).length = n := by rw [List.length_map, hn]
  have h := levyref17_Rate.calls k A c (l.map dB) _ w (by rw [h1]; exact hr) (by rw [h1]; exact hc) hk
  rw [h1] at h
  refine h.mono ?_
  rintro e w' ⟨v, rfl, hR, hb⟩
  obtain ⟨A', c', rfl, h1, h2⟩ := Kd.R_reads hR
  rw [List.length_map, hm] at h1 h2 ⊢
  exact ⟨A', c', rfl, h1, h2, hb⟩
theorem slopeB_c (A : Option Addr) (c n m : Nat) (l res : List S73) (r : Int) (w : World) (hn : l.length = n) (hm : res.length = m) (hr : Kd.C k38 w A n (l.map dB)) (hc : n ≤ c) (he : Ev (fun k => levyref17_Slope.f k (l.map dB)) (res.map dB, r)) : Calls Try.prog 43 #[.slice A n c] w (GivesTwo k38 m (res.map dB) r w) := by
  obtain ⟨k, hk⟩ := he.rounds
  have h1 : (l.map dB).length = n := by rw [List.length_map, hn]
  have h := levyref17_Slope.calls k A c (l.map dB) _ _ w (by rw [h1]; exact hr) (by rw [h1]; exact hc) hk
  rw [h1] at h
  refine h.mono ?_
  rintro e w' ⟨v, rfl, hR, hb⟩
  obtain ⟨A', c', rfl, h1, h2⟩ := Kd.R_reads hR
  rw [List.length_map, hm] at h1 h2 ⊢
  exact ⟨A', c', rfl, h1, h2, hb⟩
theorem smoothB_c (A : Option Addr) (c n m : Nat) (l res : List S73) (a1 r : Int) (w : World) (hn : l.length = n) (hm : res.length = m) (hr : Kd.C k38 w A n (l.map dB)) (hc : n ≤ c) (he : Ev (fun k => levyref17_Smooth.f k (l.map dB) a1) (res.map dB, r)) : Calls Try.prog 44 #[.slice A n c, .int .i64 a1] w (GivesTwo k38 m (res.map dB) r w) := by
  obtain ⟨k, hk⟩ := he.rounds
  have h1 : (l.map dB).length = n := by rw [List.length_map, hn]
  have h := levyref17_Smooth.calls k A c (l.map dB) a1 _ _ w (by rw [h1]; exact hr) (by rw [h1]; exact hc) hk
  rw [h1] at h
  refine h.mono ?_
  rintro e w' ⟨v, rfl, hR, hb⟩
  obtain ⟨A', c', rfl, h1, h2⟩ := Kd.R_reads hR
  rw [List.length_map, hm] at h1 h2 ⊢
  exact ⟨A', c', rfl, h1, h2, hb⟩
theorem jumpsB_c (A : Option Addr) (c n m : Nat) (l : List S73) (js : List Int) (a1 : Int) (w : World) (hn : l.length = n) (hm : js.length = m) (hr : Kd.C k38 w A n (l.map dB)) (hc : n ≤ c) (he : Ev (fun k => levyref17_Jumps.f k (l.map dB) a1) js) : Calls Try.prog 45 #[.slice A n c, .int .u32 a1] w (GivesOne (Kd.int .i64) m js w) := by
  obtain ⟨k, hk⟩ := he.rounds
  have h1 : (l.map dB).length = n := by rw [List.length_map, hn]
  have h := levyref17_Jumps.calls k A c (l.map dB) a1 _ w (by rw [h1]; exact hr) (by rw [h1]; exact hc) hk
  rw [h1] at h
  refine h.mono ?_
  rintro e w' ⟨v, rfl, hR, hb⟩
  obtain ⟨A', c', rfl, h1, h2⟩ := Kd.R_reads hR
  rw [hm] at h1 h2 ⊢
  exact ⟨A', c', rfl, h1, h2, hb⟩
theorem jumps_c (g c n m least : Nat) (l : List S73) (js : List Int) (w : World) (hn : l.length = n) (hj : jumpsL (l.map dP) least l.length = js) (hm : js.length = m) (hin : InRow w g (l.map dP)) (hc : n ≤ c) (hl : n < 8796093022208) (hle : least < 4294967296) : Calls Try.prog 32 #[.slice (some ⟨g, 0, none⟩) n c, .float .f32 least] w (GivesOne (Kd.int .i64) m js w) := by
  have h1 : (l.map dP).length = n := by rw [List.length_map, hn]
  have h := jumps_calls (some ⟨g, 0, none⟩) c (l.map dP) least w (hin.C (by rw [h1]; omega)) (by rw [h1]; exact hc) (by omega) hle
  rw [h1, ← hn, hj, hn] at h
  refine h.mono ?_
  rintro e w' ⟨v, rfl, hO, hb⟩
  rw [hm] at hO
  obtain ⟨A', c', rfl, h1, h2⟩ := C_ownI hm hO
  exact ⟨A', c', rfl, h1, h2, hb⟩
theorem smooth_all {l : List S73} (hg : F.Good l) (hl : l.length < 8796093022208) (a1 : Int) : ∃ (res : List S73) (r : Int), AllNum res ∧ res.length < 8796093022208 ∧ Ev (fun k => levyref17_Smooth.f k (l.map dB) a1) (res.map dB, r) ∧
    ∀ (g c n m : Nat) (w : World), l.length = n → res.length = m → InRow w g (l.map dP) → n ≤ c → Calls Try.prog 27 #[.slice (some ⟨g, 0, none⟩) n c, .int .i64 a1] w (GivesTwo k58 m (res.map dP) r w) := by
  have bad : ∀ r : Int, (∀ (g c n : Nat) (w : World), l.length = n → InRow w g (l.map dP) → n ≤ c → Calls Try.prog 27 #[.slice (some ⟨g, 0, none⟩) n c, .int .i64 a1] w (Refuses w r)) → ∀ (g c n m : Nat) (w : World), l.length = n → ([] : List S73).length = m → InRow w g (l.map dP) → n ≤ c → Calls Try.prog 27 #[.slice (some ⟨g, 0, none⟩) n c, .int .i64 a1] w (GivesTwo k58 m (([] : List S73).map dP) r w) := by
    intro r h g c n m w hn hm hin hc
    refine (h g c n w hn hin hc).mono ?_
    rintro e w' ⟨rfl, hb⟩
    subst hm
    exact ⟨none, 0, rfl, Nat.le_refl _, Kd.C_nil k58 w', hb⟩
  by_cases hw : a1 < 1 ∨ 15 < a1 ∨ (1 ≤ a1 ∧ a1 ≤ 15 ∧ a1 % 2 = 0)
  · exact ⟨[], 173, fun d hd => by simp at hd, by decide, F.ref_bad _ a1 hw, bad 173 fun g c n w hn hin hc => smooth_bad _ c n a1 w hw⟩
  · have h1 : 1 ≤ a1 := by omega
    have h15 : a1 ≤ 15 := by omega
    have hodd : a1 % 2 = 1 := by omega
    have hodd' : (a1 % 2 == 0) = false := by rw [hodd]; rfl
    obtain ⟨b, b1, b2, b3⟩ := F.ordered_is hg
    obtain ⟨k, hk⟩ := b1.rounds
    cases b with
    | false =>
      refine ⟨[], 172, fun d hd => by simp at hd, by decide, F.ref_good a1 h1 h15 hodd false _ b2 (Ev.congr (fun k => if_neg (by simp)) (Ev.now _)), bad 172 fun g c n w hn hin hc => ?_⟩
      have e1 : (l.map dP).length = n := by rw [List.length_map, hn]
      have h := smooth_unord (some ⟨g, 0, none⟩) c (l.map dP) a1 w (hin.C (by rw [e1]; omega)) (by rw [e1]; exact hc) h1 h15 hodd' k hk
      rw [e1] at h
      exact h
    | true =>
      have ho := b3 rfl
      obtain ⟨h, hh⟩ : ∃ h : Nat, a1 / 2 = (h : Int) := ⟨(a1 / 2).toNat, by omega⟩
      obtain ⟨r1, r2⟩ := F.ref_from hg hl ho h (by omega) l.length 0 (by omega) (fun d hd => by simp [meanD] at hd)
      have hml : (meanD l h l.length).length = l.length := by unfold meanD; rw [List.length_map, List.length_range]
      refine ⟨meanD l h l.length, 0, r1, by rw [hml]; exact hl, F.ref_good a1 h1 h15 hodd true _ b2 (Ev.congr (fun k => if_pos rfl) (by rw [hh]; exact r2)), ?_⟩
      intro g c n m w hn hm hin hc
      have e1 : (l.map dP).length = n := by rw [List.length_map, hn]
      have e2 : m = n := by omega
      subst e2
      have hS := smooth_ok (some ⟨g, 0, none⟩) c (l.map dP) a1 h w (hin.C (by rw [e1]; omega)) (by rw [e1]; exact hc) (by omega) h1 h15 hh hodd' k hk (F.smooth_okk hg hl ho h (by omega))
      rw [e1] at hS
      refine hS.mono ?_
      rintro e w' ⟨v, rfl, hO, hb⟩
      rw [← meanD_P, ← hn] at hO
      obtain ⟨A', c', rfl, h3, h4⟩ := C_own58 (by rw [List.length_map, hml]) hO
      rw [hn] at h3 h4 ⊢
      exact ⟨A', c', rfl, h3, h4, hb⟩
theorem ltoi (ls : Nat) : (ls : Int).toNat = ls := Int.toNat_natCast ls
set_option maxHeartbeats 8000000 in
theorem rates_calls (g c c0 n : Nat) (A : Option Addr) (l : List S73) (a1 least : Int) (w : World) (hn : l.length = n) (hin : InRow w g (l.map dP)) (hgw : g < w.heap.size) (hc : n ≤ c) (hr : Kd.C k73 w A n l) (hc0 : n ≤ c0) (hlen : n < 8796093022208) (hg : F.Good l) (h0 : 0 ≤ least) (h1 : least < 4294967296) :
    Calls Try.prog 20 #[.slice (some ⟨g, 0, none⟩) n c, .slice A n c0, .int .i64 a1, .int .u32 least] w (TrueBelow w) := by
  obtain ⟨ls, rfl⟩ : ∃ ls : Nat, least = (ls : Int) := ⟨least.toNat, by omega⟩
  obtain ⟨q1, a1_, l1_, p1_, b1_⟩ := F.rate_is hg (by omega)
  obtain ⟨q2, r2, a2_, l2_, p2_, b2_⟩ := F.slope_is hg (by omega)
  obtain ⟨q3, r3, a3_, l3_, b3_, p3_⟩ := smooth_all hg (by omega) a1
  have b4_ := F.jumps_is hg (by omega) ls (by omega)
  obtain ⟨js, hjs⟩ : ∃ js, jumpsL (l.map dP) ls l.length = js := ⟨_, rfl⟩
  rw [hjs] at b4_
  have hjl : js.length ≤ n := by rw [← hjs, ← hn]; exact jumpsL_len _ _ _
  obtain ⟨m1, e1_⟩ : ∃ m, q1.length = m := ⟨_, rfl⟩
  obtain ⟨m2, e2_⟩ : ∃ m, q2.length = m := ⟨_, rfl⟩
  obtain ⟨m3, e3_⟩ : ∃ m, q3.length = m := ⟨_, rfl⟩
  obtain ⟨m4, e4_⟩ : ∃ m, js.length = m := ⟨_, rfl⟩
  rw [e1_] at l1_
  rw [e2_] at l2_
  rw [e3_] at l3_
  rw [e4_] at hjl
  have HN := Aside0.mk hn
  have HLE := Aside0.mk (show ls < 4294967296 by omega)
  have HLEN := Aside0.mk hlen
  have HC := Aside0.mk hc
  have HL1 := Aside0.mk l1_
  have HL2 := Aside0.mk l2_
  have HL3 := Aside0.mk l3_
  have HJL := Aside0.mk (show m4 < 8796093022208 by omega)
  have HJS := Aside0.mk hjs
  have HE1 := Aside0.mk e1_
  have HE2 := Aside0.mk e2_
  have HE3 := Aside0.mk e3_
  have HE4 := Aside0.mk e4_
  have HI0 := Aside0.mk hin
  have HG0 := Aside0.mk hgw
  have HR := Aside0.mk hr
  have HC0 := Aside0.mk hc0
  have HT := ltoi ls
  clear hn hlen hc l1_ l2_ l3_ hjl hjs e1_ e2_ e3_ e4_ hin hgw hr hc0 h0 h1
  go_enter Try.func20, Try.ntmps20
  go_wp2_with fail
  go_at_call 38
  with_reducible refine (bits_c A c0 n l w HN.out HR.out HC0.out HLEN.out).mono ?_
  rintro e w1 ⟨A1, c1, rfl, hcB, hB, hb⟩
  have HCB := Aside0.mk hcB
  have HB1 := Aside0.mk hB
  have HE_1 := Aside0.mk hb
  have HI1 := Aside0.mk (HI0.out.keep (hb.block g HG0.out))
  have HG1 := Aside0.mk (Nat.lt_of_lt_of_le HG0.out hb.size)
  clear hcB hB hb
  go_wp2_with fail
  go_at_call 30
  with_reducible refine (rate_c g c n m1 l q1 w1 HN.out HE1.out HI1.out HC.out HLEN.out p1_).mono ?_
  rintro e w2 ⟨A2, c2, rfl, hc2, hX, hb⟩
  have HI2 := Aside0.mk (HI1.out.keep (hb.block g HG1.out))
  have HG2 := Aside0.mk (Nat.lt_of_lt_of_le HG1.out hb.size)
  have HB2 := Aside0.mk (Kd.C_below HB1.out hb)
  have HE_2 := Aside0.mk (below_then HE_1.out HE_1.out.size hb)
  have HCX := Aside0.mk hc2
  have HX_2 := Aside0.mk hX
  clear hc2 hX hb
  go_wp2_with fail
  go_at_call 42
  with_reducible refine (rateB_c A1 c1 n m1 l q1 w2 HN.out HE1.out HB2.out HCB.out b1_).mono ?_
  rintro e w3 ⟨A3, c3, rfl, hc3, hY, hb⟩
  have HI3 := Aside0.mk (HI2.out.keep (hb.block g HG2.out))
  have HG3 := Aside0.mk (Nat.lt_of_lt_of_le HG2.out hb.size)
  have HB3 := Aside0.mk (Kd.C_below HB2.out hb)
  have HE_3 := Aside0.mk (below_then HE_2.out HE_2.out.size hb)
  have HX_3 := Aside0.mk (Kd.C_below HX_2.out hb)
  have HCY := Aside0.mk hc3
  have HY_3 := Aside0.mk hY
  clear hc3 hY hb
  go_wp2_with fail
  go_at_call 15
  with_reducible refine (same_c A2 A3 c2 c3 m1 q1 w3 HE1.out a1_ HL1.out HX_3.out HCX.out HY_3.out HCY.out).mono ?_
  rintro e w4 ⟨rfl, ⟨⟨nd4, hw4⟩⟩⟩
  have hb : Below w3.heap.size w3 w4 := by rw [hw4]; exact pw_below_drewN (Below.refl _ _) _
  have HI4 := Aside0.mk (HI3.out.keep (hb.block g HG3.out))
  have HG4 := Aside0.mk (Nat.lt_of_lt_of_le HG3.out hb.size)
  have HB4 := Aside0.mk (Kd.C_below HB3.out hb)
  have HE_4 := Aside0.mk (below_then HE_3.out HE_3.out.size hb)
  clear hb hw4
  clear HX_2 HX_3 HY_3 HCX HCY
  go_wp2_with fail
  go_at_call 29
  with_reducible refine (slope_c g c n m2 l q2 r2 w4 HN.out HE2.out HI4.out HC.out HLEN.out p2_).mono ?_
  rintro e w5 ⟨A5, c5, rfl, hc5, hX, hb⟩
  have HI5 := Aside0.mk (HI4.out.keep (hb.block g HG4.out))
  have HG5 := Aside0.mk (Nat.lt_of_lt_of_le HG4.out hb.size)
  have HB5 := Aside0.mk (Kd.C_below HB4.out hb)
  have HE_5 := Aside0.mk (below_then HE_4.out HE_4.out.size hb)
  have HCX := Aside0.mk hc5
  have HX_5 := Aside0.mk hX
  clear hc5 hX hb
  go_wp2_with fail
  go_at_call 43
  with_reducible refine (slopeB_c A1 c1 n m2 l q2 r2 w5 HN.out HE2.out HB5.out HCB.out b2_).mono ?_
  rintro e w6 ⟨A6, c6, rfl, hc6, hY, hb⟩
  have HI6 := Aside0.mk (HI5.out.keep (hb.block g HG5.out))
  have HG6 := Aside0.mk (Nat.lt_of_lt_of_le HG5.out hb.size)
  have HB6 := Aside0.mk (Kd.C_below HB5.out hb)
  have HE_6 := Aside0.mk (below_then HE_5.out HE_5.out.size hb)
  have HX_6 := Aside0.mk (Kd.C_below HX_5.out hb)
  have HCY := Aside0.mk hc6
  have HY_6 := Aside0.mk hY
  clear hc6 hY hb
  go_wp2_with fail
  go_at_call 15
  with_reducible refine (same_c A5 A6 c5 c6 m2 q2 w6 HE2.out a2_ HL2.out HX_6.out HCX.out HY_6.out HCY.out).mono ?_
  rintro e w7 ⟨rfl, ⟨⟨nd7, hw7⟩⟩⟩
  have hb : Below w6.heap.size w6 w7 := by rw [hw7]; exact pw_below_drewN (Below.refl _ _) _
  have HI7 := Aside0.mk (HI6.out.keep (hb.block g HG6.out))
  have HG7 := Aside0.mk (Nat.lt_of_lt_of_le HG6.out hb.size)
  have HB7 := Aside0.mk (Kd.C_below HB6.out hb)
  have HE_7 := Aside0.mk (below_then HE_6.out HE_6.out.size hb)
  clear hb hw7
  clear HX_5 HX_6 HY_6 HCX HCY
  go_wp2_with fail
  go_at_call 27
  with_reducible refine (p3_ g c n m3 w7 HN.out HE3.out HI7.out HC.out).mono ?_
  rintro e w8 ⟨A8, c8, rfl, hc8, hX, hb⟩
  have HI8 := Aside0.mk (HI7.out.keep (hb.block g HG7.out))
  have HG8 := Aside0.mk (Nat.lt_of_lt_of_le HG7.out hb.size)
  have HB8 := Aside0.mk (Kd.C_below HB7.out hb)
  have HE_8 := Aside0.mk (below_then HE_7.out HE_7.out.size hb)
  have HCX := Aside0.mk hc8
  have HX_8 := Aside0.mk hX
  clear hc8 hX hb
  go_wp2_with fail
  go_at_call 44
  with_reducible refine (smoothB_c A1 c1 n m3 l q3 a1 r3 w8 HN.out HE3.out HB8.out HCB.out b3_).mono ?_
  rintro e w9 ⟨A9, c9, rfl, hc9, hY, hb⟩
  have HI9 := Aside0.mk (HI8.out.keep (hb.block g HG8.out))
  have HG9 := Aside0.mk (Nat.lt_of_lt_of_le HG8.out hb.size)
  have HB9 := Aside0.mk (Kd.C_below HB8.out hb)
  have HE_9 := Aside0.mk (below_then HE_8.out HE_8.out.size hb)
  have HX_9 := Aside0.mk (Kd.C_below HX_8.out hb)
  have HCY := Aside0.mk hc9
  have HY_9 := Aside0.mk hY
  clear hc9 hY hb
  go_wp2_with fail
  go_at_call 15
  with_reducible refine (same_c A8 A9 c8 c9 m3 q3 w9 HE3.out a3_ HL3.out HX_9.out HCX.out HY_9.out HCY.out).mono ?_
  rintro e w10 ⟨rfl, ⟨⟨nd10, hw10⟩⟩⟩
  have hb : Below w9.heap.size w9 w10 := by rw [hw10]; exact pw_below_drewN (Below.refl _ _) _
  have HI10 := Aside0.mk (HI9.out.keep (hb.block g HG9.out))
  have HG10 := Aside0.mk (Nat.lt_of_lt_of_le HG9.out hb.size)
  have HB10 := Aside0.mk (Kd.C_below HB9.out hb)
  have HE_10 := Aside0.mk (below_then HE_9.out HE_9.out.size hb)
  clear hb hw10
  clear HX_8 HX_9 HY_9 HCX HCY
  go_wp2_with fail
  go_at_call 32
  with_reducible refine (jumps_c g c n m4 ls l js w10 HN.out HJS.out HE4.out HI10.out HC.out HLEN.out HLE.out).mono ?_
  rintro e w11 ⟨A11, c11, rfl, hc11, hX, hb⟩
  have HI11 := Aside0.mk (HI10.out.keep (hb.block g HG10.out))
  have HG11 := Aside0.mk (Nat.lt_of_lt_of_le HG10.out hb.size)
  have HB11 := Aside0.mk (Kd.C_below HB10.out hb)
  have HE_11 := Aside0.mk (below_then HE_10.out HE_10.out.size hb)
  have HCX := Aside0.mk hc11
  have HX_11 := Aside0.mk hX
  clear hc11 hX hb
  go_wp2_with fail
  go_at_call 45
  with_reducible refine (jumpsB_c A1 c1 n m4 l js (ls : Int) w11 HN.out HE4.out HB11.out HCB.out b4_).mono ?_
  rintro e w12 ⟨A12, c12, rfl, hc12, hY, hb⟩
  have HI12 := Aside0.mk (HI11.out.keep (hb.block g HG11.out))
  have HG12 := Aside0.mk (Nat.lt_of_lt_of_le HG11.out hb.size)
  have HB12 := Aside0.mk (Kd.C_below HB11.out hb)
  have HE_12 := Aside0.mk (below_then HE_11.out HE_11.out.size hb)
  have HX_12 := Aside0.mk (Kd.C_below HX_11.out hb)
  have HCY := Aside0.mk hc12
  have HY_12 := Aside0.mk hY
  clear hc12 hY hb
  go_wp2_with fail
  go_loopg [16] (m4 + 1) (fun kq v16 w' => ∃ i : Nat, v16 = .int .i64 (i : Int) ∧ Aside0 (kq + i = m4 + 1) ∧ Aside0 (i ≤ m4) ∧ Aside0 (Drawn0 w12 w'))
  case atStart => exact ⟨0, rfl, ⟨by omega⟩, ⟨by omega⟩, ⟨Drawn0.refl _⟩⟩
  case round =>
    obtain ⟨i, rfl, HK, HI, HD⟩ := hrel
    cases gk with
    | zero => exact absurd HK.out (by have := HI.out; omega)
    | succ k1 =>
      by_cases hlt : i < m4
      · have hb0 : decide ((i : Int) < (m4 : Int)) = true := decide_eq_true (by omega)
        obtain ⟨ad, ex, hx0⟩ := Kd.at_int HX_12.out (i : Int) (by omega) (by omega)
        cases ex
        obtain ⟨ad', ey, hy0⟩ := Kd.at_int HY_12.out (i : Int) (by omega) (by omega)
        cases ey
        rw [Int.toNat_natCast] at hx0 hy0
        obtain ⟨nd, rfl⟩ := HD.out.out
        generalize rd js (i : Int) = J at hx0 hy0
        have p0 : (0 : Int) ≤ (i : Int) := by omega
        have p1 : (i : Int) < (m4 : Int) := by omega
        have p2 : (i : Int) < 8796093022208 := by have := HJL.out; omega
        go_wp2_with fail
        go_quiet (fail)
        go_wp2_with fail
        go_roundg k1
        case measure => omega
        case rel => exact ⟨i + 1, by simp, ⟨by have := HK.out; omega⟩, ⟨by omega⟩, ⟨⟨_, rfl⟩⟩⟩
      · obtain rfl : i = m4 := by have := HI.out; omega
        have hb0 : decide ((i : Int) < (i : Int)) = false := decide_eq_false (by omega)
        go_wp2
        go_ret
        exact ⟨rfl, below_then HE_12.out HE_12.out.size HD.out.below⟩
end Go.Proofs.Ytfhgomcfpmbhnaa.Y
end

section
namespace Go.Proofs.Ytfhgomcfpmbhnaa.Y
open Go.RowKit Go.Proofs.Ytfhgomcfpmbhnaa.PS Go.Proofs.Ytfhgomcfpmbhnaa.F Go.Proofs.YtfhgomcfpmbhnaaW.PrintWords Go.Proofs.YtfhgomcfpmbhnaaW.PrintMore
set_option linter.unusedVariables false
set_option maxRecDepth 100000
set_option maxHeartbeats 4000000 in
theorem law_rates (A : Option Addr) (c0 : Nat) (l : List S73) (a1 least : Int) (w : World) (hr : Kd.C k73 w A l.length l) (hc : l.length ≤ c0) (hlen : l.length + 2 ≤ 8796093022208) (hg : F.Good l) (h0 : 0 ≤ least) (h1 : least < 4294967296) :
    Calls Try.prog 6 #[.slice A l.length c0, .int .i64 a1, .int .u32 least] w (TrueBelow w) := by
  have HR := Aside0.mk hr
  have HG := Aside0.mk hg
  have HL := Aside0.mk hlen
  have HC := Aside0.mk hc
  have H0 := Aside0.mk h0
  have H1 := Aside0.mk h1
  clear hr hg hlen hc h0 h1
  go_enter Try.func6, Try.ntmps6
  go_wp2_with fail
  go_at_call 16
  with_reducible refine (points_calls A c0 l w HR.out HC.out HL.out).mono ?_
  rintro e w1 ⟨rfl, hown, hb⟩
  have HI := Aside0.mk (InRow.of_own hown)
  have HB := Aside0.mk hb
  have HLT := Aside0.mk (show w.heap.size < w1.heap.size from (hown.lt w.heap.size (by simp [Value.ownBlock])).2)
  clear hown hb
  have HRa := Aside0.mk (C_old k73_K HR.out (fun i hi => HB.out.block i hi))
  go_wp2_with fail
  go_at_call 20
  with_reducible refine (rates_calls w.heap.size (l.length + 2) c0 l.length A l a1 least w1 rfl HI.out HLT.out (Nat.le_add_right _ _) HRa.out HC.out (by have := HL.out; omega) HG.out H0.out H1.out).mono ?_
  rintro e w2 ⟨rfl, hb⟩
  have HB2 := Aside0.mk hb
  have HIb := Aside0.mk (HI.out.keep (hb.block _ HLT.out))
  have HRb := Aside0.mk (C_old k73_K HRa.out (fun i hi => hb.block i hi))
  clear hb
  go_wp2_with fail
  go_at_call 18
  with_reducible refine (kept_calls w.heap.size (l.length + 2) l A c0 w2 HIb.out (Nat.le_refl _) HRb.out HC.out (by have := HL.out; omega) HG.out).mono ?_
  rintro e w3 ⟨rfl, ⟨⟨nd, rfl⟩⟩⟩
  go_wp2_with fail
  go_at_call 19
  have HLT3 : w.heap.size < (w2.drewN nd).heap.size := Nat.lt_of_lt_of_le HLT.out HB2.out.size
  have HIc0 : InRow (w2.drewN nd) w.heap.size (l.map dP) := HIb.out.keep rfl
  with_reducible refine (turned_calls A c0 w.heap.size (l.length + 2) l (w2.drewN nd) (Kd.C_drewN HRb.out nd) HC.out (Nat.le_refl _) (by have := HL.out; omega) HLT3 HIc0).mono ?_
  rintro e w4 ⟨A', c', rfl, hc', hC', hkb, hin'⟩
  have HC' := Aside0.mk hc'
  have HRc := Aside0.mk hC'
  have HKB := Aside0.mk hkb
  have HIc := Aside0.mk hin'
  have HLT2 := Aside0.mk (show w.heap.size ≤ (w2.drewN nd).heap.size from Nat.le_of_lt (Nat.lt_of_lt_of_le HLT.out HB2.out.size))
  have HLT4 := Aside0.mk (Nat.lt_of_lt_of_le HLT3 hkb.size)
  clear hc' hC' hkb hin' HLT3 HIc0
  have hOld : ∀ i, i < w.heap.size → w4.heap[i]? = w.heap[i]? := fun i hi => (HKB.out.block i (Nat.lt_of_lt_of_le hi (HLT2.out)) (fun e => by have := Option.some.inj e; omega)).trans ((HB2.out.block i (Nat.lt_trans hi HLT.out)).trans (HB.out.block i hi))
  have HO := Aside0.mk hOld
  clear hOld
  go_wp2_with fail
  go_at_call 20
  have HIn4 : InRow w4 w.heap.size ((turnedL l).map dP) := HIc.out
  have HRn4 : Kd.C k73 w4 A' l.length (turnedL l) := by have := HRc.out; rwa [turnedL_len] at this
  have hcn : l.length ≤ c' := by have := HC'.out; rwa [turnedL_len] at this
  have HLn := turnedL_len l
  rw [HLn]
  with_reducible refine (rates_calls w.heap.size (l.length + 2) c' l.length A' (turnedL l) a1 least w4 (turnedL_len l) HIn4 HLT4.out (Nat.le_add_right _ _) HRn4 hcn (by have := HL.out; omega) (good_turned HG.out) H0.out H1.out).mono ?_
  rintro e w5 ⟨rfl, hb5⟩
  have HB5 := Aside0.mk hb5
  clear hb5 HIn4 HRn4 hcn HLn
  go_wp2_with fail
  go_ret
  refine ⟨rfl, ?_⟩
  have hk5 := HKB.out.size
  exact below_then (w1 := w4) ⟨HKB.out.os.trans (HB2.out.os.trans HB.out.os), HKB.out.tape.trans (HB2.out.tape.trans HB.out.tape), HKB.out.output.trans (HB2.out.output.trans HB.out.output), Nat.le_trans HLT2.out hk5, HO.out⟩ (Nat.le_trans HLT2.out hk5) HB5.out
theorem u32_ok {n : Int} (h : (Lit.int .u32 n).wf = true) : 0 ≤ n ∧ n < 4294967296 := by
  have b : IntKind.u32.min ≤ n ∧ n ≤ IntKind.u32.max := by simpa [Lit.wf] using h
  exact ⟨b.1, Int.lt_of_le_of_lt b.2 (by decide)⟩
end Go.Proofs.Ytfhgomcfpmbhnaa.Y
end

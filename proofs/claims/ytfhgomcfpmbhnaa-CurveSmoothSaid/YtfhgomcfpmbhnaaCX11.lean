-- Part 11 of the texts of the claim CX (wrote by programs: words of the kit's print.sh, printed functions; and my own texts; joined by wip/tools/pack.py).
import Derived.Test.YtfhgomcfpmbhnaaCX10

section
namespace Go.Proofs.Ytfhgomcfpmbhnaa.Y
open Go Go.RowKit Go.Proofs.Ytfhgomcfpmbhnaa.PS Go.Proofs.Ytfhgomcfpmbhnaa.F Go.Proofs.YtfhgomcfpmbhnaaW.PrintWords Go.Proofs.YtfhgomcfpmbhnaaW.PrintMore Go.Proofs.YtfhgomcfpmbhnaaW.Fits
attribute [local go_sem] frun_add frun_sub frun_mul frun_quo frun_neg frun_of frun_same frun_store frun_bits frun_from frun_eqin
set_option linter.unusedVariables false
set_option maxRecDepth 100000
set_option maxHeartbeats 4000000 in
theorem law_smooth (A : Option Addr) (c0 : Nat) (l : List S73) (a1 : Int) (w : World) (hr : Kd.C k73 w A l.length l) (hc : l.length ≤ c0) (hg : F.Good l) (ha0 : -9223372036854775808 ≤ a1) (ha1 : a1 ≤ 9223372036854775807) :
    Calls Try.prog 9 #[.slice A l.length c0, .int .i64 a1] w (TrueBelow w) := by
  obtain ⟨L, hs, hL, hE⟩ := F.sound_is hg
  obtain ⟨v, hv⟩ := vals_of hs
  obtain ⟨r, hsm, hr0, hr1⟩ := small_is a1 3 (by decide) (by decide) ha0 ha1
  obtain ⟨n, hn⟩ : ∃ n, L.length = n := ⟨_, rfl⟩
  obtain ⟨m, hm⟩ : ∃ m, l.length = m := ⟨_, rfl⟩
  obtain ⟨h, hh⟩ : ∃ h : Nat, (h : Int) = r + 3 := ⟨(r + 3).toNat, by omega⟩
  have h7 : h ≤ 7 := by omega
  rw [hm] at hr hc ⊢
  have HR := Aside0.mk hr
  have HC := Aside0.mk hc
  have HM := Aside0.mk hm
  have HS := Aside0.mk hs
  have HN := Aside0.mk hn
  have HE := Aside0.mk hE
  have HV := Aside0.mk hv
  have HSM := Aside0.mk hsm
  have HF := Aside0.mk (flat_sound hs)
  have HONE := Aside0.mk (one_same hs)
  have HFLAT := Aside0.mk (flat_same hs h h7)
  have HMEAN : Aside0 (∀ i, i < n → _) := ⟨fun i hi => mean_in hv h i h7 (by omega)⟩
  have H64 := Aside0.mk (show n ≤ 64 by have := hs.1; omega)
  have H7 := Aside0.mk h7
  have HMN := Aside0.mk (mnV_rng hv)
  have HMZ : Aside0 (fl_of (mnV v 0) = 0 ∧ fl_of (mxV v 0) = 0) := ⟨of_nil, of_nil⟩
  rw [hn] at HONE HFLAT HF
  rw [hn] at HMEAN
  have q1 : wrap64 (r + 3) = (h : Int) := by unfold wrap64; omega
  have q2 : Int.tmod (h : Int) 8 = (h : Int) := Int.tmod_eq_of_lt (by omega) (by omega)
  have q3 : wrap64 (2 * (h : Int)) = 2 * (h : Int) := by unfold wrap64; omega
  have q4 : wrap64 (2 * (h : Int) + 1) = 2 * (h : Int) + 1 := by unfold wrap64; omega
  have Q := Aside0.mk (And.intro q1 (And.intro q2 (And.intro q3 q4)))
  clear hr hc hm hs hn hE hv hsm hL hr0 hr1 hg hh h7 q1 q2 q3 q4 ha0 ha1
  obtain ⟨F42, H42⟩ : ∃ F42 : Nat, Aside0 (F42 = 1109917696) := ⟨_, ⟨rfl⟩⟩
  go_enter Try.func9, Try.ntmps9
  go_wp2_with fail
  go_at_call 22
  with_reducible refine (known_c w).mono ?_
  rintro e w1 ⟨rfl, hb⟩
  have HE1 := Aside0.mk hb
  have HR1 := Aside0.mk (Kd.C_below HR.out hb)
  clear hb
  go_wp2_with fail
  go_at_call 23
  with_reducible refine (sound_c A c0 m n l L w1 HM.out HN.out HR1.out HC.out HE.out).mono ?_
  rintro e w2 ⟨A2, c2, rfl, hc2, hX, hb⟩
  have HE2 := Aside0.mk (below_then HE1.out HE1.out.size hb)
  have HC2 := Aside0.mk hc2
  have HX2 := Aside0.mk hX
  clear hc2 hX hb
  go_wp2_with fail
  go_at_call 27
  with_reducible refine (smooth_s A2 c2 n L 0 1 w2 HS.out HN.out HX2.out HC2.out rfl (by decide)).mono ?_
  rw [HONE.out]
  rintro e w3 ⟨A3, c3, rfl, hc3, hY, hb⟩
  have HE3 := Aside0.mk (below_then HE2.out HE2.out.size hb)
  have HX3 := Aside0.mk (Kd.C_below HX2.out hb)
  have HC3 := Aside0.mk hc3
  have HA3 := Aside0.mk hY
  clear hc3 hY hb
  go_wp2_with fail
  go_at_call 24
  with_reducible refine (small_c a1 3 r w3 HSM.out).mono ?_
  rintro e w4 ⟨rfl, hb⟩
  have HE4 := Aside0.mk (below_then HE3.out HE3.out.size hb)
  have HX4 := Aside0.mk (Kd.C_below HX3.out hb)
  have HA4 := Aside0.mk (Kd.C_below HA3.out hb)
  clear hb
  obtain ⟨q1, q2, q3, q4⟩ := Q.out
  go_wp2_with fail
  go_at_call 27
  with_reducible refine (smooth_s A2 c2 n L h (2 * (h : Int) + 1) w4 HS.out HN.out HX4.out HC2.out rfl H7.out).mono ?_
  rintro e w5 ⟨A5, c5, rfl, hc5, hY, hb⟩
  have HE5 := Aside0.mk (below_then HE4.out HE4.out.size hb)
  have HX5 := Aside0.mk (Kd.C_below HX4.out hb)
  have HA5 := Aside0.mk (Kd.C_below HA4.out hb)
  have HB5 := Aside0.mk hY
  have HC5 := Aside0.mk hc5
  clear hc5 hY hb q1 q2 q3 q4
  go_wp2_with fail
  go_loopg [11, 12, 13, 14] (n + 1) (fun kq v11 v12 v13 v14 w' => ∃ i : Nat, v14 = .int .i64 (i : Int) ∧ v12 = .float .f32 (fl_of (mnV v i)) ∧ v13 = .float .f32 (fl_of (mxV v i)) ∧ Aside0 (kq + i = n + 1) ∧ Aside0 (i ≤ n) ∧ Aside0 (Line w5 (flatL L i) v11 w'))
  case atStart => exact ⟨0, rfl, by rw [HMZ.out.1], by rw [HMZ.out.2], ⟨by omega⟩, ⟨by omega⟩, ⟨⟨own_nil _ _ _ _, Below.refl _ _⟩⟩⟩
  case round =>
    obtain ⟨i, rfl, rfl, rfl, HK, HI, HL9⟩ := hrel
    cases gk with
    | zero => exact absurd HK.out (by have := HI.out; omega)
    | succ k1 =>
      by_cases hlt : i < n
      · have hb0 : decide ((i : Int) < (n : Int)) = true := decide_eq_true (by omega)
        have hXw := Kd.C_below HX5.out HL9.out.below
        have hAw := Kd.C_below HA5.out HL9.out.below
        obtain ⟨ad, e1, x0, x1⟩ := at_T58 hXw (i : Int) (by omega) (by omega)
        cases e1
        obtain ⟨ad', e2, z0, z1⟩ := at_T58 hAw (i : Int) (by omega) (by omega)
        cases e2
        clear hXw hAw
        rw [Int.toNat_natCast] at x0 x1 z0 z1
        have eX : (rd_T58 L (i : Int)).f0 = (L.getD i z58).f0 := rfl
        have eY : (rd_T58 L (i : Int)).f1 = (L.getD i z58).f1 := rfl
        obtain ⟨v0, v1, v2⟩ := HV.out i (by rw [HN.out]; exact hlt)
        obtain ⟨m0, m1, _⟩ := HMN.out i (by rw [HN.out]; omega)
        rw [eX] at x0 z0
        rw [eY, v2] at x1 z1
        obtain ⟨X, hXX⟩ : ∃ X, (L.getD i z58).f0 = X := ⟨_, rfl⟩
        rw [hXX] at x0 z0
        have HXX := Aside0.mk hXX
        have hs0 := same_eq (F.whole_fin1 (v i) (by omega))
        have ho1 := F.order_whole (v i) (mnV v i) (by omega) (by omega)
        have ho2 := F.order_whole (v i) (mxV v i) (by omega) (by omega)
        have hmn : mnV v (i + 1) = if i = 0 then v 0 else min (mnV v i) (v i) := rfl
        have hmx : mxV v (i + 1) = if i = 0 then v 0 else max (mxV v i) (v i) := rfl
        have p0 : (0 : Int) ≤ (i : Int) := by omega
        have p1 : (i : Int) < (n : Int) := by omega
        have p2 : (i : Int) < 8796093022208 := by have := H64.out; omega
        obtain ⟨i0, hi0, hz0, hz1, hz2⟩ := info_parts PS.info58
        have HI0 := Aside0.mk hi0
        have HZ0 := Aside0.mk hz0
        have HZ1 := Aside0.mk hz1
        have HZ2 := Aside0.mk hz2
        clear hi0 hz0 hz1 hz2 eX eY v2 hXX
        by_cases h0 : i = 0
        · have hz : ((i : Int) == 0) = true := by simp [h0]
          have HMN1 : Aside0 (fl_of (mnV v (i + 1)) = fl_of (v i)) := ⟨by rw [hmn, if_pos h0, h0]⟩
          have HMX1 : Aside0 (fl_of (mxV v (i + 1)) = fl_of (v i)) := ⟨by rw [hmx, if_pos h0, h0]⟩
          clear hmn hmx ho1 ho2 v0 v1 m0 m1 h0
          generalize fl_of (v i) = Y at x1 z1 hs0 HMN1 HMX1
          go_wp2_with fail
          go_quiet (fail)
          have HS2 := Aside0.mk (HL9.out.moved (pw_below_drewN (Below.refl wr.heap.size wr) nq))
          have y0 : (wr.drewN nq).cell? (ad.add (i * 2)) = some (.int .i64 X) := x0
          have y1 : (wr.drewN nq).cell? ⟨(ad.add (i * 2)).block, (ad.add (i * 2)).off + 1, none⟩ = some (.float .f32 Y) := x1
          clear HL9 x0 x1 z0 z1
          generalize wr.drewN nq = wq at HS2 y0 y1 ⊢
          go_wp2_with (first | (at_builtin; rw [← H42.out]; refine wpList_append_own_at _ rfl _ _ 31 rfl w5.heap.size 58 i0 (.agg #[.int .i64 0, .float .f32 0]) 2 16 Try.underlying31 HI0.out HZ0.out HZ1.out HZ2.out rfl (by decide) u11 (flatL L i).length (pntv (flatL L i)) rfl (HS2.out.out.alloc _) ⟨wq.heap.size, 0, none⟩ 1 1 [.int .i64 X, .float .f32 F42] (by first | rfl | simp) rfl (World.news_of_block (cs := #[.int .i64 X, .float .f32 F42]) (t := 58) (fr := (0, 0)) (heap_alloc_new wq _)) (by simp [Value.oneCell']) (by have := flatL_len L i; unfold maxLen; omega) (by have := flatL_len L i; omega) (by simp; have := HS2.out.below.size; omega) ?_; intro v1 w3' hown3 hgrow3 _ hat3))
          go_roundg k1
          case measure => omega
          case rel =>
            have hbb : Below w5.heap.size w5 w3' := (HS2.out.below.alloc HS2.out.below.size _).grown hgrow3 (Nat.le_trans HS2.out.below.size (by simp)) (fun k hk => own_base HS2.out.out k hk)
            refine ⟨i + 1, by simp, by rw [HMN1.out], by rw [HMX1.out], ⟨by have := HK.out; omega⟩, ⟨by omega⟩, ⟨⟨?_, hbb⟩⟩⟩
            rw [flatL_succ, HXX.out, ← H42.out, List.length_append, pntv_snoc]
            exact hown3
        · have hz : ((i : Int) == 0) = false := by simp [h0]
          have hc1 : (FloatKind.f32.format.order (fl_of (v i)) (fl_of (mnV v i)) == some Ordering.lt) = decide (v i < mnV v i) := by rw [ho1, F.cmp_lt]
          have hc2 : (FloatKind.f32.format.order (fl_of (v i)) (fl_of (mxV v i)) == some Ordering.gt) = decide (mxV v i < v i) := by rw [ho2, F.cmp_gt]
          rw [if_neg h0] at hmn hmx
          clear ho1 ho2 h0
          by_cases d1 : v i < mnV v i
          · rw [decide_eq_true d1] at hc1
            have HMN1 : Aside0 (fl_of (mnV v (i + 1)) = fl_of (v i)) := ⟨by rw [hmn, show min (mnV v i) (v i) = v i by omega]⟩
            by_cases d2 : mxV v i < v i
            · rw [decide_eq_true d2] at hc2
              have HMX1 : Aside0 (fl_of (mxV v (i + 1)) = fl_of (v i)) := ⟨by rw [hmx, show max (mxV v i) (v i) = v i by omega]⟩
              clear hmn hmx v0 v1 m0 m1 d1 d2
              generalize fl_of (v i) = Y at x1 z1 hs0 HMN1 HMX1 hc1 hc2
              generalize fl_of (mnV v i) = NL at hc1 ⊢
              generalize fl_of (mxV v i) = NM at hc2 ⊢
              go_wp2_with fail
              go_quiet (fail)
              have HS2 := Aside0.mk (HL9.out.moved (pw_below_drewN (Below.refl wr.heap.size wr) nq))
              have y0 : (wr.drewN nq).cell? (ad.add (i * 2)) = some (.int .i64 X) := x0
              have y1 : (wr.drewN nq).cell? ⟨(ad.add (i * 2)).block, (ad.add (i * 2)).off + 1, none⟩ = some (.float .f32 Y) := x1
              clear HL9 x0 x1 z0 z1
              generalize wr.drewN nq = wq at HS2 y0 y1 ⊢
              go_wp2_with (first | (at_builtin; rw [← H42.out]; refine wpList_append_own_at _ rfl _ _ 31 rfl w5.heap.size 58 i0 (.agg #[.int .i64 0, .float .f32 0]) 2 16 Try.underlying31 HI0.out HZ0.out HZ1.out HZ2.out rfl (by decide) u11 (flatL L i).length (pntv (flatL L i)) rfl (HS2.out.out.alloc _) ⟨wq.heap.size, 0, none⟩ 1 1 [.int .i64 X, .float .f32 F42] (by first | rfl | simp) rfl (World.news_of_block (cs := #[.int .i64 X, .float .f32 F42]) (t := 58) (fr := (0, 0)) (heap_alloc_new wq _)) (by simp [Value.oneCell']) (by have := flatL_len L i; unfold maxLen; omega) (by have := flatL_len L i; omega) (by simp; have := HS2.out.below.size; omega) ?_; intro v1 w3' hown3 hgrow3 _ hat3))
              go_roundg k1
              case measure => omega
              case rel =>
                have hbb : Below w5.heap.size w5 w3' := (HS2.out.below.alloc HS2.out.below.size _).grown hgrow3 (Nat.le_trans HS2.out.below.size (by simp)) (fun k hk => own_base HS2.out.out k hk)
                refine ⟨i + 1, by simp, by rw [HMN1.out], by rw [HMX1.out], ⟨by have := HK.out; omega⟩, ⟨by omega⟩, ⟨⟨?_, hbb⟩⟩⟩
                rw [flatL_succ, HXX.out, ← H42.out, List.length_append, pntv_snoc]
                exact hown3
            · rw [decide_eq_false d2] at hc2
              have HMX1 : Aside0 (fl_of (mxV v (i + 1)) = fl_of (mxV v i)) := ⟨by rw [hmx, show max (mxV v i) (v i) = mxV v i by omega]⟩
              clear hmn hmx v0 v1 m0 m1 d1 d2
              generalize fl_of (v i) = Y at x1 z1 hs0 HMN1 hc1 hc2
              generalize fl_of (mnV v i) = NL at hc1 ⊢
              generalize fl_of (mxV v i) = NM at hc2 HMX1 ⊢
              go_wp2_with fail
              go_quiet (fail)
              have HS2 := Aside0.mk (HL9.out.moved (pw_below_drewN (Below.refl wr.heap.size wr) nq))
              have y0 : (wr.drewN nq).cell? (ad.add (i * 2)) = some (.int .i64 X) := x0
              have y1 : (wr.drewN nq).cell? ⟨(ad.add (i * 2)).block, (ad.add (i * 2)).off + 1, none⟩ = some (.float .f32 Y) := x1
              clear HL9 x0 x1 z0 z1
              generalize wr.drewN nq = wq at HS2 y0 y1 ⊢
              go_wp2_with (first | (at_builtin; rw [← H42.out]; refine wpList_append_own_at _ rfl _ _ 31 rfl w5.heap.size 58 i0 (.agg #[.int .i64 0, .float .f32 0]) 2 16 Try.underlying31 HI0.out HZ0.out HZ1.out HZ2.out rfl (by decide) u11 (flatL L i).length (pntv (flatL L i)) rfl (HS2.out.out.alloc _) ⟨wq.heap.size, 0, none⟩ 1 1 [.int .i64 X, .float .f32 F42] (by first | rfl | simp) rfl (World.news_of_block (cs := #[.int .i64 X, .float .f32 F42]) (t := 58) (fr := (0, 0)) (heap_alloc_new wq _)) (by simp [Value.oneCell']) (by have := flatL_len L i; unfold maxLen; omega) (by have := flatL_len L i; omega) (by simp; have := HS2.out.below.size; omega) ?_; intro v1 w3' hown3 hgrow3 _ hat3))
              go_roundg k1
              case measure => omega
              case rel =>
                have hbb : Below w5.heap.size w5 w3' := (HS2.out.below.alloc HS2.out.below.size _).grown hgrow3 (Nat.le_trans HS2.out.below.size (by simp)) (fun k hk => own_base HS2.out.out k hk)
                refine ⟨i + 1, by simp, by rw [HMN1.out], by rw [HMX1.out], ⟨by have := HK.out; omega⟩, ⟨by omega⟩, ⟨⟨?_, hbb⟩⟩⟩
                rw [flatL_succ, HXX.out, ← H42.out, List.length_append, pntv_snoc]
                exact hown3
          · rw [decide_eq_false d1] at hc1
            have HMN1 : Aside0 (fl_of (mnV v (i + 1)) = fl_of (mnV v i)) := ⟨by rw [hmn, show min (mnV v i) (v i) = mnV v i by omega]⟩
            by_cases d2 : mxV v i < v i
            · rw [decide_eq_true d2] at hc2
              have HMX1 : Aside0 (fl_of (mxV v (i + 1)) = fl_of (v i)) := ⟨by rw [hmx, show max (mxV v i) (v i) = v i by omega]⟩
              clear hmn hmx v0 v1 m0 m1 d1 d2
              generalize fl_of (v i) = Y at x1 z1 hs0 HMX1 hc1 hc2
              generalize fl_of (mnV v i) = NL at hc1 HMN1 ⊢
              generalize fl_of (mxV v i) = NM at hc2 ⊢
              go_wp2_with fail
              go_quiet (fail)
              have HS2 := Aside0.mk (HL9.out.moved (pw_below_drewN (Below.refl wr.heap.size wr) nq))
              have y0 : (wr.drewN nq).cell? (ad.add (i * 2)) = some (.int .i64 X) := x0
              have y1 : (wr.drewN nq).cell? ⟨(ad.add (i * 2)).block, (ad.add (i * 2)).off + 1, none⟩ = some (.float .f32 Y) := x1
              clear HL9 x0 x1 z0 z1
              generalize wr.drewN nq = wq at HS2 y0 y1 ⊢
              go_wp2_with (first | (at_builtin; rw [← H42.out]; refine wpList_append_own_at _ rfl _ _ 31 rfl w5.heap.size 58 i0 (.agg #[.int .i64 0, .float .f32 0]) 2 16 Try.underlying31 HI0.out HZ0.out HZ1.out HZ2.out rfl (by decide) u11 (flatL L i).length (pntv (flatL L i)) rfl (HS2.out.out.alloc _) ⟨wq.heap.size, 0, none⟩ 1 1 [.int .i64 X, .float .f32 F42] (by first | rfl | simp) rfl (World.news_of_block (cs := #[.int .i64 X, .float .f32 F42]) (t := 58) (fr := (0, 0)) (heap_alloc_new wq _)) (by simp [Value.oneCell']) (by have := flatL_len L i; unfold maxLen; omega) (by have := flatL_len L i; omega) (by simp; have := HS2.out.below.size; omega) ?_; intro v1 w3' hown3 hgrow3 _ hat3))
              go_roundg k1
              case measure => omega
              case rel =>
                have hbb : Below w5.heap.size w5 w3' := (HS2.out.below.alloc HS2.out.below.size _).grown hgrow3 (Nat.le_trans HS2.out.below.size (by simp)) (fun k hk => own_base HS2.out.out k hk)
                refine ⟨i + 1, by simp, by rw [HMN1.out], by rw [HMX1.out], ⟨by have := HK.out; omega⟩, ⟨by omega⟩, ⟨⟨?_, hbb⟩⟩⟩
                rw [flatL_succ, HXX.out, ← H42.out, List.length_append, pntv_snoc]
                exact hown3
            · rw [decide_eq_false d2] at hc2
              have HMX1 : Aside0 (fl_of (mxV v (i + 1)) = fl_of (mxV v i)) := ⟨by rw [hmx, show max (mxV v i) (v i) = mxV v i by omega]⟩
              clear hmn hmx v0 v1 m0 m1 d1 d2
              generalize fl_of (v i) = Y at x1 z1 hs0 hc1 hc2
              generalize fl_of (mnV v i) = NL at hc1 HMN1 ⊢
              generalize fl_of (mxV v i) = NM at hc2 HMX1 ⊢
              go_wp2_with fail
              go_quiet (fail)
              have HS2 := Aside0.mk (HL9.out.moved (pw_below_drewN (Below.refl wr.heap.size wr) nq))
              have y0 : (wr.drewN nq).cell? (ad.add (i * 2)) = some (.int .i64 X) := x0
              have y1 : (wr.drewN nq).cell? ⟨(ad.add (i * 2)).block, (ad.add (i * 2)).off + 1, none⟩ = some (.float .f32 Y) := x1
              clear HL9 x0 x1 z0 z1
              generalize wr.drewN nq = wq at HS2 y0 y1 ⊢
              go_wp2_with (first | (at_builtin; rw [← H42.out]; refine wpList_append_own_at _ rfl _ _ 31 rfl w5.heap.size 58 i0 (.agg #[.int .i64 0, .float .f32 0]) 2 16 Try.underlying31 HI0.out HZ0.out HZ1.out HZ2.out rfl (by decide) u11 (flatL L i).length (pntv (flatL L i)) rfl (HS2.out.out.alloc _) ⟨wq.heap.size, 0, none⟩ 1 1 [.int .i64 X, .float .f32 F42] (by first | rfl | simp) rfl (World.news_of_block (cs := #[.int .i64 X, .float .f32 F42]) (t := 58) (fr := (0, 0)) (heap_alloc_new wq _)) (by simp [Value.oneCell']) (by have := flatL_len L i; unfold maxLen; omega) (by have := flatL_len L i; omega) (by simp; have := HS2.out.below.size; omega) ?_; intro v1 w3' hown3 hgrow3 _ hat3))
              go_roundg k1
              case measure => omega
              case rel =>
                have hbb : Below w5.heap.size w5 w3' := (HS2.out.below.alloc HS2.out.below.size _).grown hgrow3 (Nat.le_trans HS2.out.below.size (by simp)) (fun k hk => own_base HS2.out.out k hk)
                refine ⟨i + 1, by simp, by rw [HMN1.out], by rw [HMX1.out], ⟨by have := HK.out; omega⟩, ⟨by omega⟩, ⟨⟨?_, hbb⟩⟩⟩
                rw [flatL_succ, HXX.out, ← H42.out, List.length_append, pntv_snoc]
                exact hown3
      · obtain rfl : i = n := by have := HI.out; omega
        have hb0 : decide ((i : Int) < (i : Int)) = false := decide_eq_false (by omega)
        obtain ⟨A6, c6, e6, hc6, hF⟩ := C_own58 (flatL_len L i) (by have := HL9.out.out; rwa [flatL_len] at this)
        subst e6
        have HE6 := Aside0.mk (below_then HE5.out HE5.out.size HL9.out.below)
        have HX6 := Aside0.mk (Kd.C_below HX5.out HL9.out.below)
        have HB6 := Aside0.mk (Kd.C_below HB5.out HL9.out.below)
        have HC6 := Aside0.mk hc6
        have HF6 := Aside0.mk hF
        clear hc6 hF
        go_wp2_with fail
        obtain ⟨q1, q2, q3, q4⟩ := Q.out
        rw [q4]
        clear q1 q2 q3 q4
        with_reducible refine (smooth_s A6 c6 i (flatL L i) h (2 * (h : Int) + 1) wr HF.out (flatL_len L i) HF6.out HC6.out rfl H7.out).mono ?_
        rw [HFLAT.out]
        rintro e w7 ⟨A7, c7, rfl, hc7, hY, hb⟩
        have HE7 := Aside0.mk (below_then HE6.out HE6.out.size hb)
        have HX7 := Aside0.mk (Kd.C_below HX6.out hb)
        have HB7 := Aside0.mk (Kd.C_below HB6.out hb)
        have HF7 := Aside0.mk (Kd.C_below HF6.out hb)
        have HG7 := Aside0.mk hY
        clear hc7 hY hb hb0 hlt HL9 HK HI
        have HZZ : Aside0 ((FloatKind.f32.format.order 1109917696 1109917696 == some Ordering.eq) = true) := ⟨by decide +kernel⟩
        go_wp2_with fail
        go_loopg [17] (i + 1) (fun kq v17 w' => ∃ j : Nat, v17 = .int .i64 (j : Int) ∧ Aside0 (kq + j = i + 1) ∧ Aside0 (j ≤ i) ∧ Aside0 (Drawn0 w7 w'))
        case atStart => exact ⟨0, rfl, ⟨by omega⟩, ⟨by omega⟩, ⟨Drawn0.refl _⟩⟩
        case round =>
          obtain ⟨j, rfl, HK2, HJ, HD⟩ := hrel
          cases gk with
          | zero => exact absurd HK2.out (by have := HJ.out; omega)
          | succ k2 =>
            by_cases hj : j < i
            · have hb1 : decide ((j : Int) < (i : Int)) = true := decide_eq_true (by omega)
              obtain ⟨nd, rfl⟩ := HD.out.out
              obtain ⟨ad, e1, x0, x1⟩ := at_T58 HX7.out (j : Int) (by omega) (by omega)
              cases e1
              obtain ⟨ad', e2, b0, b1⟩ := at_T58 HB7.out (j : Int) (by omega) (by omega)
              cases e2
              obtain ⟨ad2, e3, f0, f1⟩ := at_T58 HF7.out (j : Int) (by omega) (by omega)
              cases e3
              obtain ⟨ad3, e4, g0, g1⟩ := at_T58 HG7.out (j : Int) (by omega) (by omega)
              cases e4
              rw [Int.toNat_natCast] at x0 x1 b0 b1 f0 f1 g0 g1
              have eF : rd_T58 (flatL L i) (j : Int) = ⟨(L.getD j z58).f0, 1109917696⟩ := flatL_at L i j hj
              have eB : rd_T58 (smoothL L h i) (j : Int) = ⟨(L.getD j z58).f0, fl_quo (sumN L h j) (fl_of ((nearL L h j).length : Int))⟩ := smoothL_at L h i j hj
              have eX : (rd_T58 L (j : Int)).f0 = (L.getD j z58).f0 := rfl
              rw [eX] at x0
              rw [eB] at b0 b1
              rw [eF] at f0 f1 g0 g1
              obtain ⟨o1, o2⟩ := HMEAN.out j hj
              simp only [] at b0 b1 f0 f1 g0 g1
              generalize (L.getD j z58).f0 = X at x0 b0 f0 g0
              generalize fl_quo (sumN L h j) (fl_of ((nearL L h j).length : Int)) = Q9 at b1 o1 o2
              have hz := HZZ.out
              rw [← H42.out] at f1 g1 hz
              have p0 : (0 : Int) ≤ (j : Int) := by omega
              have p1 : (j : Int) < (i : Int) := by omega
              have p2 : (j : Int) < 8796093022208 := by have := H64.out; omega
              clear eF eB eX x1
              go_wp2_with fail
              go_quiet (fail)
              go_wp2_with fail
              go_roundg k2
              case measure => omega
              case rel => exact ⟨j + 1, by simp, ⟨by have := HK2.out; omega⟩, ⟨by omega⟩, ⟨⟨_, rfl⟩⟩⟩
            · obtain rfl : j = i := by have := HJ.out; omega
              have hb1 : decide ((j : Int) < (j : Int)) = false := decide_eq_false (by omega)
              go_wp2
              go_ret
              exact ⟨rfl, below_then HE7.out HE7.out.size HD.out.below⟩
end Go.Proofs.Ytfhgomcfpmbhnaa.Y
end

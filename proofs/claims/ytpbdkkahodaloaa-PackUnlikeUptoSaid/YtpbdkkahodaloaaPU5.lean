-- Part 5 of the texts of the claim PU (wrote by programs: words of the kit's print.sh, printed functions; and my own texts; joined by wip/tools/pack.py).
import Derived.Test.YtpbdkkahodaloaaPU4

section
namespace Go.Proofs.Ytpbdkkahodaloaa.PS
open Go.RowKit Go.Proofs.YtpbdkkahodaloaaW.PrintWords Go.Proofs.YtpbdkkahodaloaaW.PrintLast Go.Proofs.YtpbdkkahodaloaaW.PrintMore
attribute [local go_sem] max2_int min2_int max_two min_two max_three min_three max_four min_four
set_option linter.unusedVariables false
set_option linter.unusedSimpArgs false
def pack_reader_given.j0 : Nat → Bool → List Int → Int → Int → Int → Option (Int × Int × Int × Int)
 | 0, _, _, _, _, _ => none
 | k + 1, x19, x1000, x1001, x1002, x1003 => if x19 = true then (some (0, x1001, x1002, x1003)) else ((pack_reader_int.f k x1000 x1001 x1002 x1003).bind fun bt182 => (if bt182.1 = 0 then ((pack_reader_fail.f x1000 bt182.2.1 bt182.2.2.1 bt182.2.2.2 71 x1001).bind fun bt186 => (some (bt182.1, bt186.1, bt186.2.1, bt186.2.2))) else (some (bt182.1, bt182.2.1, bt182.2.2.1, bt182.2.2.2))))
def pack_reader_given.f (k : Nat) (s0_0 : List Int) (s0_1 : Int) (s0_2 : Int) (s0_3 : Int) (a1 : Int) (a2 : Int) : Option (Int × Int × Int × Int) := if (Go.bits .and .u8 a1 a2) = 0 then (pack_reader_given.j0 k true s0_0 s0_1 s0_2 s0_3) else (pack_reader_given.j0 k (s0_2 != 0) s0_0 s0_1 s0_2 s0_3)
theorem pack_reader_given.mono_l : ∀ k, (∀ y0 y1 y2 y3 y4, LeO (pack_reader_given.j0 k y0 y1 y2 y3 y4) (pack_reader_given.j0 (k + 1) y0 y1 y2 y3 y4))
 | 0 => fun _ _ _ _ _ r h => by simp [pack_reader_given.j0] at h
 | k + 1 => by
  have ih0 := pack_reader_given.mono_l k
  ·intro y0 y1 y2 y3 y4
   unfold pack_reader_given.j0
   repeat' first
   | (with_reducible exact ih0 _ _ _ _ _)
   | (with_reducible exact pack_reader_int.mono _ _ _ _ _)
   | (with_reducible exact LeO.refl _)
   | (with_reducible exact LeO.none _)
   | (with_reducible refine LeO.ite ?_ ?_)
   | (with_reducible refine LeO.bind ?_ (fun _ => ?_))
   | exact ih0 _ _ _ _ _
   | exact pack_reader_int.mono _ _ _ _ _
   | exact LeO.none _
   | refine LeO.ite ?_ ?_
   | refine LeO.bind ?_ (fun _ => ?_)
theorem pack_reader_given.mono : ∀ a0 a1 a2 a3 a4 a5 k, LeO (pack_reader_given.f k a0 a1 a2 a3 a4 a5) (pack_reader_given.f (k + 1) a0 a1 a2 a3 a4 a5) := by
 intro a0 a1 a2 a3 a4 a5 k
 have ih0 := pack_reader_given.mono_l k
 unfold pack_reader_given.f
 repeat' first
   | (with_reducible exact ih0 _ _ _ _ _)
   | (with_reducible exact pack_reader_int.mono _ _ _ _ _)
   | (with_reducible exact LeO.refl _)
   | (with_reducible exact LeO.none _)
   | (with_reducible refine LeO.ite ?_ ?_)
   | (with_reducible refine LeO.bind ?_ (fun _ => ?_))
   | exact ih0 _ _ _ _ _
   | exact pack_reader_int.mono _ _ _ _ _
   | exact LeO.none _
   | refine LeO.ite ?_ ?_
   | refine LeO.bind ?_ (fun _ => ?_)
set_option maxHeartbeats 8000000 in
set_option maxRecDepth 100000 in
theorem pack_reader_given.calls (k : Nat) (g : Nat) (s0_0 : List Int) (s0_1 : Int) (s0_2 : Int) (s0_3 : Int) (a1 : Int) (a2 : Int) (r1 : Int) (r2 : Int) (r3 : Int) (r4 : Int) (w0 w : World) (hI : IsS151 w0 w g s0_0 s0_1 s0_2 s0_3) (hB : Below w0.heap.size w0 w) (h : pack_reader_given.f k s0_0 s0_1 s0_2 s0_3 a1 a2 = some (r1, r2, r3, r4)) :
  Calls Try.prog 144 #[.pointer (some ⟨g, 0, none⟩), .int .u8 a1, .int .u8 a2] w fun e w' => e = .returned (.int .i64 r1) ∧ IsS151 w0 w' g s0_0 r2 r3 r4 ∧ Below w0.heap.size w0 w' ∧ KeepBut w w' g none := by
 have HI0 := Aside0.mk hI
 have HK := Aside0.mk (KeepBut.refl w g none)
 have HL := Aside0.mk hB.size
 clear hI
 have HW0 := Aside0.mk hB.size
 have HB := Aside0.mk hB
 clear hB
 have H : (if (Go.bits .and .u8 a1 a2) = 0 then (pack_reader_given.j0 k true s0_0 s0_1 s0_2 s0_3) else (pack_reader_given.j0 k (s0_2 != 0) s0_0 s0_1 s0_2 s0_3)) = some (r1, r2, r3, r4) := h
 clear h
 have HC4 := Aside0.mk H
 clear H
 go_enter Try.func144, Try.ntmps144
 go_upto_region 1 with (fail)
 go_cut [19] (fun v19 wc => ∃ (kq : Nat) (x19_3 : Bool), v19 = .bool x19_3 ∧ Aside0 (pack_reader_given.j0 kq x19_3 s0_0 s0_1 s0_2 s0_3 = some (r1, r2, r3, r4)) ∧ Aside0 (kq ≤ k) ∧ Aside0 (IsS151 w0 wc g s0_0 s0_1 s0_2 s0_3) ∧ Aside0 (KeepBut w wc g none) ∧ Aside0 (Below w0.heap.size w0 wc))
 case first =>
  have H := HC4.out
  clear HC4
  by_cases c5 : (Go.bits .and .u8 a1 a2) = 0
  ·rw [if_pos c5] at H
   have c5b0 : ((Go.bits .and .u8 a1 a2) == 0) = true := beq_iff_eq.mpr c5
   have c5b1 : ((Go.bits .and .u8 a1 a2) != 0) = false := bne_eq_false_iff_eq.mpr c5
   clear c5
   (first | rw [c5b0] | (simp only [i64_w, i32_w]; rw [c5b0]) | skip)
   have H' := Aside0.mk H
   clear H
   go_wp2
   go_meet
   case rel => exact ⟨_, (true), (by first | rfl | (simp; done) | (simp [*]; done)), H', ⟨by first | omega | exact Nat.le_refl _⟩, ⟨by repeat (first | (with_reducible first | exact HI0.out | apply IsS151.alloc | apply IsS151.drewN | apply IsS151.drew | apply IsS151.set_1 | apply IsS151.set_2 | apply IsS151.set_3) | exact HI0.out)⟩, ⟨by repeat (first | (with_reducible first | exact HK.out | apply KeepBut.set_ | apply keep_drewN | apply keep_drew | apply keep_alloc) | exact HK.out)⟩, ⟨by repeat (first | (with_reducible first | exact HB.out | apply below_alloc | apply pw_below_drewN | apply below_drew1 | refine below_set ?_ (IsS151.ge HI0.out)) | exact HB.out)⟩⟩
  ·rw [if_neg c5] at H
   have c5b0 : ((Go.bits .and .u8 a1 a2) == 0) = false := beq_eq_false_iff_ne.mpr c5
   have c5b1 : ((Go.bits .and .u8 a1 a2) != 0) = true := bne_iff_ne.mpr c5
   (first | rw [c5b0] | (simp only [i64_w, i32_w]; rw [c5b0]) | skip)
   have H' := Aside0.mk H
   clear H
   obtain ⟨ASz6_0, cSz6_0, HGz6, hgz6, HSz6_0, hcap_⟩ := HI0.out
   have hcz6_0 := cellS151_0 HGz6
   have hcz6_1 := cellS151_1 HGz6
   have hcz6_2 := cellS151_2 HGz6
   have hcz6_3 := cellS151_3 HGz6
   have hfz6_1 := blk_frozen HGz6 1
   have hfz6_2 := blk_frozen HGz6 2
   have hfz6_3 := blk_frozen HGz6 3
   clear HGz6 hgz6
   go_wp2
   go_meet
   case rel => exact ⟨_, ((s0_2 != 0)), (by first | rfl | (simp; done) | (simp [*]; done)), H', ⟨by first | omega | exact Nat.le_refl _⟩, ⟨by repeat (first | (with_reducible first | exact HI0.out | apply IsS151.alloc | apply IsS151.drewN | apply IsS151.drew | apply IsS151.set_1 | apply IsS151.set_2 | apply IsS151.set_3) | exact HI0.out)⟩, ⟨by repeat (first | (with_reducible first | exact HK.out | apply KeepBut.set_ | apply keep_drewN | apply keep_drew | apply keep_alloc) | exact HK.out)⟩, ⟨by repeat (first | (with_reducible first | exact HB.out | apply below_alloc | apply pw_below_drewN | apply below_drew1 | refine below_set ?_ (IsS151.ge HI0.out)) | exact HB.out)⟩⟩
 case rest =>
  clear HC4
  try clear c1
  try clear p2
  try clear c5
  try clear c5b0
  try clear c5b1
  try clear hcz6_0
  try clear hcz6_1
  try clear hcz6_2
  try clear hcz6_3
  try clear hfz6_1
  try clear hfz6_2
  try clear hfz6_3
  obtain ⟨kq, x19_3, rfl, HA, HJ3, HI0, HK, HB⟩ := hcut
  cases kq with
  | zero => exact absurd HA.out (by simp [pack_reader_given.j0])
  | succ kj3 =>
   have H := HA.out
   clear HA
   simp only [pack_reader_given.j0] at H
   by_cases c7 : x19_3 = true
   ·subst c7
    have H1 : (some (0, s0_1, s0_2, s0_3)) = some (r1, r2, r3, r4) := by rw [if_pos rfl] at H; exact H
    clear H
    have H := H1
    clear H1
    simp only [Option.some.injEq, Prod.mk.injEq] at H
    obtain ⟨rfl, rfl, rfl, rfl⟩ := H
    go_wp2
    go_ret
    exact ⟨by first | rfl | (simp [errW_none, errW_some] <;> rfl) | (simp [*, errW_none, errW_some] <;> rfl), by repeat (first | (with_reducible first | exact HI0.out | apply IsS151.alloc | apply IsS151.drewN | apply IsS151.drew | apply IsS151.set_1 | apply IsS151.set_2 | apply IsS151.set_3) | exact HI0.out), by repeat (first | (with_reducible first | exact HB.out | apply below_alloc | apply pw_below_drewN | apply below_drew1 | refine below_set ?_ (IsS151.ge HI0.out)) | exact HB.out), by repeat (first | (with_reducible first | exact HK.out | apply KeepBut.set_ | apply keep_drewN | apply keep_drew | apply keep_alloc) | exact HK.out)⟩
   ·replace c7 := Bool.eq_false_iff.mpr c7
    subst c7
    have H1 : ((pack_reader_int.f kj3 s0_0 s0_1 s0_2 s0_3).bind fun bt182 => (if bt182.1 = 0 then ((pack_reader_fail.f s0_0 bt182.2.1 bt182.2.2.1 bt182.2.2.2 71 s0_1).bind fun bt186 => (some (bt182.1, bt186.1, bt186.2.1, bt186.2.2))) else (some (bt182.1, bt182.2.1, bt182.2.2.1, bt182.2.2.2)))) = some (r1, r2, r3, r4) := by rw [if_neg (show ¬ (false = true) by decide)] at H; exact H
    clear H
    have H := H1
    clear H1
    replace H := Option.bind_eq_some_iff.mp H
    obtain ⟨⟨t182, t183, t184, t185⟩, A80, H⟩ := H
    replace H : (if t182 = 0 then ((pack_reader_fail.f s0_0 t183 t184 t185 71 s0_1).bind fun bt186 => (some (t182, bt186.1, bt186.2.1, bt186.2.2))) else (some (t182, t183, t184, t185))) = some (r1, r2, r3, r4) := H
    have A8 := Aside0.mk A80
    clear A80
    by_cases c9 : t182 = 0
    ·rw [if_pos c9] at H
     have c9b0 : (t182 == 0) = true := beq_iff_eq.mpr c9
     have c9b1 : (t182 != 0) = false := bne_eq_false_iff_eq.mpr c9
     clear c9
     replace H := Option.bind_eq_some_iff.mp H
     obtain ⟨⟨t186, t187, t188⟩, A100, H⟩ := H
     replace H : (some (t182, t186, t187, t188)) = some (r1, r2, r3, r4) := H
     have A10 := Aside0.mk A100
     clear A100
     simp only [Option.some.injEq, Prod.mk.injEq] at H
     obtain ⟨rfl, rfl, rfl, rfl⟩ := H
     obtain ⟨ASz11_0, cSz11_0, HGz11, hgz11, HSz11_0, hcap_⟩ := HI0.out
     have hcz11_0 := cellS151_0 HGz11
     have hcz11_1 := cellS151_1 HGz11
     have hcz11_2 := cellS151_2 HGz11
     have hcz11_3 := cellS151_3 HGz11
     have hfz11_1 := blk_frozen HGz11 1
     have hfz11_2 := blk_frozen HGz11 2
     have hfz11_3 := blk_frozen HGz11 3
     clear HGz11 hgz11
     go_wp2_with (first | ((with_reducible refine gate_callee (f := 93) rfl ?_); refine goesL_ (some 25) rfl rfl Try.func93 (by kernel_rfl) rfl #[.pointer (some ⟨g, 0, none⟩)] rfl agx ?_; (with_reducible refine (pack_reader_int.calls kj3 g s0_0 s0_1 s0_2 s0_3 t182 t183 t184 t185 w0 _ ?side1 ?side2 A8.out).mono ?_); (case side1 => repeat (first | (with_reducible first | exact HI0.out | apply IsS151.alloc | apply IsS151.drewN | apply IsS151.drew | apply IsS151.set_1 | apply IsS151.set_2 | apply IsS151.set_3) | exact HI0.out)); (case side2 => repeat (first | (with_reducible first | exact HB.out | apply below_alloc | apply pw_below_drewN | apply below_drew1 | refine below_set ?_ (IsS151.ge HI0.out)) | exact HB.out)); rintro e w12 ⟨rfl, hi, hb, hk⟩; refine ⟨_, rfl, ?_⟩; have n0_ := Aside0.mk (KeepBut.trans (by repeat (first | (with_reducible first | exact HK.out | apply KeepBut.set_ | apply keep_drewN | apply keep_drew | apply keep_alloc) | exact HK.out)) hk (.inl rfl)); have n1_ := Aside0.mk (hb); have n2_ := Aside0.mk (hi); clear HK; clear HB; clear HI0; have HK := n0_; have HB := n1_; have HI0 := n2_; clear n0_ n1_ n2_; (try clear hb); (try clear hb2); (try clear hk); (try clear hi)) | ((with_reducible refine gate_callee (f := 91) rfl ?_); refine goesL_ (some 30) rfl rfl Try.func91 (by kernel_rfl) rfl #[.pointer (some ⟨g, 0, none⟩), .int .i64 71, .int .i64 s0_1] rfl agx ?_; (with_reducible refine (pack_reader_fail.calls g s0_0 t183 t184 t185 71 s0_1 t186 t187 t188 w0 _ ?side1 ?side2 A10.out).mono ?_); (case side1 => repeat (first | (with_reducible first | exact HI0.out | apply IsS151.alloc | apply IsS151.drewN | apply IsS151.drew | apply IsS151.set_1 | apply IsS151.set_2 | apply IsS151.set_3) | exact HI0.out)); (case side2 => repeat (first | (with_reducible first | exact HB.out | apply below_alloc | apply pw_below_drewN | apply below_drew1 | refine below_set ?_ (IsS151.ge HI0.out)) | exact HB.out)); rintro e w13 ⟨rfl, hi, hb, hk⟩; refine ⟨_, rfl, ?_⟩; have n0_ := Aside0.mk (KeepBut.trans (by repeat (first | (with_reducible first | exact HK.out | apply KeepBut.set_ | apply keep_drewN | apply keep_drew | apply keep_alloc) | exact HK.out)) hk (.inl rfl)); have n1_ := Aside0.mk (hb); have n2_ := Aside0.mk (hi); clear HK; clear HB; clear HI0; have HK := n0_; have HB := n1_; have HI0 := n2_; clear n0_ n1_ n2_; (try clear hb); (try clear hb2); (try clear hk); (try clear hi)))
     go_ret
     exact ⟨by first | rfl | (simp [errW_none, errW_some] <;> rfl) | (simp [*, errW_none, errW_some] <;> rfl), by repeat (first | (with_reducible first | exact HI0.out | apply IsS151.alloc | apply IsS151.drewN | apply IsS151.drew | apply IsS151.set_1 | apply IsS151.set_2 | apply IsS151.set_3) | exact HI0.out), by repeat (first | (with_reducible first | exact HB.out | apply below_alloc | apply pw_below_drewN | apply below_drew1 | refine below_set ?_ (IsS151.ge HI0.out)) | exact HB.out), by repeat (first | (with_reducible first | exact HK.out | apply KeepBut.set_ | apply keep_drewN | apply keep_drew | apply keep_alloc) | exact HK.out)⟩
    ·rw [if_neg c9] at H
     have c9b0 : (t182 == 0) = false := beq_eq_false_iff_ne.mpr c9
     have c9b1 : (t182 != 0) = true := bne_iff_ne.mpr c9
     simp only [Option.some.injEq, Prod.mk.injEq] at H
     obtain ⟨rfl, rfl, rfl, rfl⟩ := H
     obtain ⟨ASz14_0, cSz14_0, HGz14, hgz14, HSz14_0, hcap_⟩ := HI0.out
     have hcz14_0 := cellS151_0 HGz14
     have hcz14_1 := cellS151_1 HGz14
     have hcz14_2 := cellS151_2 HGz14
     have hcz14_3 := cellS151_3 HGz14
     have hfz14_1 := blk_frozen HGz14 1
     have hfz14_2 := blk_frozen HGz14 2
     have hfz14_3 := blk_frozen HGz14 3
     clear HGz14 hgz14
     go_wp2_with (first | ((with_reducible refine gate_callee (f := 93) rfl ?_); refine goesL_ (some 25) rfl rfl Try.func93 (by kernel_rfl) rfl #[.pointer (some ⟨g, 0, none⟩)] rfl agx ?_; (with_reducible refine (pack_reader_int.calls kj3 g s0_0 s0_1 s0_2 s0_3 t182 t183 t184 t185 w0 _ ?side1 ?side2 A8.out).mono ?_); (case side1 => repeat (first | (with_reducible first | exact HI0.out | apply IsS151.alloc | apply IsS151.drewN | apply IsS151.drew | apply IsS151.set_1 | apply IsS151.set_2 | apply IsS151.set_3) | exact HI0.out)); (case side2 => repeat (first | (with_reducible first | exact HB.out | apply below_alloc | apply pw_below_drewN | apply below_drew1 | refine below_set ?_ (IsS151.ge HI0.out)) | exact HB.out)); rintro e w15 ⟨rfl, hi, hb, hk⟩; refine ⟨_, rfl, ?_⟩; have n0_ := Aside0.mk (KeepBut.trans (by repeat (first | (with_reducible first | exact HK.out | apply KeepBut.set_ | apply keep_drewN | apply keep_drew | apply keep_alloc) | exact HK.out)) hk (.inl rfl)); have n1_ := Aside0.mk (hb); have n2_ := Aside0.mk (hi); clear HK; clear HB; clear HI0; have HK := n0_; have HB := n1_; have HI0 := n2_; clear n0_ n1_ n2_; (try clear hb); (try clear hb2); (try clear hk); (try clear hi)))
     go_ret
     exact ⟨by first | rfl | (simp [errW_none, errW_some] <;> rfl) | (simp [*, errW_none, errW_some] <;> rfl), by repeat (first | (with_reducible first | exact HI0.out | apply IsS151.alloc | apply IsS151.drewN | apply IsS151.drew | apply IsS151.set_1 | apply IsS151.set_2 | apply IsS151.set_3) | exact HI0.out), by repeat (first | (with_reducible first | exact HB.out | apply below_alloc | apply pw_below_drewN | apply below_drew1 | refine below_set ?_ (IsS151.ge HI0.out)) | exact HB.out), by repeat (first | (with_reducible first | exact HK.out | apply KeepBut.set_ | apply keep_drewN | apply keep_drew | apply keep_alloc) | exact HK.out)⟩
end Go.Proofs.Ytpbdkkahodaloaa.PS
end

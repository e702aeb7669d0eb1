-- Part 4 of the texts of the claim CL (wrote by programs: words of the kit's print.sh, printed functions; and my own texts; joined by wip/tools/pack.py).
import Derived.Test.YtfhgomcfpmbhnaaCL3
import Derived.Shelf.Strings.Repeat

section
namespace Go.Proofs
open Go.Shelf
def Try.lays105_ren : Go.Shelf.Ren := ⟨fun | 105 => 49 | 212 => 64 | 99 => 65 | 165 => 66 | 166 => 67 | 170 => 68 | 169 => 69 | 263 => 75 | 264 => 76 | 206 => 77 | 240 => 78 | 241 => 79 | 276 => 80 | 277 => 81 | n => n, fun | 9 => 9 | 3 => 3 | 4 => 4 | 20 => 20 | 0 => 0 | 46 => 97 | 109 => 103 | 5 => 5 | 72 => 108 | 76 => 112 | 51 => 35 | 146 => 122 | 53 => 71 | 148 => 124 | 70 => 106 | 37 => 88 | 75 => 111 | 127 => 126 | 164 => 127 | 80 => 115 | n => n, fun | n => n⟩
theorem Try.lays105 : Go.Proofs.Lays.n105 Try.prog Try.lays105_ren := {
  mixed := by kernel_rfl
  f99 := Try.func65.trans (congrArg some (by kernel_rfl))
  f105 := Try.func49.trans (congrArg some (by kernel_rfl))
  f165 := Try.func66.trans (congrArg some (by kernel_rfl))
  f166 := Try.func67.trans (congrArg some (by kernel_rfl))
  f169 := Try.func69.trans (congrArg some (by kernel_rfl))
  f170 := Try.func68.trans (congrArg some (by kernel_rfl))
  f206 := Try.func77.trans (congrArg some (by kernel_rfl))
  f212 := Try.func64.trans (congrArg some (by kernel_rfl))
  f240 := Try.func78.trans (congrArg some (by kernel_rfl))
  f241 := Try.func79.trans (congrArg some (by kernel_rfl))
  f263 := Try.func75.trans (congrArg some (by kernel_rfl))
  f264 := Try.func76.trans (congrArg some (by kernel_rfl))
  f276 := Try.func80.trans (congrArg some (by kernel_rfl))
  f277 := Try.func81.trans (congrArg some (by kernel_rfl))
  t0 := Try.underlying0
  a0 := Try.isAgg0
  z0 := Try.sizeOf0
  v0 := Try.zeroValue0
  t3 := Try.underlying3
  a3 := Try.isAgg3
  z3 := Try.sizeOf3
  v3 := Try.zeroValue3
  t4 := Try.underlying4
  a4 := Try.isAgg4
  z4 := Try.sizeOf4
  v4 := Try.zeroValue4
  t5 := Try.underlying5
  a5 := Try.isAgg5
  z5 := Try.sizeOf5
  v5 := Try.zeroValue5
  t9 := Try.underlying9
  a9 := Try.isAgg9
  z9 := Try.sizeOf9
  v9 := Try.zeroValue9
  t20 := Try.underlying20
  a20 := Try.isAgg20
  z20 := Try.sizeOf20
  v20 := Try.zeroValue20
  t37 := Try.underlying88
  a37 := Try.isAgg88
  z37 := Try.sizeOf88
  v37 := Try.zeroValue88
  t46 := Try.underlying97
  a46 := Try.isAgg97
  z46 := Try.sizeOf97
  v46 := Try.zeroValue97
  t51 := Try.underlying35
  a51 := Try.isAgg35
  z51 := Try.sizeOf35
  v51 := Try.zeroValue35
  t53 := Try.underlying71
  a53 := Try.isAgg71
  z53 := Try.sizeOf71
  v53 := Try.zeroValue71
  t70 := Try.underlying106
  a70 := Try.isAgg106
  z70 := Try.sizeOf106
  v70 := Try.zeroValue106
  t72 := Try.underlying108
  a72 := Try.isAgg108
  z72 := Try.sizeOf108
  v72 := Try.zeroValue108
  t75 := Try.underlying111
  a75 := Try.isAgg111
  z75 := Try.sizeOf111
  v75 := Try.zeroValue111
  t76 := Try.underlying112
  a76 := Try.isAgg112
  z76 := Try.sizeOf112
  v76 := Try.zeroValue112
  t109 := Try.underlying103
  a109 := Try.isAgg103
  z109 := Try.sizeOf103
  v109 := Try.zeroValue103
  t127 := Try.underlying126
  a127 := Try.isAgg126
  z127 := Try.sizeOf126
  v127 := Try.zeroValue126
  t146 := Try.underlying122
  a146 := Try.isAgg122
  z146 := Try.sizeOf122
  v146 := Try.zeroValue122
  t148 := Try.underlying124
  a148 := Try.isAgg124
  z148 := Try.sizeOf124
  v148 := Try.zeroValue124
  t164 := Try.underlying127
  a164 := Try.isAgg127
  z164 := Try.sizeOf127
  v164 := Try.zeroValue127 }
theorem Try.Builder_Extra_105 : Builder.Extra Try.prog Try.lays105_ren := {
  sizeBuilder := by kernel_rfl
  liesBuilder := by kernel_rfl
  t5 := Try.underlying5
  a5 := Try.isAgg5
  z5 := Try.sizeOf5
  v5 := Try.zeroValue5
  infoByte := by kernel_rfl
  cellsByte := by kernel_rfl
  sizeByte := by kernel_rfl
  neB5 := by decide }
open Go.RowKit Go.Lib in

theorem Try.strings_Repeat_main (s : ByteArray) (c : Nat) (w : World) (hc2 : 2 ≤ c) (hc : c ≤ 9223372036854775807) (hlen : s.size * c ≤ 140737488355328) (h0 : 0 < s.size) :
    Calls Try.prog 49 #[.string s, .int .i64 c] w fun e w' => e = .returned (.string ⟨(Lib.repeatL s.data.toList c).toArray⟩) ∧ Below w.heap.size w w' := Any.strings_Repeat_main Try.lays105 Try.Builder_Extra_105 s c w hc2 hc hlen h0
end Go.Proofs
end

section
namespace Go.Proofs.Ytfhgomcfpmbhnaa.PS
open Go.RowKit Go.Proofs.YtfhgomcfpmbhnaaW.PrintWords Go.Proofs.YtfhgomcfpmbhnaaW.PrintLast Go.Proofs.YtfhgomcfpmbhnaaW.PrintMore
attribute [local go_sem] frun_add frun_sub frun_mul frun_quo frun_neg frun_of frun_same frun_store frun_bits frun_from
attribute [local go_sem] max2_int min2_int max_two min_two max_three min_three max_four min_four
set_option linter.unusedVariables false
set_option linter.unusedSimpArgs false
def levyref17_Part.f (a0 : Int) : Option (Int) := (levyref17_parts.f a0).bind fun bt217 => (if bt217.2.2 ≥ 0 then (if 0 ≤ (IntKind.u64.wrap (bt217.2.2)) then (some (wrap64 (shl .u64 bt217.2.1 (IntKind.u64.wrap (bt217.2.2))))) else (none)) else (if bt217.2.2 < (-40) then (some 0) else (if 0 ≤ (IntKind.u64.wrap (wrap64 (-bt217.2.2))) then (some (wrap64 (shr .u64 bt217.2.1 (IntKind.u64.wrap (wrap64 (-bt217.2.2)))))) else (none))))
set_option maxHeartbeats 8000000 in
set_option maxRecDepth 100000 in
theorem levyref17_Part.calls (a0 : Int) (r : Int) (w : World) (h : levyref17_Part.f a0 = some r) :
  Calls Try.prog 74 #[.int .u32 a0] w fun e w' => e = .returned (.int .i64 r) ∧ Drawn0 w w' := by
 have H : ((levyref17_parts.f a0).bind fun bt217 => (if bt217.2.2 ≥ 0 then (if 0 ≤ (IntKind.u64.wrap (bt217.2.2)) then (some (wrap64 (shl .u64 bt217.2.1 (IntKind.u64.wrap (bt217.2.2))))) else (none)) else (if bt217.2.2 < (-40) then (some 0) else (if 0 ≤ (IntKind.u64.wrap (wrap64 (-bt217.2.2))) then (some (wrap64 (shr .u64 bt217.2.1 (IntKind.u64.wrap (wrap64 (-bt217.2.2)))))) else (none))))) = some r := h
 clear h
 replace H := Option.bind_eq_some_iff.mp H
 obtain ⟨⟨t217, t218, t219⟩, A20, H⟩ := H
 replace H : (if t219 ≥ 0 then (if 0 ≤ (IntKind.u64.wrap (t219)) then (some (wrap64 (shl .u64 t218 (IntKind.u64.wrap (t219))))) else (none)) else (if t219 < (-40) then (some 0) else (if 0 ≤ (IntKind.u64.wrap (wrap64 (-t219))) then (some (wrap64 (shr .u64 t218 (IntKind.u64.wrap (wrap64 (-t219)))))) else (none)))) = some r := H
 have A2 := Aside0.mk A20
 clear A20
 by_cases c3 : t219 ≥ 0
 ·rw [if_pos c3] at H
  have c3b0 : decide (0 ≤ t219) = true := decide_eq_true c3
  clear c3
  obtain ⟨ji4, hji4⟩ : ∃ j_ : Int, (IntKind.u64.wrap (t219)) = j_ := ⟨_, rfl⟩
  replace H : (if 0 ≤ (ji4) then (some (wrap64 (shl .u64 t218 (ji4)))) else (none)) = some r := by first | (rw [hji4] at H; exact H) | (simp only [hji4] at H ⊢; exact H)
  (try rw [hji4] at A2)
  by_cases c5 : 0 ≤ (ji4)
  ·rw [if_pos c5] at H
   have c5b0 := eq_true c5
   have c5b1 : decide (0 ≤ (ji4)) = true := decide_eq_true c5
   clear c5
   obtain ⟨ji6, hji6⟩ : ∃ j_ : Int, (shl .u64 t218 (ji4)) = j_ := ⟨_, rfl⟩
   replace H : (some (wrap64 (ji6))) = some r := by first | (rw [hji6] at H; exact H) | (simp only [hji6] at H ⊢; exact H)
   (try rw [hji6] at A2)
   have hji6_ : (IntKind.u64.wrap (t218 * 2 ^ min (ji4).toNat 64)) = ji6 := hji6
   have hji6z : (ji4) ≤ 64 → (IntKind.u64.wrap (t218 * 2 ^ (ji4).toNat)) = ji6 := shl_small hji6
   obtain rfl := Option.some.inj H
   go_enter Try.func74, Try.ntmps74
   go_wp2_with (first | ((with_reducible refine gate_callee (f := 73) rfl ?_); refine goesL_ (some 8) rfl rfl Try.func73 (by kernel_rfl) rfl #[.int .u32 a0] rfl agx ?_; (with_reducible refine (levyref17_parts.calls a0 t217 t218 t219 _ A2.out).mono ?_); rintro e w' ⟨rfl, ⟨nd, rfl⟩⟩; refine ⟨_, rfl, ?_⟩))
   go_ret
   exact ⟨by first | rfl | (simp; done) | (simp only [← hji4, ← hji6] <;> (first | rfl | simp)) | (simp [*]; done), by repeat (first | exact Drawn0.refl _ | apply Drawn0.step)⟩
  ·rw [if_neg c5] at H
   exact absurd H (by simp)
 ·rw [if_neg c3] at H
  have c3b0 : decide (0 ≤ t219) = false := decide_eq_false c3
  clear c3
  by_cases c7 : t219 < (-40)
  ·rw [if_pos c7] at H
   have c7b0 : decide (t219 < (-40)) = true := decide_eq_true c7
   clear c7
   obtain rfl := Option.some.inj H
   go_enter Try.func74, Try.ntmps74
   go_wp2_with (first | ((with_reducible refine gate_callee (f := 73) rfl ?_); refine goesL_ (some 8) rfl rfl Try.func73 (by kernel_rfl) rfl #[.int .u32 a0] rfl agx ?_; (with_reducible refine (levyref17_parts.calls a0 t217 t218 t219 _ A2.out).mono ?_); rintro e w' ⟨rfl, ⟨nd, rfl⟩⟩; refine ⟨_, rfl, ?_⟩))
   go_ret
   exact ⟨by first | rfl | (simp; done) | (simp [*]; done), by repeat (first | exact Drawn0.refl _ | apply Drawn0.step)⟩
  ·rw [if_neg c7] at H
   have c7b0 : decide (t219 < (-40)) = false := decide_eq_false c7
   clear c7
   obtain ⟨ji8, hji8⟩ : ∃ j_ : Int, (IntKind.u64.wrap (wrap64 (-t219))) = j_ := ⟨_, rfl⟩
   replace H : (if 0 ≤ (ji8) then (some (wrap64 (shr .u64 t218 (ji8)))) else (none)) = some r := by first | (rw [hji8] at H; exact H) | (simp only [hji8] at H ⊢; exact H)
   (try rw [hji8] at A2)
   by_cases c9 : 0 ≤ (ji8)
   ·rw [if_pos c9] at H
    have c9b0 := eq_true c9
    have c9b1 : decide (0 ≤ (ji8)) = true := decide_eq_true c9
    clear c9
    obtain ⟨ji10, hji10⟩ : ∃ j_ : Int, (shr .u64 t218 (ji8)) = j_ := ⟨_, rfl⟩
    replace H : (some (wrap64 (ji10))) = some r := by first | (rw [hji10] at H; exact H) | (simp only [hji10] at H ⊢; exact H)
    (try rw [hji10] at A2)
    have hji10_ : (t218 / 2 ^ min (ji8).toNat 64) = ji10 := hji10
    have hji10z : (ji8) ≤ 64 → (t218 / 2 ^ (ji8).toNat) = ji10 := shr_small hji10
    obtain rfl := Option.some.inj H
    go_enter Try.func74, Try.ntmps74
    go_wp2_with (first | ((with_reducible refine gate_callee (f := 73) rfl ?_); refine goesL_ (some 8) rfl rfl Try.func73 (by kernel_rfl) rfl #[.int .u32 a0] rfl agx ?_; (with_reducible refine (levyref17_parts.calls a0 t217 t218 t219 _ A2.out).mono ?_); rintro e w' ⟨rfl, ⟨nd, rfl⟩⟩; refine ⟨_, rfl, ?_⟩))
    go_ret
    exact ⟨by first | rfl | (simp; done) | (simp only [← hji8, ← hji10] <;> (first | rfl | simp)) | (simp [*]; done), by repeat (first | exact Drawn0.refl _ | apply Drawn0.step)⟩
   ·rw [if_neg c9] at H
    exact absurd H (by simp)
end Go.Proofs.Ytfhgomcfpmbhnaa.PS
end

section
namespace Go.Proofs.Ytfhgomcfpmbhnaa.PS
open Go.RowKit Go.Proofs.YtfhgomcfpmbhnaaW.PrintWords Go.Proofs.YtfhgomcfpmbhnaaW.PrintLast Go.Proofs.YtfhgomcfpmbhnaaW.PrintMore
attribute [local go_sem] frun_add frun_sub frun_mul frun_quo frun_neg frun_of frun_same frun_store frun_bits frun_from
attribute [local go_sem] max2_int min2_int max_two min_two max_three min_three max_four min_four
set_option linter.unusedVariables false
set_option linter.unusedSimpArgs false
def levyref17_row.f (k : Nat) (a0 : Int) (a1 : Int) (a2 : Int) (a3 : Int) : Option (Int) := (levyref17_Same.f a1 a2).bind fun t220 => (if t220 = true then (some 0) else ((levyref17_Sub.f k a0 a1).bind fun t221 => ((levyref17_Sub.f k a2 a1).bind fun t222 => ((levyref17_Div.f k t221 t222).bind fun t223 => ((levyref17_Whole.f (wrap64 (a3 - 1))).bind fun t224 => ((levyref17_Mul.f t223 t224).bind fun t225 => ((levyref17_Add.f k t225 1056964608).bind fun t226 => ((levyref17_Part.f t226).bind fun t227 => (some t227)))))))))
theorem levyref17_row.mono : ∀ a0 a1 a2 a3 k, LeO (levyref17_row.f k a0 a1 a2 a3) (levyref17_row.f (k + 1) a0 a1 a2 a3) := by
 intro a0 a1 a2 a3 k
 unfold levyref17_row.f
 repeat' first
   | (with_reducible exact levyref17_Add.mono _ _ _)
   | (with_reducible exact levyref17_Div.mono _ _ _)
   | (with_reducible exact levyref17_Sub.mono _ _ _)
   | (with_reducible exact LeO.refl _)
   | (with_reducible exact LeO.none _)
   | (with_reducible refine LeO.ite ?_ ?_)
   | (with_reducible refine LeO.bind ?_ (fun _ => ?_))
   | exact levyref17_Add.mono _ _ _
   | exact levyref17_Div.mono _ _ _
   | exact levyref17_Sub.mono _ _ _
   | exact LeO.none _
   | refine LeO.ite ?_ ?_
   | refine LeO.bind ?_ (fun _ => ?_)
set_option maxHeartbeats 8000000 in
set_option maxRecDepth 100000 in
theorem levyref17_row.calls (k : Nat) (a0 : Int) (a1 : Int) (a2 : Int) (a3 : Int) (r : Int) (w : World) (h : levyref17_row.f k a0 a1 a2 a3 = some r) :
  Calls Try.prog 62 #[.int .u32 a0, .int .u32 a1, .int .u32 a2, .int .i64 a3] w fun e w' => e = .returned (.int .i64 r) ∧ Drawn0 w w' := by
 have H : ((levyref17_Same.f a1 a2).bind fun t220 => (if t220 = true then (some 0) else ((levyref17_Sub.f k a0 a1).bind fun t221 => ((levyref17_Sub.f k a2 a1).bind fun t222 => ((levyref17_Div.f k t221 t222).bind fun t223 => ((levyref17_Whole.f (wrap64 (a3 - 1))).bind fun t224 => ((levyref17_Mul.f t223 t224).bind fun t225 => ((levyref17_Add.f k t225 1056964608).bind fun t226 => ((levyref17_Part.f t226).bind fun t227 => (some t227)))))))))) = some r := h
 clear h
 replace H := Option.bind_eq_some_iff.mp H
 obtain ⟨t220, A50, H⟩ := H
 replace H : (if t220 = true then (some 0) else ((levyref17_Sub.f k a0 a1).bind fun t221 => ((levyref17_Sub.f k a2 a1).bind fun t222 => ((levyref17_Div.f k t221 t222).bind fun t223 => ((levyref17_Whole.f (wrap64 (a3 - 1))).bind fun t224 => ((levyref17_Mul.f t223 t224).bind fun t225 => ((levyref17_Add.f k t225 1056964608).bind fun t226 => ((levyref17_Part.f t226).bind fun t227 => (some t227))))))))) = some r := H
 have A5 := Aside0.mk A50
 clear A50
 by_cases c6 : t220 = true
 ·subst c6
  have H1 : (some 0) = some r := by rw [if_pos rfl] at H; exact H
  clear H
  have H := H1
  clear H1
  obtain rfl := Option.some.inj H
  go_enter Try.func62, Try.ntmps62
  go_wp2_with (first | ((with_reducible refine gate_callee (f := 54) rfl ?_); refine goesL_ (some 18) rfl rfl Try.func54 (by kernel_rfl) rfl #[.int .u32 a1, .int .u32 a2] rfl agx ?_; (with_reducible refine (levyref17_Same.calls a1 a2 true _ A5.out).mono ?_); rintro e w' ⟨rfl, ⟨nd, rfl⟩⟩; refine ⟨_, rfl, ?_⟩))
  go_ret
  exact ⟨by first | rfl | (simp; done) | (simp [*]; done), by repeat (first | exact Drawn0.refl _ | apply Drawn0.step)⟩
 ·replace c6 := Bool.eq_false_iff.mpr c6
  subst c6
  have H1 : ((levyref17_Sub.f k a0 a1).bind fun t221 => ((levyref17_Sub.f k a2 a1).bind fun t222 => ((levyref17_Div.f k t221 t222).bind fun t223 => ((levyref17_Whole.f (wrap64 (a3 - 1))).bind fun t224 => ((levyref17_Mul.f t223 t224).bind fun t225 => ((levyref17_Add.f k t225 1056964608).bind fun t226 => ((levyref17_Part.f t226).bind fun t227 => (some t227)))))))) = some r := by rw [if_neg (show ¬ (false = true) by decide)] at H; exact H
  clear H
  have H := H1
  clear H1
  replace H := Option.bind_eq_some_iff.mp H
  obtain ⟨t221, A70, H⟩ := H
  replace H : ((levyref17_Sub.f k a2 a1).bind fun t222 => ((levyref17_Div.f k t221 t222).bind fun t223 => ((levyref17_Whole.f (wrap64 (a3 - 1))).bind fun t224 => ((levyref17_Mul.f t223 t224).bind fun t225 => ((levyref17_Add.f k t225 1056964608).bind fun t226 => ((levyref17_Part.f t226).bind fun t227 => (some t227))))))) = some r := H
  have A7 := Aside0.mk A70
  clear A70
  replace H := Option.bind_eq_some_iff.mp H
  obtain ⟨t222, A80, H⟩ := H
  replace H : ((levyref17_Div.f k t221 t222).bind fun t223 => ((levyref17_Whole.f (wrap64 (a3 - 1))).bind fun t224 => ((levyref17_Mul.f t223 t224).bind fun t225 => ((levyref17_Add.f k t225 1056964608).bind fun t226 => ((levyref17_Part.f t226).bind fun t227 => (some t227)))))) = some r := H
  have A8 := Aside0.mk A80
  clear A80
  replace H := Option.bind_eq_some_iff.mp H
  obtain ⟨t223, A90, H⟩ := H
  replace H : ((levyref17_Whole.f (wrap64 (a3 - 1))).bind fun t224 => ((levyref17_Mul.f t223 t224).bind fun t225 => ((levyref17_Add.f k t225 1056964608).bind fun t226 => ((levyref17_Part.f t226).bind fun t227 => (some t227))))) = some r := H
  have A9 := Aside0.mk A90
  clear A90
  replace H := Option.bind_eq_some_iff.mp H
  obtain ⟨t224, A100, H⟩ := H
  replace H : ((levyref17_Mul.f t223 t224).bind fun t225 => ((levyref17_Add.f k t225 1056964608).bind fun t226 => ((levyref17_Part.f t226).bind fun t227 => (some t227)))) = some r := H
  have A10 := Aside0.mk A100
  clear A100
  replace H := Option.bind_eq_some_iff.mp H
  obtain ⟨t225, A110, H⟩ := H
  replace H : ((levyref17_Add.f k t225 1056964608).bind fun t226 => ((levyref17_Part.f t226).bind fun t227 => (some t227))) = some r := H
  have A11 := Aside0.mk A110
  clear A110
  replace H := Option.bind_eq_some_iff.mp H
  obtain ⟨t226, A120, H⟩ := H
  replace H : ((levyref17_Part.f t226).bind fun t227 => (some t227)) = some r := H
  have A12 := Aside0.mk A120
  clear A120
  replace H := Option.bind_eq_some_iff.mp H
  obtain ⟨t227, A130, H⟩ := H
  replace H : (some t227) = some r := H
  have A13 := Aside0.mk A130
  clear A130
  obtain rfl := Option.some.inj H
  go_enter Try.func62, Try.ntmps62
  go_wp2_with (first | ((with_reducible refine gate_callee (f := 54) rfl ?_); refine goesL_ (some 18) rfl rfl Try.func54 (by kernel_rfl) rfl #[.int .u32 a1, .int .u32 a2] rfl agx ?_; (with_reducible refine (levyref17_Same.calls a1 a2 false _ A5.out).mono ?_); rintro e w' ⟨rfl, ⟨nd, rfl⟩⟩; refine ⟨_, rfl, ?_⟩) | ((with_reducible refine gate_callee (f := 56) rfl ?_); refine goesL_ (some 22) rfl rfl Try.func56 (by kernel_rfl) rfl #[.int .u32 a0, .int .u32 a1] rfl agx ?_; (with_reducible refine (levyref17_Sub.calls k a0 a1 t221 _ A7.out).mono ?_); rintro e w' ⟨rfl, ⟨nd, rfl⟩⟩; refine ⟨_, rfl, ?_⟩) | ((with_reducible refine gate_callee (f := 56) rfl ?_); refine goesL_ (some 25) rfl rfl Try.func56 (by kernel_rfl) rfl #[.int .u32 a2, .int .u32 a1] rfl agx ?_; (with_reducible refine (levyref17_Sub.calls k a2 a1 t222 _ A8.out).mono ?_); rintro e w' ⟨rfl, ⟨nd, rfl⟩⟩; refine ⟨_, rfl, ?_⟩) | ((with_reducible refine gate_callee (f := 57) rfl ?_); refine goesL_ (some 28) rfl rfl Try.func57 (by kernel_rfl) rfl #[.int .u32 t221, .int .u32 t222] rfl agx ?_; (with_reducible refine (levyref17_Div.calls k t221 t222 t223 _ A9.out).mono ?_); rintro e w' ⟨rfl, ⟨nd, rfl⟩⟩; refine ⟨_, rfl, ?_⟩) | ((with_reducible refine gate_callee (f := 14) rfl ?_); refine goesL_ (some 31) rfl rfl Try.func14 (by kernel_rfl) rfl #[.int .i64 (wrap64 (a3 - 1))] rfl agx ?_; (with_reducible refine (levyref17_Whole.calls (wrap64 (a3 - 1)) t224 _ A10.out).mono ?_); rintro e w' ⟨rfl, ⟨nd, rfl⟩⟩; refine ⟨_, rfl, ?_⟩) | ((with_reducible refine gate_callee (f := 59) rfl ?_); refine goesL_ (some 34) rfl rfl Try.func59 (by kernel_rfl) rfl #[.int .u32 t223, .int .u32 t224] rfl agx ?_; (with_reducible refine (levyref17_Mul.calls t223 t224 t225 _ A11.out).mono ?_); rintro e w' ⟨rfl, ⟨nd, rfl⟩⟩; refine ⟨_, rfl, ?_⟩) | ((with_reducible refine gate_callee (f := 60) rfl ?_); refine goesL_ (some 36) rfl rfl Try.func60 (by kernel_rfl) rfl #[.int .u32 t225, .int .u32 1056964608] rfl agx ?_; (with_reducible refine (levyref17_Add.calls k t225 1056964608 t226 _ A12.out).mono ?_); rintro e w' ⟨rfl, ⟨nd, rfl⟩⟩; refine ⟨_, rfl, ?_⟩) | ((with_reducible refine gate_callee (f := 74) rfl ?_); refine goesL_ (some 38) rfl rfl Try.func74 (by kernel_rfl) rfl #[.int .u32 t226] rfl agx ?_; (with_reducible refine (levyref17_Part.calls t226 t227 _ A13.out).mono ?_); rintro e w' ⟨rfl, ⟨nd, rfl⟩⟩; refine ⟨_, rfl, ?_⟩))
  go_ret
  exact ⟨by first | rfl | (simp; done) | (simp [*]; done), by repeat (first | exact Drawn0.refl _ | apply Drawn0.step)⟩
end Go.Proofs.Ytfhgomcfpmbhnaa.PS
end

section
namespace Go.Proofs.Ytfhgomcfpmbhnaa.PS
open Go.RowKit Go.Proofs.YtfhgomcfpmbhnaaW.PrintWords Go.Proofs.YtfhgomcfpmbhnaaW.PrintLast Go.Proofs.YtfhgomcfpmbhnaaW.PrintMore
attribute [local go_sem] frun_add frun_sub frun_mul frun_quo frun_neg frun_of frun_same frun_store frun_bits frun_from
attribute [local go_sem] max2_int min2_int max_two min_two max_three min_three max_four min_four
set_option linter.unusedVariables false
set_option linter.unusedSimpArgs false
mutual
def levyref17_mark.l0 : Nat → List (S38) → Int → Int → Int → Int → Int → Int → Int → Int → Option (ByteArray)
 | 0, _, _, _, _, _, _, _, _, _ => none
 | k + 1, x0, x1, x2, x3, x4, x5, x6, x7, x17 => if x17 < (x0.length : Int) then (if (x0.length : Int) > 1 then (if 0 ≤ x17 then (if 0 < (x0.length : Int) then (if 0 ≤ (wrap64 ((x0.length : Int) - 1)) then (if (wrap64 ((x0.length : Int) - 1)) < (x0.length : Int) then (if (wrap64 (((rd_T38 x0 (wrap64 ((x0.length : Int) - 1))).f0) - ((rd_T38 x0 0).f0))) = 0 then (none) else (levyref17_mark.j1 k x0 x1 x2 x3 x4 x5 x6 x7 x17 (wrap64 (Int.tdiv (wrap64 ((wrap64 (((rd_T38 x0 x17).f0) - ((rd_T38 x0 0).f0))) * (wrap64 (x4 - 1)))) (wrap64 (((rd_T38 x0 (wrap64 ((x0.length : Int) - 1))).f0) - ((rd_T38 x0 0).f0))))))) else (none)) else (none)) else (none)) else (none)) else (levyref17_mark.j1 k x0 x1 x2 x3 x4 x5 x6 x7 x17 0)) else (if x2 = x3 then (some (⟨#[45]⟩ : ByteArray)) else (some (⟨#[32]⟩ : ByteArray)))
def levyref17_mark.j1 : Nat → List (S38) → Int → Int → Int → Int → Int → Int → Int → Int → Int → Option (ByteArray)
 | 0, _, _, _, _, _, _, _, _, _, _ => none
 | k + 1, x0, x1, x2, x3, x4, x5, x6, x7, x17, x18 => if x18 = x1 then (if 0 ≤ x17 then (if x17 < (x0.length : Int) then ((levyref17_row.f k ((rd_T38 x0 x17).f1) x6 x7 x5).bind fun t233 => (if t233 = x2 then (some (⟨#[42]⟩ : ByteArray)) else (levyref17_mark.l0 k x0 x1 x2 x3 x4 x5 x6 x7 (wrap64 (x17 + 1))))) else (none)) else (none)) else (levyref17_mark.l0 k x0 x1 x2 x3 x4 x5 x6 x7 (wrap64 (x17 + 1)))
end
def levyref17_mark.f (k : Nat) (l0 : List (S38)) (a1 : Int) (a2 : Int) (a3 : Int) (a4 : Int) (a5 : Int) (a6 : Int) (a7 : Int) : Option (ByteArray) := levyref17_mark.l0 k l0 a1 a2 a3 a4 a5 a6 a7 0
theorem levyref17_mark.mono_l : ∀ k, (∀ y0 y1 y2 y3 y4 y5 y6 y7 y8, LeO (levyref17_mark.l0 k y0 y1 y2 y3 y4 y5 y6 y7 y8) (levyref17_mark.l0 (k + 1) y0 y1 y2 y3 y4 y5 y6 y7 y8)) ∧ (∀ y0 y1 y2 y3 y4 y5 y6 y7 y8 y9, LeO (levyref17_mark.j1 k y0 y1 y2 y3 y4 y5 y6 y7 y8 y9) (levyref17_mark.j1 (k + 1) y0 y1 y2 y3 y4 y5 y6 y7 y8 y9))
 | 0 => ⟨fun _ _ _ _ _ _ _ _ _ r h => by simp [levyref17_mark.l0] at h, fun _ _ _ _ _ _ _ _ _ _ r h => by simp [levyref17_mark.j1] at h⟩
 | k + 1 => by
  obtain ⟨ih0, ih1⟩ := levyref17_mark.mono_l k
  refine ⟨?_, ?_⟩
  ·intro y0 y1 y2 y3 y4 y5 y6 y7 y8
   unfold levyref17_mark.l0
   repeat' first
   | (with_reducible exact ih0 _ _ _ _ _ _ _ _ _)
   | (with_reducible exact ih1 _ _ _ _ _ _ _ _ _ _)
   | (with_reducible exact levyref17_row.mono _ _ _ _ _)
   | (with_reducible exact LeO.refl _)
   | (with_reducible exact LeO.none _)
   | (with_reducible refine LeO.ite ?_ ?_)
   | (with_reducible refine LeO.bind ?_ (fun _ => ?_))
   | exact ih0 _ _ _ _ _ _ _ _ _
   | exact ih1 _ _ _ _ _ _ _ _ _ _
   | exact levyref17_row.mono _ _ _ _ _
   | exact LeO.none _
   | refine LeO.ite ?_ ?_
   | refine LeO.bind ?_ (fun _ => ?_)
  ·intro y0 y1 y2 y3 y4 y5 y6 y7 y8 y9
   unfold levyref17_mark.j1
   repeat' first
   | (with_reducible exact ih0 _ _ _ _ _ _ _ _ _)
   | (with_reducible exact ih1 _ _ _ _ _ _ _ _ _ _)
   | (with_reducible exact levyref17_row.mono _ _ _ _ _)
   | (with_reducible exact LeO.refl _)
   | (with_reducible exact LeO.none _)
   | (with_reducible refine LeO.ite ?_ ?_)
   | (with_reducible refine LeO.bind ?_ (fun _ => ?_))
   | exact ih0 _ _ _ _ _ _ _ _ _
   | exact ih1 _ _ _ _ _ _ _ _ _ _
   | exact levyref17_row.mono _ _ _ _ _
   | exact LeO.none _
   | refine LeO.ite ?_ ?_
   | refine LeO.bind ?_ (fun _ => ?_)
theorem levyref17_mark.mono : ∀ a0 a1 a2 a3 a4 a5 a6 a7 k, LeO (levyref17_mark.f k a0 a1 a2 a3 a4 a5 a6 a7) (levyref17_mark.f (k + 1) a0 a1 a2 a3 a4 a5 a6 a7) := by
 intro a0 a1 a2 a3 a4 a5 a6 a7 k
 obtain ⟨ih0, ih1⟩ := levyref17_mark.mono_l k
 unfold levyref17_mark.f
 repeat' first
   | (with_reducible exact ih0 _ _ _ _ _ _ _ _ _)
   | (with_reducible exact ih1 _ _ _ _ _ _ _ _ _ _)
   | (with_reducible exact levyref17_row.mono _ _ _ _ _)
   | (with_reducible exact LeO.refl _)
   | (with_reducible exact LeO.none _)
   | (with_reducible refine LeO.ite ?_ ?_)
   | (with_reducible refine LeO.bind ?_ (fun _ => ?_))
   | exact ih0 _ _ _ _ _ _ _ _ _
   | exact ih1 _ _ _ _ _ _ _ _ _ _
   | exact levyref17_row.mono _ _ _ _ _
   | exact LeO.none _
   | refine LeO.ite ?_ ?_
   | refine LeO.bind ?_ (fun _ => ?_)
set_option maxHeartbeats 8000000 in
set_option maxRecDepth 100000 in
theorem levyref17_mark.calls (k : Nat) (A0 : Option Addr) (c0 : Nat) (l0 : List (S38)) (a1 : Int) (a2 : Int) (a3 : Int) (a4 : Int) (a5 : Int) (a6 : Int) (a7 : Int) (r : ByteArray) (w : World) (hr0 : Kd.C k38 w A0 l0.length l0) (hc0 : l0.length ≤ c0) (h : levyref17_mark.f k l0 a1 a2 a3 a4 a5 a6 a7 = some r) :
  Calls Try.prog 63 #[.slice A0 l0.length c0, .int .i64 a1, .int .i64 a2, .int .i64 a3, .int .i64 a4, .int .i64 a5, .int .u32 a6, .int .u32 a7] w fun e w' => e = .returned (.string r) ∧ Drawn0 w w' := by
 have HR0 := Aside0.mk hr0
 have HC0 := Aside0.mk hc0
 clear hr0 hc0
 have H : (levyref17_mark.l0 k l0 a1 a2 a3 a4 a5 a6 a7 0) = some r := h
 clear h
 have H' := Aside0.mk H
 clear H
 go_enter Try.func63, Try.ntmps63
 go_wp2
 repeat (go_quiet (fail); try go_wp2)
 go_loopg [17] k (fun kq v17 w' => ∃ (x17_1 : Int), v17 = .int .i64 x17_1 ∧ Aside0 (levyref17_mark.l0 kq l0 a1 a2 a3 a4 a5 a6 a7 x17_1 = some r) ∧ Aside0 (kq ≤ k) ∧ Drawn0 w w')
 case atStart => exact ⟨(0), (by first | rfl | (simp; done) | (simp [*]; done)), H', ⟨Nat.le_refl _⟩, by repeat (first | exact Drawn0.refl _ | apply Drawn0.step)⟩
 case round =>
  clear H'
  try clear p2
  try clear c6
  obtain ⟨x17_1, rfl, HA, HK1, ⟨m1, rfl⟩⟩ := hrel
  cases gk with
  | zero => exact absurd HA.out (by simp [levyref17_mark.l0])
  | succ k1 =>
   have H := HA.out
   clear HA
   simp only [levyref17_mark.l0] at H
   by_cases c9 : x17_1 < (l0.length : Int)
   ·rw [if_pos c9] at H
    have c9b0 : decide (x17_1 < (l0.length : Int)) = true := decide_eq_true c9
    clear c9
    have HC10 := Aside0.mk H
    clear H
    go_upto_if 28 with (fail)
    repeat (go_quiet (fail); go_upto_if 28 with (fail))
    go_cut [18] (fun v18 wc => ∃ (kq : Nat) (x18_9 : Int), v18 = .int .i64 x18_9 ∧ Aside0 (levyref17_mark.j1 kq l0 a1 a2 a3 a4 a5 a6 a7 x17_1 x18_9 = some r) ∧ Aside0 (kq ≤ k1) ∧ Drawn0 w wc)
    case first =>
     have H := HC10.out
     clear HC10
     by_cases c11 : (l0.length : Int) > 1
     ·rw [if_pos c11] at H
      have c11b0 : decide (1 < (l0.length : Int)) = true := decide_eq_true c11
      have c11b1 : decide (1 < l0.length) = true := decide_eq_true (by omega)
      clear c11
      (first | rw [c11b0] | (simp only [i64_w, i32_w]; rw [c11b0]) | skip)
      by_cases c12 : 0 ≤ x17_1
      ·rw [if_pos c12] at H
       have c12b0 : decide (0 ≤ x17_1) = true := decide_eq_true c12
       clear c12
       by_cases c13 : 0 < (l0.length : Int)
       ·rw [if_pos c13] at H
        have c13b0 : decide (0 < (l0.length : Int)) = true := decide_eq_true c13
        have c13b1 : decide (0 < l0.length) = true := decide_eq_true (by omega)
        clear c13
        obtain ⟨ji14, hji14⟩ : ∃ j_ : Int, (wrap64 ((l0.length : Int) - 1)) = j_ := ⟨_, rfl⟩
        replace H : (if 0 ≤ (ji14) then (if (ji14) < (l0.length : Int) then (if (wrap64 (((rd_T38 l0 (ji14)).f0) - ((rd_T38 l0 0).f0))) = 0 then (none) else (levyref17_mark.j1 k1 l0 a1 a2 a3 a4 a5 a6 a7 x17_1 (wrap64 (Int.tdiv (wrap64 ((wrap64 (((rd_T38 l0 x17_1).f0) - ((rd_T38 l0 0).f0))) * (wrap64 (a4 - 1)))) (wrap64 (((rd_T38 l0 (ji14)).f0) - ((rd_T38 l0 0).f0))))))) else (none)) else (none)) = some r := by first | (rw [hji14] at H; exact H) | (simp only [hji14] at H ⊢; exact H)
        have hji14w : (IntKind.i64.wrap ((l0.length : Int) - 1)) = ji14 := (i64_w _).trans hji14
        by_cases c15 : 0 ≤ (ji14)
        ·rw [if_pos c15] at H
         have c15b0 : decide (0 ≤ (ji14)) = true := decide_eq_true c15
         clear c15
         by_cases c16 : (ji14) < (l0.length : Int)
         ·rw [if_pos c16] at H
          have c16b0 : decide ((ji14) < (l0.length : Int)) = true := decide_eq_true c16
          clear c16
          by_cases c17 : (wrap64 (((rd_T38 l0 (ji14)).f0) - ((rd_T38 l0 0).f0))) = 0
          ·rw [if_pos c17] at H
           exact absurd H (by simp)
          ·rw [if_neg c17] at H
           have c17b0 : ((wrap64 (((rd_T38 l0 (ji14)).f0) - ((rd_T38 l0 0).f0))) == 0) = false := beq_eq_false_iff_ne.mpr c17
           have c17b1 : ((wrap64 (((rd_T38 l0 (ji14)).f0) - ((rd_T38 l0 0).f0))) != 0) = true := bne_iff_ne.mpr c17
           have H' := Aside0.mk H
           clear H
           have p228 : 0 ≤ (x17_1 : Int) := odx
           have q228 : x17_1 < (l0.length : Int) := odx
           obtain ⟨ad228, e228, hx228_0, hx228_1⟩ := at_T38 HR0.out x17_1 p228 q228
           cases e228
           replace p228 := eq_true p228
           replace q228 := eq_true q228
           have p229 : 0 ≤ (0 : Int) := (by omega)
           have q229 : 0 < (l0.length : Int) := odx
           obtain ⟨ad229, e229, hx229_0, hx229_1⟩ := at_T38 HR0.out 0 p229 q229
           obtain rfl : ad228 = ad229 := (by injection e229)
           have qi229 : (0 < l0.length) = True := eq_true (by omega)
           (try rw [show ((0 : Int)).toNat = 0 from rfl] at hx229_0)
           (try rw [show 0 * 2 = 0 from rfl] at hx229_0)
           (try rw [Addr.add_zero'] at hx229_0)
           (try rw [show ((0 : Int)).toNat = 0 from rfl] at hx229_1)
           (try rw [show 0 * 2 = 0 from rfl] at hx229_1)
           (try rw [Addr.add_zero'] at hx229_1)
           replace p229 := eq_true p229
           replace q229 := eq_true q229
           have p230 : 0 ≤ ((ji14) : Int) := odx
           have q230 : (ji14) < (l0.length : Int) := odx
           obtain ⟨ad230, e230, hx230_0, hx230_1⟩ := at_T38 HR0.out (ji14) p230 q230
           obtain rfl : ad228 = ad230 := (by injection e230)
           replace p230 := eq_true p230
           replace q230 := eq_true q230
           have p231 : 0 ≤ (0 : Int) := (by omega)
           have q231 : 0 < (l0.length : Int) := odx
           obtain ⟨ad231, e231, hx231_0, hx231_1⟩ := at_T38 HR0.out 0 p231 q231
           obtain rfl : ad228 = ad231 := (by injection e231)
           have qi231 : (0 < l0.length) = True := eq_true (by omega)
           (try rw [show ((0 : Int)).toNat = 0 from rfl] at hx231_0)
           (try rw [show 0 * 2 = 0 from rfl] at hx231_0)
           (try rw [Addr.add_zero'] at hx231_0)
           (try rw [show ((0 : Int)).toNat = 0 from rfl] at hx231_1)
           (try rw [show 0 * 2 = 0 from rfl] at hx231_1)
           (try rw [Addr.add_zero'] at hx231_1)
           replace p231 := eq_true p231
           replace q231 := eq_true q231
           go_wp2
           repeat (go_quiet (fail); try go_wp2)
           go_meet
           case rel => exact ⟨_, (wrap64 (Int.tdiv (wrap64 ((wrap64 (((rd_T38 l0 x17_1).f0) - ((rd_T38 l0 0).f0))) * (wrap64 (a4 - 1)))) (wrap64 (((rd_T38 l0 (ji14)).f0) - ((rd_T38 l0 0).f0))))), (by first | rfl | (simp; done) | (simp only [← hji14] <;> (first | rfl | simp)) | (simp [*]; done)), H', ⟨by have := HK1.out; first | omega | exact Nat.le_refl _⟩, by repeat (first | exact Drawn0.refl _ | apply Drawn0.step)⟩
         ·rw [if_neg c16] at H
          exact absurd H (by simp)
        ·rw [if_neg c15] at H
         exact absurd H (by simp)
       ·rw [if_neg c13] at H
        exact absurd H (by simp)
      ·rw [if_neg c12] at H
       exact absurd H (by simp)
     ·rw [if_neg c11] at H
      have c11b0 : decide (1 < (l0.length : Int)) = false := decide_eq_false c11
      have c11b1 : decide (1 < l0.length) = false := decide_eq_false (by omega)
      clear c11
      (first | rw [c11b0] | (simp only [i64_w, i32_w]; rw [c11b0]) | skip)
      have H' := Aside0.mk H
      clear H
      go_wp2
      repeat (go_quiet (fail); try go_wp2)
      go_meet
      case rel => exact ⟨_, (0), (by first | rfl | (simp; done) | (simp [*]; done)), H', ⟨by have := HK1.out; first | omega | exact Nat.le_refl _⟩, by repeat (first | exact Drawn0.refl _ | apply Drawn0.step)⟩
    case rest =>
     clear HC10
     try clear c1
     try clear p2
     try clear q2
     try clear hx2
     try clear qi2
     try clear c6
     try clear p6
     try clear c9
     try clear c9b0
     try clear c11
     try clear c11b0
     try clear c11b1
     try clear c12
     try clear c12b0
     try clear c13
     try clear c13b0
     try clear c13b1
     try clear c15
     try clear c15b0
     try clear c16
     try clear c16b0
     try clear c17
     try clear c17b0
     try clear c17b1
     try clear hx228_0
     try clear hx228_1
     try clear hx229_0
     try clear hx229_1
     try clear hx230_0
     try clear hx230_1
     try clear hx231_0
     try clear hx231_1
     try clear p2
     try clear p228
     try clear p229
     try clear p230
     try clear p231
     try clear q228
     try clear q229
     try clear q230
     try clear q231
     obtain ⟨kq, x18_9, rfl, HA, HJ9, ⟨mc9, rfl⟩⟩ := hcut
     cases kq with
     | zero => exact absurd HA.out (by simp [levyref17_mark.j1])
     | succ kj9 =>
      have H := HA.out
      clear HA
      simp only [levyref17_mark.j1] at H
      by_cases c18 : x18_9 = a1
      ·rw [if_pos c18] at H
       have c18b0 : (x18_9 == a1) = true := beq_iff_eq.mpr c18
       have c18b1 : (x18_9 != a1) = false := bne_eq_false_iff_eq.mpr c18
       clear c18
       by_cases c19 : 0 ≤ x17_1
       ·rw [if_pos c19] at H
        have c19b0 : decide (0 ≤ x17_1) = true := decide_eq_true c19
        clear c19
        by_cases c20 : x17_1 < (l0.length : Int)
        ·rw [if_pos c20] at H
         have c20b0 : decide (x17_1 < (l0.length : Int)) = true := decide_eq_true c20
         clear c20
         replace H := Option.bind_eq_some_iff.mp H
         obtain ⟨t233, A210, H⟩ := H
         replace H : (if t233 = a2 then (some (⟨#[42]⟩ : ByteArray)) else (levyref17_mark.l0 kj9 l0 a1 a2 a3 a4 a5 a6 a7 (wrap64 (x17_1 + 1)))) = some r := H
         have A21 := Aside0.mk A210
         clear A210
         by_cases c22 : t233 = a2
         ·rw [if_pos c22] at H
          have c22b0 : (t233 == a2) = true := beq_iff_eq.mpr c22
          have c22b1 : (t233 != a2) = false := bne_eq_false_iff_eq.mpr c22
          clear c22
          obtain rfl := Option.some.inj H
          have p232 : 0 ≤ (x17_1 : Int) := odx
          have q232 : x17_1 < (l0.length : Int) := odx
          obtain ⟨ad232, e232, hx232_0, hx232_1⟩ := at_T38 HR0.out x17_1 p232 q232
          cases e232
          replace p232 := eq_true p232
          replace q232 := eq_true q232
          go_wp2_with (first | (go_at_call 62; (with_reducible refine (levyref17_row.calls kj9 ((rd_T38 l0 x17_1).f1) a6 a7 a5 t233 _ A21.out).mono ?_); rintro e w' ⟨rfl, ⟨nd, rfl⟩⟩; (try first | exact ⟨rfl, _, World.drewN_drewN _ _ _⟩ | exact ⟨rfl, _, Eq.trans (World.drewN_drewN _ _ _) (congrArg (World.drewN _) (Nat.add_assoc _ _ _))⟩)))
          repeat (go_quiet (first | (go_at_call 62; (with_reducible refine (levyref17_row.calls kj9 ((rd_T38 l0 x17_1).f1) a6 a7 a5 t233 _ A21.out).mono ?_); rintro e w' ⟨rfl, ⟨nd, rfl⟩⟩; (try first | exact ⟨rfl, _, World.drewN_drewN _ _ _⟩ | exact ⟨rfl, _, Eq.trans (World.drewN_drewN _ _ _) (congrArg (World.drewN _) (Nat.add_assoc _ _ _))⟩))); try go_wp2_with (first | (go_at_call 62; (with_reducible refine (levyref17_row.calls kj9 ((rd_T38 l0 x17_1).f1) a6 a7 a5 t233 _ A21.out).mono ?_); rintro e w' ⟨rfl, ⟨nd, rfl⟩⟩; (try first | exact ⟨rfl, _, World.drewN_drewN _ _ _⟩ | exact ⟨rfl, _, Eq.trans (World.drewN_drewN _ _ _) (congrArg (World.drewN _) (Nat.add_assoc _ _ _))⟩))))
          go_ret
          exact ⟨by first | rfl | (simp; done) | (simp [*]; done), by repeat (first | exact Drawn0.refl _ | apply Drawn0.step)⟩
         ·rw [if_neg c22] at H
          have c22b0 : (t233 == a2) = false := beq_eq_false_iff_ne.mpr c22
          have c22b1 : (t233 != a2) = true := bne_iff_ne.mpr c22
          have H' := Aside0.mk H
          clear H
          have p232 : 0 ≤ (x17_1 : Int) := odx
          have q232 : x17_1 < (l0.length : Int) := odx
          obtain ⟨ad232, e232, hx232_0, hx232_1⟩ := at_T38 HR0.out x17_1 p232 q232
          cases e232
          replace p232 := eq_true p232
          replace q232 := eq_true q232
          go_wp2_with (first | (go_at_call 62; (with_reducible refine (levyref17_row.calls kj9 ((rd_T38 l0 x17_1).f1) a6 a7 a5 t233 _ A21.out).mono ?_); rintro e w' ⟨rfl, ⟨nd, rfl⟩⟩; (try first | exact ⟨rfl, _, World.drewN_drewN _ _ _⟩ | exact ⟨rfl, _, Eq.trans (World.drewN_drewN _ _ _) (congrArg (World.drewN _) (Nat.add_assoc _ _ _))⟩)))
          repeat (go_quiet (first | (go_at_call 62; (with_reducible refine (levyref17_row.calls kj9 ((rd_T38 l0 x17_1).f1) a6 a7 a5 t233 _ A21.out).mono ?_); rintro e w' ⟨rfl, ⟨nd, rfl⟩⟩; (try first | exact ⟨rfl, _, World.drewN_drewN _ _ _⟩ | exact ⟨rfl, _, Eq.trans (World.drewN_drewN _ _ _) (congrArg (World.drewN _) (Nat.add_assoc _ _ _))⟩))); try go_wp2_with (first | (go_at_call 62; (with_reducible refine (levyref17_row.calls kj9 ((rd_T38 l0 x17_1).f1) a6 a7 a5 t233 _ A21.out).mono ?_); rintro e w' ⟨rfl, ⟨nd, rfl⟩⟩; (try first | exact ⟨rfl, _, World.drewN_drewN _ _ _⟩ | exact ⟨rfl, _, Eq.trans (World.drewN_drewN _ _ _) (congrArg (World.drewN _) (Nat.add_assoc _ _ _))⟩))))
          go_roundg kj9
          case measure => have := HK1.out; have := HJ9.out; omega
          case rel => exact ⟨(wrap64 (x17_1 + 1)), (by first | rfl | (simp; done) | (simp [*]; done)), H', ⟨by have := HK1.out; have := HJ9.out; omega⟩, by repeat (first | exact Drawn0.refl _ | apply Drawn0.step)⟩
        ·rw [if_neg c20] at H
         exact absurd H (by simp)
       ·rw [if_neg c19] at H
        exact absurd H (by simp)
      ·rw [if_neg c18] at H
       have c18b0 : (x18_9 == a1) = false := beq_eq_false_iff_ne.mpr c18
       have c18b1 : (x18_9 != a1) = true := bne_iff_ne.mpr c18
       have H' := Aside0.mk H
       clear H
       go_wp2
       repeat (go_quiet (fail); try go_wp2)
       go_roundg kj9
       case measure => have := HK1.out; have := HJ9.out; omega
       case rel => exact ⟨(wrap64 (x17_1 + 1)), (by first | rfl | (simp; done) | (simp [*]; done)), H', ⟨by have := HK1.out; have := HJ9.out; omega⟩, by repeat (first | exact Drawn0.refl _ | apply Drawn0.step)⟩
   ·rw [if_neg c9] at H
    have c9b0 : decide (x17_1 < (l0.length : Int)) = false := decide_eq_false c9
    clear c9
    by_cases c23 : a2 = a3
    ·rw [if_pos c23] at H
     have c23b0 : (a2 == a3) = true := beq_iff_eq.mpr c23
     have c23b1 : (a2 != a3) = false := bne_eq_false_iff_eq.mpr c23
     clear c23
     obtain rfl := Option.some.inj H
     go_wp2
     repeat (go_quiet (fail); try go_wp2)
     go_ret
     exact ⟨by first | rfl | (simp; done) | (simp [*]; done), by repeat (first | exact Drawn0.refl _ | apply Drawn0.step)⟩
    ·rw [if_neg c23] at H
     have c23b0 : (a2 == a3) = false := beq_eq_false_iff_ne.mpr c23
     have c23b1 : (a2 != a3) = true := bne_iff_ne.mpr c23
     obtain rfl := Option.some.inj H
     go_wp2
     repeat (go_quiet (fail); try go_wp2)
     go_ret
     exact ⟨by first | rfl | (simp; done) | (simp [*]; done), by repeat (first | exact Drawn0.refl _ | apply Drawn0.step)⟩
end Go.Proofs.Ytfhgomcfpmbhnaa.PS
end

section
namespace Go.Proofs.Ytfhgomcfpmbhnaa.PS
open Go.RowKit Go.Proofs.YtfhgomcfpmbhnaaW.PrintWords Go.Proofs.YtfhgomcfpmbhnaaW.PrintLast Go.Proofs.YtfhgomcfpmbhnaaW.PrintMore
attribute [local go_sem] frun_add frun_sub frun_mul frun_quo frun_neg frun_of frun_same frun_store frun_bits frun_from
attribute [local go_sem] max2_int min2_int max_two min_two max_three min_three max_four min_four
set_option linter.unusedVariables false
set_option linter.unusedSimpArgs false
mutual
def levyref17_Draw.j0 : Nat → List (S38) → Int → Int → Bool → Option (List ByteArray × Int)
 | 0, _, _, _, _ => none
 | k + 1, x0, x1, x2, x36 => if x36 = true then (some (([] : List ByteArray), 174)) else ((levyref17_Ordered.f k x0).bind fun t234 => (if t234 = true then (levyref17_Draw.l0 k x0 x1 x2 0 0 0) else (some (([] : List ByteArray), 172))))
def levyref17_Draw.l0 : Nat → List (S38) → Int → Int → Int → Int → Int → Option (List ByteArray × Int)
 | 0, _, _, _, _, _, _ => none
 | k + 1, x0, x1, x2, x9, x10, x11 => if x11 < (x0.length : Int) then (if 0 ≤ x11 then ((levyref17_Less.f ((rd_T38 x0 x11).f1) x9).bind fun t236 => ((levyref17_Less.f x10 ((rd_T38 x0 x11).f1)).bind fun t238 => (if x11 = 0 then (levyref17_Draw.j2 k x0 x1 x2 x9 x10 x11 t238 true) else (levyref17_Draw.j2 k x0 x1 x2 x9 x10 x11 t238 t236)))) else (none)) else ((levyref17_Sub.f k x10 x9).bind fun t244 => ((levyref17_Finite.f t244).bind fun t245 => (if t245 = true then ((levyref17_Less.f 0 x9).bind fun t246 => ((levyref17_Less.f x10 0).bind fun t247 => (if (x0.length : Int) > 0 then (if t246 = true then (levyref17_Draw.j3 k x0 x1 x2 x9 x10 (-1) false) else (levyref17_Draw.j3 k x0 x1 x2 x9 x10 (-1) (!t247))) else (levyref17_Draw.j3 k x0 x1 x2 x9 x10 (-1) false)))) else (some (([] : List ByteArray), 175)))))
def levyref17_Draw.j2 : Nat → List (S38) → Int → Int → Int → Int → Int → Bool → Bool → Option (List ByteArray × Int)
 | 0, _, _, _, _, _, _, _, _ => none
 | k + 1, x0, x1, x2, x9, x10, x11, x13, x65 => if x65 = true then (if 0 ≤ x11 then (if x11 < (x0.length : Int) then (if x11 = 0 then (levyref17_Draw.l0 k x0 x1 x2 ((rd_T38 x0 x11).f1) ((rd_T38 x0 x11).f1) (wrap64 (x11 + 1))) else (if x13 = true then (levyref17_Draw.l0 k x0 x1 x2 ((rd_T38 x0 x11).f1) ((rd_T38 x0 x11).f1) (wrap64 (x11 + 1))) else (levyref17_Draw.l0 k x0 x1 x2 ((rd_T38 x0 x11).f1) x10 (wrap64 (x11 + 1))))) else (none)) else (none)) else (if x11 = 0 then (if 0 ≤ x11 then (if x11 < (x0.length : Int) then (levyref17_Draw.l0 k x0 x1 x2 x9 ((rd_T38 x0 x11).f1) (wrap64 (x11 + 1))) else (none)) else (none)) else (if x13 = true then (if 0 ≤ x11 then (if x11 < (x0.length : Int) then (levyref17_Draw.l0 k x0 x1 x2 x9 ((rd_T38 x0 x11).f1) (wrap64 (x11 + 1))) else (none)) else (none)) else (levyref17_Draw.l0 k x0 x1 x2 x9 x10 (wrap64 (x11 + 1)))))
def levyref17_Draw.j3 : Nat → List (S38) → Int → Int → Int → Int → Int → Bool → Option (List ByteArray × Int)
 | 0, _, _, _, _, _, _, _ => none
 | k + 1, x0, x1, x2, x9, x10, x18, x102 => if x102 = true then ((levyref17_row.f k 0 x9 x10 x2).bind fun t248 => (levyref17_Draw.j4 k x0 x1 x2 x9 x10 t248)) else (levyref17_Draw.j4 k x0 x1 x2 x9 x10 x18)
def levyref17_Draw.j4 : Nat → List (S38) → Int → Int → Int → Int → Int → Option (List ByteArray × Int)
 | 0, _, _, _, _, _, _ => none
 | k + 1, x0, x1, x2, x9, x10, x18 => levyref17_Draw.l1 k x0 x1 x2 x9 x10 x18 ([] : List ByteArray) (wrap64 (x2 - 1))
def levyref17_Draw.l1 : Nat → List (S38) → Int → Int → Int → Int → Int → List ByteArray → Int → Option (List ByteArray × Int)
 | 0, _, _, _, _, _, _, _, _ => none
 | k + 1, x0, x1, x2, x9, x10, x18, x19, x20 => if x20 ≥ 0 then (levyref17_Draw.l2 k x0 x1 x2 x9 x10 x18 x19 x20 (⟨#[]⟩ : ByteArray) 0) else (some (x19, 0))
def levyref17_Draw.l2 : Nat → List (S38) → Int → Int → Int → Int → Int → List ByteArray → Int → ByteArray → Int → Option (List ByteArray × Int)
 | 0, _, _, _, _, _, _, _, _, _, _ => none
 | k + 1, x0, x1, x2, x9, x10, x18, x19, x20, x21, x22 => if x22 < x1 then ((levyref17_mark.f k x0 x22 x20 x18 x1 x2 x9 x10).bind fun t249 => (if x21.size + t249.size ≤ 9223372036854775807 then (levyref17_Draw.l2 k x0 x1 x2 x9 x10 x18 x19 x20 (x21 ++ t249) (wrap64 (x22 + 1))) else (none))) else (if x19.length < 8796093022208 then (levyref17_Draw.l1 k x0 x1 x2 x9 x10 x18 (x19 ++ [x21]) (wrap64 (x20 - 1))) else (none))
end
def levyref17_Draw.f (k : Nat) (l0 : List (S38)) (a1 : Int) (a2 : Int) : Option (List ByteArray × Int) := if a1 < 2 then (levyref17_Draw.j0 k l0 a1 a2 true) else (if a1 > 72 then (levyref17_Draw.j0 k l0 a1 a2 true) else (if a2 < 2 then (levyref17_Draw.j0 k l0 a1 a2 true) else (levyref17_Draw.j0 k l0 a1 a2 (decide (a2 > 40)))))
theorem levyref17_Draw.mono_l : ∀ k, (∀ y0 y1 y2 y3, LeO (levyref17_Draw.j0 k y0 y1 y2 y3) (levyref17_Draw.j0 (k + 1) y0 y1 y2 y3)) ∧ (∀ y0 y1 y2 y3 y4 y5, LeO (levyref17_Draw.l0 k y0 y1 y2 y3 y4 y5) (levyref17_Draw.l0 (k + 1) y0 y1 y2 y3 y4 y5)) ∧ (∀ y0 y1 y2 y3 y4 y5 y6 y7, LeO (levyref17_Draw.j2 k y0 y1 y2 y3 y4 y5 y6 y7) (levyref17_Draw.j2 (k + 1) y0 y1 y2 y3 y4 y5 y6 y7)) ∧ (∀ y0 y1 y2 y3 y4 y5 y6, LeO (levyref17_Draw.j3 k y0 y1 y2 y3 y4 y5 y6) (levyref17_Draw.j3 (k + 1) y0 y1 y2 y3 y4 y5 y6)) ∧ (∀ y0 y1 y2 y3 y4 y5, LeO (levyref17_Draw.j4 k y0 y1 y2 y3 y4 y5) (levyref17_Draw.j4 (k + 1) y0 y1 y2 y3 y4 y5)) ∧ (∀ y0 y1 y2 y3 y4 y5 y6 y7, LeO (levyref17_Draw.l1 k y0 y1 y2 y3 y4 y5 y6 y7) (levyref17_Draw.l1 (k + 1) y0 y1 y2 y3 y4 y5 y6 y7)) ∧ (∀ y0 y1 y2 y3 y4 y5 y6 y7 y8 y9, LeO (levyref17_Draw.l2 k y0 y1 y2 y3 y4 y5 y6 y7 y8 y9) (levyref17_Draw.l2 (k + 1) y0 y1 y2 y3 y4 y5 y6 y7 y8 y9))
 | 0 => ⟨fun _ _ _ _ r h => by simp [levyref17_Draw.j0] at h, fun _ _ _ _ _ _ r h => by simp [levyref17_Draw.l0] at h, fun _ _ _ _ _ _ _ _ r h => by simp [levyref17_Draw.j2] at h, fun _ _ _ _ _ _ _ r h => by simp [levyref17_Draw.j3] at h, fun _ _ _ _ _ _ r h => by simp [levyref17_Draw.j4] at h, fun _ _ _ _ _ _ _ _ r h => by simp [levyref17_Draw.l1] at h, fun _ _ _ _ _ _ _ _ _ _ r h => by simp [levyref17_Draw.l2] at h⟩
 | k + 1 => by
  obtain ⟨ih0, ih1, ih2, ih3, ih4, ih5, ih6⟩ := levyref17_Draw.mono_l k
  refine ⟨?_, ?_, ?_, ?_, ?_, ?_, ?_⟩
  ·intro y0 y1 y2 y3
   unfold levyref17_Draw.j0
   repeat' first
   | (with_reducible exact ih0 _ _ _ _)
   | (with_reducible exact ih1 _ _ _ _ _ _)
   | (with_reducible exact ih2 _ _ _ _ _ _ _ _)
   | (with_reducible exact ih3 _ _ _ _ _ _ _)
   | (with_reducible exact ih4 _ _ _ _ _ _)
   | (with_reducible exact ih5 _ _ _ _ _ _ _ _)
   | (with_reducible exact ih6 _ _ _ _ _ _ _ _ _ _)
   | (with_reducible exact levyref17_Ordered.mono _ _)
   | (with_reducible exact levyref17_Sub.mono _ _ _)
   | (with_reducible exact levyref17_mark.mono _ _ _ _ _ _ _ _ _)
   | (with_reducible exact levyref17_row.mono _ _ _ _ _)
   | (with_reducible exact LeO.refl _)
   | (with_reducible exact LeO.none _)
   | (with_reducible refine LeO.ite ?_ ?_)
   | (with_reducible refine LeO.bind ?_ (fun _ => ?_))
   | exact ih0 _ _ _ _
   | exact ih1 _ _ _ _ _ _
   | exact ih2 _ _ _ _ _ _ _ _
   | exact ih3 _ _ _ _ _ _ _
   | exact ih4 _ _ _ _ _ _
   | exact ih5 _ _ _ _ _ _ _ _
   | exact ih6 _ _ _ _ _ _ _ _ _ _
   | exact levyref17_Ordered.mono _ _
   | exact levyref17_Sub.mono _ _ _
   | exact levyref17_mark.mono _ _ _ _ _ _ _ _ _
   | exact levyref17_row.mono _ _ _ _ _
   | exact LeO.none _
   | refine LeO.ite ?_ ?_
   | refine LeO.bind ?_ (fun _ => ?_)
  ·intro y0 y1 y2 y3 y4 y5
   unfold levyref17_Draw.l0
   repeat' first
   | (with_reducible exact ih0 _ _ _ _)
   | (with_reducible exact ih1 _ _ _ _ _ _)
   | (with_reducible exact ih2 _ _ _ _ _ _ _ _)
   | (with_reducible exact ih3 _ _ _ _ _ _ _)
   | (with_reducible exact ih4 _ _ _ _ _ _)
   | (with_reducible exact ih5 _ _ _ _ _ _ _ _)
   | (with_reducible exact ih6 _ _ _ _ _ _ _ _ _ _)
   | (with_reducible exact levyref17_Ordered.mono _ _)
   | (with_reducible exact levyref17_Sub.mono _ _ _)
   | (with_reducible exact levyref17_mark.mono _ _ _ _ _ _ _ _ _)
   | (with_reducible exact levyref17_row.mono _ _ _ _ _)
   | (with_reducible exact LeO.refl _)
   | (with_reducible exact LeO.none _)
   | (with_reducible refine LeO.ite ?_ ?_)
   | (with_reducible refine LeO.bind ?_ (fun _ => ?_))
   | exact ih0 _ _ _ _
   | exact ih1 _ _ _ _ _ _
   | exact ih2 _ _ _ _ _ _ _ _
   | exact ih3 _ _ _ _ _ _ _
   | exact ih4 _ _ _ _ _ _
   | exact ih5 _ _ _ _ _ _ _ _
   | exact ih6 _ _ _ _ _ _ _ _ _ _
   | exact levyref17_Ordered.mono _ _
   | exact levyref17_Sub.mono _ _ _
   | exact levyref17_mark.mono _ _ _ _ _ _ _ _ _
   | exact levyref17_row.mono _ _ _ _ _
   | exact LeO.none _
   | refine LeO.ite ?_ ?_
   | refine LeO.bind ?_ (fun _ => ?_)
  ·intro y0 y1 y2 y3 y4 y5 y6 y7
   unfold levyref17_Draw.j2
   repeat' first
   | (with_reducible exact ih0 _ _ _ _)
   | (with_reducible exact ih1 _ _ _ _ _ _)
   | (with_reducible exact ih2 _ _ _ _ _ _ _ _)
   | (with_reducible exact ih3 _ _ _ _ _ _ _)
   | (with_reducible exact ih4 _ _ _ _ _ _)
   | (with_reducible exact ih5 _ _ _ _ _ _ _ _)
   | (with_reducible exact ih6 _ _ _ _ _ _ _ _ _ _)
   | (with_reducible exact levyref17_Ordered.mono _ _)
   | (with_reducible exact levyref17_Sub.mono _ _ _)
   | (with_reducible exact levyref17_mark.mono _ _ _ _ _ _ _ _ _)
   | (with_reducible exact levyref17_row.mono _ _ _ _ _)
   | (with_reducible exact LeO.refl _)
   | (with_reducible exact LeO.none _)
   | (with_reducible refine LeO.ite ?_ ?_)
   | (with_reducible refine LeO.bind ?_ (fun _ => ?_))
   | exact ih0 _ _ _ _
   | exact ih1 _ _ _ _ _ _
   | exact ih2 _ _ _ _ _ _ _ _
   | exact ih3 _ _ _ _ _ _ _
   | exact ih4 _ _ _ _ _ _
   | exact ih5 _ _ _ _ _ _ _ _
   | exact ih6 _ _ _ _ _ _ _ _ _ _
   | exact levyref17_Ordered.mono _ _
   | exact levyref17_Sub.mono _ _ _
   | exact levyref17_mark.mono _ _ _ _ _ _ _ _ _
   | exact levyref17_row.mono _ _ _ _ _
   | exact LeO.none _
   | refine LeO.ite ?_ ?_
   | refine LeO.bind ?_ (fun _ => ?_)
  ·intro y0 y1 y2 y3 y4 y5 y6
   unfold levyref17_Draw.j3
   repeat' first
   | (with_reducible exact ih0 _ _ _ _)
   | (with_reducible exact ih1 _ _ _ _ _ _)
   | (with_reducible exact ih2 _ _ _ _ _ _ _ _)
   | (with_reducible exact ih3 _ _ _ _ _ _ _)
   | (with_reducible exact ih4 _ _ _ _ _ _)
   | (with_reducible exact ih5 _ _ _ _ _ _ _ _)
   | (with_reducible exact ih6 _ _ _ _ _ _ _ _ _ _)
   | (with_reducible exact levyref17_Ordered.mono _ _)
   | (with_reducible exact levyref17_Sub.mono _ _ _)
   | (with_reducible exact levyref17_mark.mono _ _ _ _ _ _ _ _ _)
   | (with_reducible exact levyref17_row.mono _ _ _ _ _)
   | (with_reducible exact LeO.refl _)
   | (with_reducible exact LeO.none _)
   | (with_reducible refine LeO.ite ?_ ?_)
   | (with_reducible refine LeO.bind ?_ (fun _ => ?_))
   | exact ih0 _ _ _ _
   | exact ih1 _ _ _ _ _ _
   | exact ih2 _ _ _ _ _ _ _ _
   | exact ih3 _ _ _ _ _ _ _
   | exact ih4 _ _ _ _ _ _
   | exact ih5 _ _ _ _ _ _ _ _
   | exact ih6 _ _ _ _ _ _ _ _ _ _
   | exact levyref17_Ordered.mono _ _
   | exact levyref17_Sub.mono _ _ _
   | exact levyref17_mark.mono _ _ _ _ _ _ _ _ _
   | exact levyref17_row.mono _ _ _ _ _
   | exact LeO.none _
   | refine LeO.ite ?_ ?_
   | refine LeO.bind ?_ (fun _ => ?_)
  ·intro y0 y1 y2 y3 y4 y5
   unfold levyref17_Draw.j4
   repeat' first
   | (with_reducible exact ih0 _ _ _ _)
   | (with_reducible exact ih1 _ _ _ _ _ _)
   | (with_reducible exact ih2 _ _ _ _ _ _ _ _)
   | (with_reducible exact ih3 _ _ _ _ _ _ _)
   | (with_reducible exact ih4 _ _ _ _ _ _)
   | (with_reducible exact ih5 _ _ _ _ _ _ _ _)
   | (with_reducible exact ih6 _ _ _ _ _ _ _ _ _ _)
   | (with_reducible exact levyref17_Ordered.mono _ _)
   | (with_reducible exact levyref17_Sub.mono _ _ _)
   | (with_reducible exact levyref17_mark.mono _ _ _ _ _ _ _ _ _)
   | (with_reducible exact levyref17_row.mono _ _ _ _ _)
   | (with_reducible exact LeO.refl _)
   | (with_reducible exact LeO.none _)
   | (with_reducible refine LeO.ite ?_ ?_)
   | (with_reducible refine LeO.bind ?_ (fun _ => ?_))
   | exact ih0 _ _ _ _
   | exact ih1 _ _ _ _ _ _
   | exact ih2 _ _ _ _ _ _ _ _
   | exact ih3 _ _ _ _ _ _ _
   | exact ih4 _ _ _ _ _ _
   | exact ih5 _ _ _ _ _ _ _ _
   | exact ih6 _ _ _ _ _ _ _ _ _ _
   | exact levyref17_Ordered.mono _ _
   | exact levyref17_Sub.mono _ _ _
   | exact levyref17_mark.mono _ _ _ _ _ _ _ _ _
   | exact levyref17_row.mono _ _ _ _ _
   | exact LeO.none _
   | refine LeO.ite ?_ ?_
   | refine LeO.bind ?_ (fun _ => ?_)
  ·intro y0 y1 y2 y3 y4 y5 y6 y7
   unfold levyref17_Draw.l1
   repeat' first
   | (with_reducible exact ih0 _ _ _ _)
   | (with_reducible exact ih1 _ _ _ _ _ _)
   | (with_reducible exact ih2 _ _ _ _ _ _ _ _)
   | (with_reducible exact ih3 _ _ _ _ _ _ _)
   | (with_reducible exact ih4 _ _ _ _ _ _)
   | (with_reducible exact ih5 _ _ _ _ _ _ _ _)
   | (with_reducible exact ih6 _ _ _ _ _ _ _ _ _ _)
   | (with_reducible exact levyref17_Ordered.mono _ _)
   | (with_reducible exact levyref17_Sub.mono _ _ _)
   | (with_reducible exact levyref17_mark.mono _ _ _ _ _ _ _ _ _)
   | (with_reducible exact levyref17_row.mono _ _ _ _ _)
   | (with_reducible exact LeO.refl _)
   | (with_reducible exact LeO.none _)
   | (with_reducible refine LeO.ite ?_ ?_)
   | (with_reducible refine LeO.bind ?_ (fun _ => ?_))
   | exact ih0 _ _ _ _
   | exact ih1 _ _ _ _ _ _
   | exact ih2 _ _ _ _ _ _ _ _
   | exact ih3 _ _ _ _ _ _ _
   | exact ih4 _ _ _ _ _ _
   | exact ih5 _ _ _ _ _ _ _ _
   | exact ih6 _ _ _ _ _ _ _ _ _ _
   | exact levyref17_Ordered.mono _ _
   | exact levyref17_Sub.mono _ _ _
   | exact levyref17_mark.mono _ _ _ _ _ _ _ _ _
   | exact levyref17_row.mono _ _ _ _ _
   | exact LeO.none _
   | refine LeO.ite ?_ ?_
   | refine LeO.bind ?_ (fun _ => ?_)
  ·intro y0 y1 y2 y3 y4 y5 y6 y7 y8 y9
   unfold levyref17_Draw.l2
   repeat' first
   | (with_reducible exact ih0 _ _ _ _)
   | (with_reducible exact ih1 _ _ _ _ _ _)
   | (with_reducible exact ih2 _ _ _ _ _ _ _ _)
   | (with_reducible exact ih3 _ _ _ _ _ _ _)
   | (with_reducible exact ih4 _ _ _ _ _ _)
   | (with_reducible exact ih5 _ _ _ _ _ _ _ _)
   | (with_reducible exact ih6 _ _ _ _ _ _ _ _ _ _)
   | (with_reducible exact levyref17_Ordered.mono _ _)
   | (with_reducible exact levyref17_Sub.mono _ _ _)
   | (with_reducible exact levyref17_mark.mono _ _ _ _ _ _ _ _ _)
   | (with_reducible exact levyref17_row.mono _ _ _ _ _)
   | (with_reducible exact LeO.refl _)
   | (with_reducible exact LeO.none _)
   | (with_reducible refine LeO.ite ?_ ?_)
   | (with_reducible refine LeO.bind ?_ (fun _ => ?_))
   | exact ih0 _ _ _ _
   | exact ih1 _ _ _ _ _ _
   | exact ih2 _ _ _ _ _ _ _ _
   | exact ih3 _ _ _ _ _ _ _
   | exact ih4 _ _ _ _ _ _
   | exact ih5 _ _ _ _ _ _ _ _
   | exact ih6 _ _ _ _ _ _ _ _ _ _
   | exact levyref17_Ordered.mono _ _
   | exact levyref17_Sub.mono _ _ _
   | exact levyref17_mark.mono _ _ _ _ _ _ _ _ _
   | exact levyref17_row.mono _ _ _ _ _
   | exact LeO.none _
   | refine LeO.ite ?_ ?_
   | refine LeO.bind ?_ (fun _ => ?_)
theorem levyref17_Draw.mono : ∀ a0 a1 a2 k, LeO (levyref17_Draw.f k a0 a1 a2) (levyref17_Draw.f (k + 1) a0 a1 a2) := by
 intro a0 a1 a2 k
 obtain ⟨ih0, ih1, ih2, ih3, ih4, ih5, ih6⟩ := levyref17_Draw.mono_l k
 unfold levyref17_Draw.f
 repeat' first
   | (with_reducible exact ih0 _ _ _ _)
   | (with_reducible exact ih1 _ _ _ _ _ _)
   | (with_reducible exact ih2 _ _ _ _ _ _ _ _)
   | (with_reducible exact ih3 _ _ _ _ _ _ _)
   | (with_reducible exact ih4 _ _ _ _ _ _)
   | (with_reducible exact ih5 _ _ _ _ _ _ _ _)
   | (with_reducible exact ih6 _ _ _ _ _ _ _ _ _ _)
   | (with_reducible exact levyref17_Ordered.mono _ _)
   | (with_reducible exact levyref17_Sub.mono _ _ _)
   | (with_reducible exact levyref17_mark.mono _ _ _ _ _ _ _ _ _)
   | (with_reducible exact levyref17_row.mono _ _ _ _ _)
   | (with_reducible exact LeO.refl _)
   | (with_reducible exact LeO.none _)
   | (with_reducible refine LeO.ite ?_ ?_)
   | (with_reducible refine LeO.bind ?_ (fun _ => ?_))
   | exact ih0 _ _ _ _
   | exact ih1 _ _ _ _ _ _
   | exact ih2 _ _ _ _ _ _ _ _
   | exact ih3 _ _ _ _ _ _ _
   | exact ih4 _ _ _ _ _ _
   | exact ih5 _ _ _ _ _ _ _ _
   | exact ih6 _ _ _ _ _ _ _ _ _ _
   | exact levyref17_Ordered.mono _ _
   | exact levyref17_Sub.mono _ _ _
   | exact levyref17_mark.mono _ _ _ _ _ _ _ _ _
   | exact levyref17_row.mono _ _ _ _ _
   | exact LeO.none _
   | refine LeO.ite ?_ ?_
   | refine LeO.bind ?_ (fun _ => ?_)
set_option maxHeartbeats 8000000 in
set_option maxRecDepth 100000 in
theorem levyref17_Draw.calls (k : Nat) (A0 : Option Addr) (c0 : Nat) (l0 : List (S38)) (a1 : Int) (a2 : Int) (r1 : List ByteArray) (r2 : Int) (w : World) (hr0 : Kd.C k38 w A0 l0.length l0) (hc0 : l0.length ≤ c0) (h : levyref17_Draw.f k l0 a1 a2 = some (r1, r2)) :
  Calls Try.prog 46 #[.slice A0 l0.length c0, .int .i64 a1, .int .i64 a2] w fun e w' => ∃ v0_ : Value, e = .returned (.tuple #[v0_, .int .i64 r2]) ∧ Kd.R Kd.string 9 w' w.heap.size (fun _ => True) v0_ r1 ∧ Below w.heap.size w w' := by
 have HR0 := Aside0.mk hr0
 have HC0 := Aside0.mk hc0
 clear hr0 hc0
 have HB := Aside0.mk (Below.refl w.heap.size w)
 have H : (if a1 < 2 then (levyref17_Draw.j0 k l0 a1 a2 true) else (if a1 > 72 then (levyref17_Draw.j0 k l0 a1 a2 true) else (if a2 < 2 then (levyref17_Draw.j0 k l0 a1 a2 true) else (levyref17_Draw.j0 k l0 a1 a2 (decide (a2 > 40)))))) = some (r1, r2) := h
 clear h
 have HC4 := Aside0.mk H
 clear H
 go_enter Try.func46, Try.ntmps46
 go_upto_region 1 with (fail)
 go_cut [36] (fun v36 wc => ∃ (kq : Nat) (x36_3 : Bool), v36 = .bool x36_3 ∧ Aside0 (levyref17_Draw.j0 kq l0 a1 a2 x36_3 = some (r1, r2)) ∧ Aside0 (kq ≤ k) ∧ Aside0 (Below w.heap.size w wc))
 case first =>
  have H := HC4.out
  clear HC4
  by_cases c5 : a1 < 2
  ·rw [if_pos c5] at H
   have c5b0 : decide (a1 < 2) = true := decide_eq_true c5
   clear c5
   (first | rw [c5b0] | (simp only [i64_w, i32_w]; rw [c5b0]) | skip)
   have H' := Aside0.mk H
   clear H
   go_wp2
   go_meet
   case rel => exact ⟨_, (true), (by first | rfl | (simp; done) | (simp [*]; done)), H', ⟨by first | omega | exact Nat.le_refl _⟩, ⟨blx⟩⟩
  ·rw [if_neg c5] at H
   have c5b0 : decide (a1 < 2) = false := decide_eq_false c5
   clear c5
   (first | rw [c5b0] | (simp only [i64_w, i32_w]; rw [c5b0]) | skip)
   by_cases c6 : a1 > 72
   ·rw [if_pos c6] at H
    have c6b0 : decide (72 < a1) = true := decide_eq_true c6
    clear c6
    have H' := Aside0.mk H
    clear H
    go_wp2
    go_meet
    case rel => exact ⟨_, (true), (by first | rfl | (simp; done) | (simp [*]; done)), H', ⟨by first | omega | exact Nat.le_refl _⟩, ⟨blx⟩⟩
   ·rw [if_neg c6] at H
    have c6b0 : decide (72 < a1) = false := decide_eq_false c6
    clear c6
    by_cases c7 : a2 < 2
    ·rw [if_pos c7] at H
     have c7b0 : decide (a2 < 2) = true := decide_eq_true c7
     clear c7
     have H' := Aside0.mk H
     clear H
     go_wp2
     go_meet
     case rel => exact ⟨_, (true), (by first | rfl | (simp; done) | (simp [*]; done)), H', ⟨by first | omega | exact Nat.le_refl _⟩, ⟨blx⟩⟩
    ·rw [if_neg c7] at H
     have c7b0 : decide (a2 < 2) = false := decide_eq_false c7
     clear c7
     have H' := Aside0.mk H
     clear H
     go_wp2
     go_meet
     case rel => exact ⟨_, (decide (a2 > 40)), (by first | rfl | (simp; done) | (simp [*]; done)), H', ⟨by first | omega | exact Nat.le_refl _⟩, ⟨blx⟩⟩
 case rest =>
  clear HC4
  try clear p2
  try clear c4
  try clear c5
  try clear c5b0
  try clear c6
  try clear c6b0
  try clear c7
  try clear c7b0
  obtain ⟨kq, x36_3, rfl, HA, HJ3, HB⟩ := hcut
  cases kq with
  | zero => exact absurd HA.out (by simp [levyref17_Draw.j0])
  | succ kj3 =>
   have H := HA.out
   clear HA
   simp only [levyref17_Draw.j0] at H
   by_cases c8 : x36_3 = true
   ·subst c8
    have H1 : (some (([] : List ByteArray), 174)) = some (r1, r2) := by rw [if_pos rfl] at H; exact H
    clear H
    have H := H1
    clear H1
    simp only [Option.some.injEq, Prod.mk.injEq] at H
    obtain ⟨rfl, rfl⟩ := H
    go_wp2
    go_ret2
    exact ⟨_, by first | rfl | (simp [errW_none, errW_some] <;> rfl) | (simp [*, errW_none, errW_some] <;> rfl), by first | exact Kd.R_nil _ _ _ _ _ | exact Kd.N_nil _ _ _ _ _ | exact Kd.V_nil _ _ _ _ _ | exact Kd.Q_nil _ _ _ _ _ | exact Kd.S_nil _ _ _ _ _, blx⟩
   ·replace c8 := Bool.eq_false_iff.mpr c8
    subst c8
    have H1 : ((levyref17_Ordered.f kj3 l0).bind fun t234 => (if t234 = true then (levyref17_Draw.l0 kj3 l0 a1 a2 0 0 0) else (some (([] : List ByteArray), 172)))) = some (r1, r2) := by rw [if_neg (show ¬ (false = true) by decide)] at H; exact H
    clear H
    have H := H1
    clear H1
    replace H := Option.bind_eq_some_iff.mp H
    obtain ⟨t234, A90, H⟩ := H
    replace H : (if t234 = true then (levyref17_Draw.l0 kj3 l0 a1 a2 0 0 0) else (some (([] : List ByteArray), 172))) = some (r1, r2) := H
    have A9 := Aside0.mk A90
    clear A90
    by_cases c10 : t234 = true
    ·subst c10
     have H1 : (levyref17_Draw.l0 kj3 l0 a1 a2 0 0 0) = some (r1, r2) := by rw [if_pos rfl] at H; exact H
     clear H
     have H := H1
     clear H1
     have H' := Aside0.mk H
     clear H
     go_wp2_with (first | ((with_reducible refine gate_callee (f := 55) rfl ?_); refine goesL_ (some 38) rfl rfl Try.func55 (by kernel_rfl) rfl #[.slice A0 l0.length c0] rfl agx ?_; (with_reducible refine (levyref17_Ordered.calls kj3 _ _ l0 true _ ?side1 ?side2 A9.out).mono ?_); (case side1 => repeat (first | exact (Kd.C_below HR0.out HB.out) | (with_reducible refine Kd.C_alloc ?_ _) | (with_reducible refine Kd.C_drewN ?_ _) | (with_reducible refine Kd.C_drew ?_))); (case side2 => exact HC0.out); rintro e w' ⟨rfl, ⟨nd, rfl⟩⟩; refine ⟨_, rfl, ?_⟩))
     go_loopg [9, 10, 11] kj3 (fun kq v9 v10 v11 w' => ∃ (x9_2 : Int) (x10_2 : Int) (x11_2 : Int), v9 = .int .u32 x9_2 ∧ v10 = .int .u32 x10_2 ∧ v11 = .int .i64 x11_2 ∧ Aside0 (levyref17_Draw.l0 kq l0 a1 a2 x9_2 x10_2 x11_2 = some (r1, r2)) ∧ Aside0 (kq ≤ kj3) ∧ Aside0 (Below w.heap.size w w'))
     case atStart => exact ⟨(0), (0), (0), (by first | rfl | (simp; done) | (simp [*]; done)), (by first | rfl | (simp; done) | (simp [*]; done)), (by first | rfl | (simp; done) | (simp [*]; done)), H', ⟨Nat.le_refl _⟩, ⟨blx⟩⟩
     case round =>
      clear H'
      try clear c1
      try clear p2
      try clear c4
      try clear c5
      try clear c5b0
      try clear c6
      try clear c6b0
      try clear c7
      try clear c7b0
      try clear c8
      try clear c10
      try clear p2
      obtain ⟨x9_2, x10_2, x11_2, rfl, rfl, rfl, HA, HK2, HB⟩ := hrel
      cases gk with
      | zero => exact absurd HA.out (by simp [levyref17_Draw.l0])
      | succ k2 =>
       have H := HA.out
       clear HA
       simp only [levyref17_Draw.l0] at H
       by_cases c11 : x11_2 < (l0.length : Int)
       ·rw [if_pos c11] at H
        have c11b0 : decide (x11_2 < (l0.length : Int)) = true := decide_eq_true c11
        clear c11
        by_cases c12 : 0 ≤ x11_2
        ·rw [if_pos c12] at H
         have c12b0 : decide (0 ≤ x11_2) = true := decide_eq_true c12
         clear c12
         replace H := Option.bind_eq_some_iff.mp H
         obtain ⟨t236, A130, H⟩ := H
         replace H : ((levyref17_Less.f x10_2 ((rd_T38 l0 x11_2).f1)).bind fun t238 => (if x11_2 = 0 then (levyref17_Draw.j2 k2 l0 a1 a2 x9_2 x10_2 x11_2 t238 true) else (levyref17_Draw.j2 k2 l0 a1 a2 x9_2 x10_2 x11_2 t238 t236))) = some (r1, r2) := H
         have A13 := Aside0.mk A130
         clear A130
         replace H := Option.bind_eq_some_iff.mp H
         obtain ⟨t238, A140, H⟩ := H
         replace H : (if x11_2 = 0 then (levyref17_Draw.j2 k2 l0 a1 a2 x9_2 x10_2 x11_2 t238 true) else (levyref17_Draw.j2 k2 l0 a1 a2 x9_2 x10_2 x11_2 t238 t236)) = some (r1, r2) := H
         have A14 := Aside0.mk A140
         clear A140
         have HC15 := Aside0.mk H
         clear H
         have p235 : 0 ≤ (x11_2 : Int) := odx
         have q235 : x11_2 < (l0.length : Int) := odx
         obtain ⟨ad235, e235, hx235_0, hx235_1⟩ := at_T38 HR0.out x11_2 p235 q235
         cases e235
         replace hx235_0 := (HB.out.cell (World.block_lt_of_cell? w _ hx235_0)).trans hx235_0
         replace hx235_1 := (HB.out.cell (World.block_lt_of_cell? w _ hx235_1)).trans hx235_1
         replace p235 := eq_true p235
         replace q235 := eq_true q235
         go_upto_region 12 with (first | ((with_reducible refine gate_callee (f := 61) rfl ?_); refine goesL_ (some 53) rfl rfl Try.func61 (by kernel_rfl) rfl #[.int .u32 ((rd_T38 l0 x11_2).f1), .int .u32 x9_2] rfl agx ?_; (with_reducible refine (levyref17_Less.calls ((rd_T38 l0 x11_2).f1) x9_2 t236 _ A13.out).mono ?_); rintro e w' ⟨rfl, ⟨nd, rfl⟩⟩; refine ⟨_, rfl, ?_⟩; have p237 : 0 ≤ (x11_2 : Int) := odx; have q237 : x11_2 < (l0.length : Int) := odx; obtain ⟨ad237, e237, hx237_0, hx237_1⟩ := at_T38 HR0.out x11_2 p237 q237; obtain rfl : ad235 = ad237 := (by injection e237); replace hx237_0 := (HB.out.cell (World.block_lt_of_cell? w _ hx237_0)).trans hx237_0; replace hx237_1 := (HB.out.cell (World.block_lt_of_cell? w _ hx237_1)).trans hx237_1; replace p237 := eq_true p237; replace q237 := eq_true q237) | ((with_reducible refine gate_callee (f := 61) rfl ?_); refine goesL_ (some 60) rfl rfl Try.func61 (by kernel_rfl) rfl #[.int .u32 x10_2, .int .u32 ((rd_T38 l0 x11_2).f1)] rfl agx ?_; (with_reducible refine (levyref17_Less.calls x10_2 ((rd_T38 l0 x11_2).f1) t238 _ A14.out).mono ?_); rintro e w' ⟨rfl, ⟨nd, rfl⟩⟩; refine ⟨_, rfl, ?_⟩))
         (try simp only [Act.put, List.setIfInBounds_toArray, List.set_cons_zero, List.set_cons_succ])
         go_cut [65] (fun v65 wc => ∃ (kq : Nat) (x65_14 : Bool), v65 = .bool x65_14 ∧ Aside0 (levyref17_Draw.j2 kq l0 a1 a2 x9_2 x10_2 x11_2 t238 x65_14 = some (r1, r2)) ∧ Aside0 (kq ≤ k2) ∧ Aside0 (Below w.heap.size w wc))
         case first =>
          have H := HC15.out
          clear HC15
          by_cases c16 : x11_2 = 0
          ·rw [if_pos c16] at H
           have c16b0 : (x11_2 == 0) = true := beq_iff_eq.mpr c16
           have c16b1 : (x11_2 != 0) = false := bne_eq_false_iff_eq.mpr c16
           clear c16
           (first | rw [c16b0] | (simp only [i64_w, i32_w]; rw [c16b0]) | skip)
           have H' := Aside0.mk H
           clear H
           go_wp2
           go_meet
           case rel => exact ⟨_, (true), (by first | rfl | (simp; done) | (simp [*]; done)), H', ⟨by have := HJ3.out; have := HK2.out; first | omega | exact Nat.le_refl _⟩, ⟨blx⟩⟩
          ·rw [if_neg c16] at H
           have c16b0 : (x11_2 == 0) = false := beq_eq_false_iff_ne.mpr c16
           have c16b1 : (x11_2 != 0) = true := bne_iff_ne.mpr c16
           (first | rw [c16b0] | (simp only [i64_w, i32_w]; rw [c16b0]) | skip)
           have H' := Aside0.mk H
           clear H
           go_wp2
           go_meet
           case rel => exact ⟨_, (t236), (by first | rfl | (simp; done) | (simp [*]; done)), H', ⟨by have := HJ3.out; have := HK2.out; first | omega | exact Nat.le_refl _⟩, ⟨blx⟩⟩
         case rest =>
          clear HC15
          try clear c1
          try clear p2
          try clear q2
          try clear hx2
          try clear c4
          try clear c5
          try clear c5b0
          try clear c6
          try clear c6b0
          try clear c7
          try clear c7b0
          try clear c8
          try clear c10
          try clear c11
          try clear c11b0
          try clear c12
          try clear c12b0
          try clear c16
          try clear c16b0
          try clear c16b1
          try clear hx235_0
          try clear hx235_1
          try clear hx237_0
          try clear hx237_1
          try clear p2
          try clear p235
          try clear p237
          try clear q235
          try clear q237
          obtain ⟨kq, x65_14, rfl, HA, HJ14, HB⟩ := hcut
          cases kq with
          | zero => exact absurd HA.out (by simp [levyref17_Draw.j2])
          | succ kj14 =>
           have H := HA.out
           clear HA
           simp only [levyref17_Draw.j2] at H
           by_cases c17 : x65_14 = true
           ·subst c17
            have H1 : (if 0 ≤ x11_2 then (if x11_2 < (l0.length : Int) then (if x11_2 = 0 then (levyref17_Draw.l0 kj14 l0 a1 a2 ((rd_T38 l0 x11_2).f1) ((rd_T38 l0 x11_2).f1) (wrap64 (x11_2 + 1))) else (if t238 = true then (levyref17_Draw.l0 kj14 l0 a1 a2 ((rd_T38 l0 x11_2).f1) ((rd_T38 l0 x11_2).f1) (wrap64 (x11_2 + 1))) else (levyref17_Draw.l0 kj14 l0 a1 a2 ((rd_T38 l0 x11_2).f1) x10_2 (wrap64 (x11_2 + 1))))) else (none)) else (none)) = some (r1, r2) := by rw [if_pos rfl] at H; exact H
            clear H
            have H := H1
            clear H1
            by_cases c18 : 0 ≤ x11_2
            ·rw [if_pos c18] at H
             have c18b0 : decide (0 ≤ x11_2) = true := decide_eq_true c18
             clear c18
             by_cases c19 : x11_2 < (l0.length : Int)
             ·rw [if_pos c19] at H
              have c19b0 : decide (x11_2 < (l0.length : Int)) = true := decide_eq_true c19
              clear c19
              by_cases c20 : x11_2 = 0
              ·rw [if_pos c20] at H
               have c20b0 : (x11_2 == 0) = true := beq_iff_eq.mpr c20
               have c20b1 : (x11_2 != 0) = false := bne_eq_false_iff_eq.mpr c20
               clear c20
               have H' := Aside0.mk H
               clear H
               have p239 : 0 ≤ (x11_2 : Int) := odx
               have q239 : x11_2 < (l0.length : Int) := odx
               obtain ⟨ad239, e239, hx239_0, hx239_1⟩ := at_T38 HR0.out x11_2 p239 q239
               obtain rfl : ad235 = ad239 := (by injection e239)
               replace hx239_0 := (HB.out.cell (World.block_lt_of_cell? w _ hx239_0)).trans hx239_0
               replace hx239_1 := (HB.out.cell (World.block_lt_of_cell? w _ hx239_1)).trans hx239_1
               replace p239 := eq_true p239
               replace q239 := eq_true q239
               have p240 : 0 ≤ (x11_2 : Int) := odx
               have q240 : x11_2 < (l0.length : Int) := odx
               obtain ⟨ad240, e240, hx240_0, hx240_1⟩ := at_T38 HR0.out x11_2 p240 q240
               obtain rfl : ad235 = ad240 := (by injection e240)
               replace hx240_0 := (HB.out.cell (World.block_lt_of_cell? w _ hx240_0)).trans hx240_0
               replace hx240_1 := (HB.out.cell (World.block_lt_of_cell? w _ hx240_1)).trans hx240_1
               replace p240 := eq_true p240
               replace q240 := eq_true q240
               go_wp2
               go_roundg kj14
               case measure => have := HJ3.out; have := HK2.out; have := HJ14.out; omega
               case rel => exact ⟨((rd_T38 l0 x11_2).f1), ((rd_T38 l0 x11_2).f1), (wrap64 (x11_2 + 1)), (by first | rfl | (simp; done) | (simp [*]; done)), (by first | rfl | (simp; done) | (simp [*]; done)), (by first | rfl | (simp; done) | (simp [*]; done)), H', ⟨by have := HJ3.out; have := HK2.out; have := HJ14.out; omega⟩, ⟨blx⟩⟩
              ·rw [if_neg c20] at H
               have c20b0 : (x11_2 == 0) = false := beq_eq_false_iff_ne.mpr c20
               have c20b1 : (x11_2 != 0) = true := bne_iff_ne.mpr c20
               by_cases c21 : t238 = true
               ·subst c21
                have H1 : (levyref17_Draw.l0 kj14 l0 a1 a2 ((rd_T38 l0 x11_2).f1) ((rd_T38 l0 x11_2).f1) (wrap64 (x11_2 + 1))) = some (r1, r2) := by rw [if_pos rfl] at H; exact H
                clear H
                have H := H1
                clear H1
                have H' := Aside0.mk H
                clear H
                have p239 : 0 ≤ (x11_2 : Int) := odx
                have q239 : x11_2 < (l0.length : Int) := odx
                obtain ⟨ad239, e239, hx239_0, hx239_1⟩ := at_T38 HR0.out x11_2 p239 q239
                obtain rfl : ad235 = ad239 := (by injection e239)
                replace hx239_0 := (HB.out.cell (World.block_lt_of_cell? w _ hx239_0)).trans hx239_0
                replace hx239_1 := (HB.out.cell (World.block_lt_of_cell? w _ hx239_1)).trans hx239_1
                replace p239 := eq_true p239
                replace q239 := eq_true q239
                have p241 : 0 ≤ (x11_2 : Int) := odx
                have q241 : x11_2 < (l0.length : Int) := odx
                obtain ⟨ad241, e241, hx241_0, hx241_1⟩ := at_T38 HR0.out x11_2 p241 q241
                obtain rfl : ad235 = ad241 := (by injection e241)
                replace hx241_0 := (HB.out.cell (World.block_lt_of_cell? w _ hx241_0)).trans hx241_0
                replace hx241_1 := (HB.out.cell (World.block_lt_of_cell? w _ hx241_1)).trans hx241_1
                replace p241 := eq_true p241
                replace q241 := eq_true q241
                go_wp2
                go_roundg kj14
                case measure => have := HJ3.out; have := HK2.out; have := HJ14.out; omega
                case rel => exact ⟨((rd_T38 l0 x11_2).f1), ((rd_T38 l0 x11_2).f1), (wrap64 (x11_2 + 1)), (by first | rfl | (simp; done) | (simp [*]; done)), (by first | rfl | (simp; done) | (simp [*]; done)), (by first | rfl | (simp; done) | (simp [*]; done)), H', ⟨by have := HJ3.out; have := HK2.out; have := HJ14.out; omega⟩, ⟨blx⟩⟩
               ·replace c21 := Bool.eq_false_iff.mpr c21
                subst c21
                have H1 : (levyref17_Draw.l0 kj14 l0 a1 a2 ((rd_T38 l0 x11_2).f1) x10_2 (wrap64 (x11_2 + 1))) = some (r1, r2) := by rw [if_neg (show ¬ (false = true) by decide)] at H; exact H
                clear H
                have H := H1
                clear H1
                have H' := Aside0.mk H
                clear H
                have p239 : 0 ≤ (x11_2 : Int) := odx
                have q239 : x11_2 < (l0.length : Int) := odx
                obtain ⟨ad239, e239, hx239_0, hx239_1⟩ := at_T38 HR0.out x11_2 p239 q239
                obtain rfl : ad235 = ad239 := (by injection e239)
                replace hx239_0 := (HB.out.cell (World.block_lt_of_cell? w _ hx239_0)).trans hx239_0
                replace hx239_1 := (HB.out.cell (World.block_lt_of_cell? w _ hx239_1)).trans hx239_1
                replace p239 := eq_true p239
                replace q239 := eq_true q239
                go_wp2
                go_roundg kj14
                case measure => have := HJ3.out; have := HK2.out; have := HJ14.out; omega
                case rel => exact ⟨((rd_T38 l0 x11_2).f1), (x10_2), (wrap64 (x11_2 + 1)), (by first | rfl | (simp; done) | (simp [*]; done)), (by first | rfl | (simp; done) | (simp [*]; done)), (by first | rfl | (simp; done) | (simp [*]; done)), H', ⟨by have := HJ3.out; have := HK2.out; have := HJ14.out; omega⟩, ⟨blx⟩⟩
             ·rw [if_neg c19] at H
              exact absurd H (by simp)
            ·rw [if_neg c18] at H
             exact absurd H (by simp)
           ·replace c17 := Bool.eq_false_iff.mpr c17
            subst c17
            have H1 : (if x11_2 = 0 then (if 0 ≤ x11_2 then (if x11_2 < (l0.length : Int) then (levyref17_Draw.l0 kj14 l0 a1 a2 x9_2 ((rd_T38 l0 x11_2).f1) (wrap64 (x11_2 + 1))) else (none)) else (none)) else (if t238 = true then (if 0 ≤ x11_2 then (if x11_2 < (l0.length : Int) then (levyref17_Draw.l0 kj14 l0 a1 a2 x9_2 ((rd_T38 l0 x11_2).f1) (wrap64 (x11_2 + 1))) else (none)) else (none)) else (levyref17_Draw.l0 kj14 l0 a1 a2 x9_2 x10_2 (wrap64 (x11_2 + 1))))) = some (r1, r2) := by rw [if_neg (show ¬ (false = true) by decide)] at H; exact H
            clear H
            have H := H1
            clear H1
            by_cases c22 : x11_2 = 0
            ·rw [if_pos c22] at H
             have c22b0 : (x11_2 == 0) = true := beq_iff_eq.mpr c22
             have c22b1 : (x11_2 != 0) = false := bne_eq_false_iff_eq.mpr c22
             clear c22
             by_cases c23 : 0 ≤ x11_2
             ·rw [if_pos c23] at H
              have c23b0 : decide (0 ≤ x11_2) = true := decide_eq_true c23
              clear c23
              by_cases c24 : x11_2 < (l0.length : Int)
              ·rw [if_pos c24] at H
               have c24b0 : decide (x11_2 < (l0.length : Int)) = true := decide_eq_true c24
               clear c24
               have H' := Aside0.mk H
               clear H
               have p242 : 0 ≤ (x11_2 : Int) := odx
               have q242 : x11_2 < (l0.length : Int) := odx
               obtain ⟨ad242, e242, hx242_0, hx242_1⟩ := at_T38 HR0.out x11_2 p242 q242
               obtain rfl : ad235 = ad242 := (by injection e242)
               replace hx242_0 := (HB.out.cell (World.block_lt_of_cell? w _ hx242_0)).trans hx242_0
               replace hx242_1 := (HB.out.cell (World.block_lt_of_cell? w _ hx242_1)).trans hx242_1
               replace p242 := eq_true p242
               replace q242 := eq_true q242
               go_wp2
               go_roundg kj14
               case measure => have := HJ3.out; have := HK2.out; have := HJ14.out; omega
               case rel => exact ⟨(x9_2), ((rd_T38 l0 x11_2).f1), (wrap64 (x11_2 + 1)), (by first | rfl | (simp; done) | (simp [*]; done)), (by first | rfl | (simp; done) | (simp [*]; done)), (by first | rfl | (simp; done) | (simp [*]; done)), H', ⟨by have := HJ3.out; have := HK2.out; have := HJ14.out; omega⟩, ⟨blx⟩⟩
              ·rw [if_neg c24] at H
               exact absurd H (by simp)
             ·rw [if_neg c23] at H
              exact absurd H (by simp)
            ·rw [if_neg c22] at H
             have c22b0 : (x11_2 == 0) = false := beq_eq_false_iff_ne.mpr c22
             have c22b1 : (x11_2 != 0) = true := bne_iff_ne.mpr c22
             by_cases c25 : t238 = true
             ·subst c25
              have H1 : (if 0 ≤ x11_2 then (if x11_2 < (l0.length : Int) then (levyref17_Draw.l0 kj14 l0 a1 a2 x9_2 ((rd_T38 l0 x11_2).f1) (wrap64 (x11_2 + 1))) else (none)) else (none)) = some (r1, r2) := by rw [if_pos rfl] at H; exact H
              clear H
              have H := H1
              clear H1
              by_cases c26 : 0 ≤ x11_2
              ·rw [if_pos c26] at H
               have c26b0 : decide (0 ≤ x11_2) = true := decide_eq_true c26
               clear c26
               by_cases c27 : x11_2 < (l0.length : Int)
               ·rw [if_pos c27] at H
                have c27b0 : decide (x11_2 < (l0.length : Int)) = true := decide_eq_true c27
                clear c27
                have H' := Aside0.mk H
                clear H
                have p243 : 0 ≤ (x11_2 : Int) := odx
                have q243 : x11_2 < (l0.length : Int) := odx
                obtain ⟨ad243, e243, hx243_0, hx243_1⟩ := at_T38 HR0.out x11_2 p243 q243
                obtain rfl : ad235 = ad243 := (by injection e243)
                replace hx243_0 := (HB.out.cell (World.block_lt_of_cell? w _ hx243_0)).trans hx243_0
                replace hx243_1 := (HB.out.cell (World.block_lt_of_cell? w _ hx243_1)).trans hx243_1
                replace p243 := eq_true p243
                replace q243 := eq_true q243
                go_wp2
                go_roundg kj14
                case measure => have := HJ3.out; have := HK2.out; have := HJ14.out; omega
                case rel => exact ⟨(x9_2), ((rd_T38 l0 x11_2).f1), (wrap64 (x11_2 + 1)), (by first | rfl | (simp; done) | (simp [*]; done)), (by first | rfl | (simp; done) | (simp [*]; done)), (by first | rfl | (simp; done) | (simp [*]; done)), H', ⟨by have := HJ3.out; have := HK2.out; have := HJ14.out; omega⟩, ⟨blx⟩⟩
               ·rw [if_neg c27] at H
                exact absurd H (by simp)
              ·rw [if_neg c26] at H
               exact absurd H (by simp)
             ·replace c25 := Bool.eq_false_iff.mpr c25
              subst c25
              have H1 : (levyref17_Draw.l0 kj14 l0 a1 a2 x9_2 x10_2 (wrap64 (x11_2 + 1))) = some (r1, r2) := by rw [if_neg (show ¬ (false = true) by decide)] at H; exact H
              clear H
              have H := H1
              clear H1
              have H' := Aside0.mk H
              clear H
              go_wp2
              go_roundg kj14
              case measure => have := HJ3.out; have := HK2.out; have := HJ14.out; omega
              case rel => exact ⟨(x9_2), (x10_2), (wrap64 (x11_2 + 1)), (by first | rfl | (simp; done) | (simp [*]; done)), (by first | rfl | (simp; done) | (simp [*]; done)), (by first | rfl | (simp; done) | (simp [*]; done)), H', ⟨by have := HJ3.out; have := HK2.out; have := HJ14.out; omega⟩, ⟨blx⟩⟩
        ·rw [if_neg c12] at H
         exact absurd H (by simp)
       ·rw [if_neg c11] at H
        have c11b0 : decide (x11_2 < (l0.length : Int)) = false := decide_eq_false c11
        clear c11
        replace H := Option.bind_eq_some_iff.mp H
        obtain ⟨t244, A280, H⟩ := H
        replace H : ((levyref17_Finite.f t244).bind fun t245 => (if t245 = true then ((levyref17_Less.f 0 x9_2).bind fun t246 => ((levyref17_Less.f x10_2 0).bind fun t247 => (if (l0.length : Int) > 0 then (if t246 = true then (levyref17_Draw.j3 k2 l0 a1 a2 x9_2 x10_2 (-1) false) else (levyref17_Draw.j3 k2 l0 a1 a2 x9_2 x10_2 (-1) (!t247))) else (levyref17_Draw.j3 k2 l0 a1 a2 x9_2 x10_2 (-1) false)))) else (some (([] : List ByteArray), 175)))) = some (r1, r2) := H
        have A28 := Aside0.mk A280
        clear A280
        replace H := Option.bind_eq_some_iff.mp H
        obtain ⟨t245, A290, H⟩ := H
        replace H : (if t245 = true then ((levyref17_Less.f 0 x9_2).bind fun t246 => ((levyref17_Less.f x10_2 0).bind fun t247 => (if (l0.length : Int) > 0 then (if t246 = true then (levyref17_Draw.j3 k2 l0 a1 a2 x9_2 x10_2 (-1) false) else (levyref17_Draw.j3 k2 l0 a1 a2 x9_2 x10_2 (-1) (!t247))) else (levyref17_Draw.j3 k2 l0 a1 a2 x9_2 x10_2 (-1) false)))) else (some (([] : List ByteArray), 175))) = some (r1, r2) := H
        have A29 := Aside0.mk A290
        clear A290
        by_cases c30 : t245 = true
        ·subst c30
         have H1 : ((levyref17_Less.f 0 x9_2).bind fun t246 => ((levyref17_Less.f x10_2 0).bind fun t247 => (if (l0.length : Int) > 0 then (if t246 = true then (levyref17_Draw.j3 k2 l0 a1 a2 x9_2 x10_2 (-1) false) else (levyref17_Draw.j3 k2 l0 a1 a2 x9_2 x10_2 (-1) (!t247))) else (levyref17_Draw.j3 k2 l0 a1 a2 x9_2 x10_2 (-1) false)))) = some (r1, r2) := by rw [if_pos rfl] at H; exact H
         clear H
         have H := H1
         clear H1
         replace H := Option.bind_eq_some_iff.mp H
         obtain ⟨t246, A310, H⟩ := H
         replace H : ((levyref17_Less.f x10_2 0).bind fun t247 => (if (l0.length : Int) > 0 then (if t246 = true then (levyref17_Draw.j3 k2 l0 a1 a2 x9_2 x10_2 (-1) false) else (levyref17_Draw.j3 k2 l0 a1 a2 x9_2 x10_2 (-1) (!t247))) else (levyref17_Draw.j3 k2 l0 a1 a2 x9_2 x10_2 (-1) false))) = some (r1, r2) := H
         have A31 := Aside0.mk A310
         clear A310
         replace H := Option.bind_eq_some_iff.mp H
         obtain ⟨t247, A320, H⟩ := H
         replace H : (if (l0.length : Int) > 0 then (if t246 = true then (levyref17_Draw.j3 k2 l0 a1 a2 x9_2 x10_2 (-1) false) else (levyref17_Draw.j3 k2 l0 a1 a2 x9_2 x10_2 (-1) (!t247))) else (levyref17_Draw.j3 k2 l0 a1 a2 x9_2 x10_2 (-1) false)) = some (r1, r2) := H
         have A32 := Aside0.mk A320
         clear A320
         have HC33 := Aside0.mk H
         clear H
         go_upto_region 23 with (first | ((with_reducible refine gate_callee (f := 56) rfl ?_); refine goesL_ (some 83) rfl rfl Try.func56 (by kernel_rfl) rfl #[.int .u32 x10_2, .int .u32 x9_2] rfl agx ?_; (with_reducible refine (levyref17_Sub.calls k2 x10_2 x9_2 t244 _ A28.out).mono ?_); rintro e w' ⟨rfl, ⟨nd, rfl⟩⟩; refine ⟨_, rfl, ?_⟩) | ((with_reducible refine gate_callee (f := 58) rfl ?_); refine goesL_ (some 85) rfl rfl Try.func58 (by kernel_rfl) rfl #[.int .u32 t244] rfl agx ?_; (with_reducible refine (levyref17_Finite.calls t244 true _ A29.out).mono ?_); rintro e w' ⟨rfl, ⟨nd, rfl⟩⟩; refine ⟨_, rfl, ?_⟩) | ((with_reducible refine gate_callee (f := 61) rfl ?_); refine goesL_ (some 89) rfl rfl Try.func61 (by kernel_rfl) rfl #[.int .u32 0, .int .u32 x9_2] rfl agx ?_; (with_reducible refine (levyref17_Less.calls 0 x9_2 t246 _ A31.out).mono ?_); rintro e w' ⟨rfl, ⟨nd, rfl⟩⟩; refine ⟨_, rfl, ?_⟩) | ((with_reducible refine gate_callee (f := 61) rfl ?_); refine goesL_ (some 91) rfl rfl Try.func61 (by kernel_rfl) rfl #[.int .u32 x10_2, .int .u32 0] rfl agx ?_; (with_reducible refine (levyref17_Less.calls x10_2 0 t247 _ A32.out).mono ?_); rintro e w' ⟨rfl, ⟨nd, rfl⟩⟩; refine ⟨_, rfl, ?_⟩))
         (try simp only [Act.put, List.setIfInBounds_toArray, List.set_cons_zero, List.set_cons_succ])
         go_cut [102] (fun v102 wc => ∃ (kq : Nat) (x102_32 : Bool), v102 = .bool x102_32 ∧ Aside0 (levyref17_Draw.j3 kq l0 a1 a2 x9_2 x10_2 (-1) x102_32 = some (r1, r2)) ∧ Aside0 (kq ≤ k2) ∧ Aside0 (Below w.heap.size w wc))
         case first =>
          have H := HC33.out
          clear HC33
          by_cases c34 : (l0.length : Int) > 0
          ·rw [if_pos c34] at H
           have c34b0 : decide (0 < (l0.length : Int)) = true := decide_eq_true c34
           have c34b1 : decide (0 < l0.length) = true := decide_eq_true (by omega)
           clear c34
           (first | rw [c34b0] | (simp only [i64_w, i32_w]; rw [c34b0]) | skip)
           by_cases c35 : t246 = true
           ·subst c35
            have H1 : (levyref17_Draw.j3 k2 l0 a1 a2 x9_2 x10_2 (-1) false) = some (r1, r2) := by rw [if_pos rfl] at H; exact H
            clear H
            have H := H1
            clear H1
            have H' := Aside0.mk H
            clear H
            go_wp2
            go_meet
            case rel => exact ⟨_, (false), (by first | rfl | (simp; done) | (simp [*]; done)), H', ⟨by have := HJ3.out; have := HK2.out; first | omega | exact Nat.le_refl _⟩, ⟨blx⟩⟩
           ·replace c35 := Bool.eq_false_iff.mpr c35
            subst c35
            have H1 : (levyref17_Draw.j3 k2 l0 a1 a2 x9_2 x10_2 (-1) (!t247)) = some (r1, r2) := by rw [if_neg (show ¬ (false = true) by decide)] at H; exact H
            clear H
            have H := H1
            clear H1
            have H' := Aside0.mk H
            clear H
            go_wp2
            go_meet
            case rel => exact ⟨_, (!t247), (by first | rfl | (simp; done) | (simp [*]; done)), H', ⟨by have := HJ3.out; have := HK2.out; first | omega | exact Nat.le_refl _⟩, ⟨blx⟩⟩
          ·rw [if_neg c34] at H
           have c34b0 : decide (0 < (l0.length : Int)) = false := decide_eq_false c34
           have c34b1 : decide (0 < l0.length) = false := decide_eq_false (by omega)
           clear c34
           (first | rw [c34b0] | (simp only [i64_w, i32_w]; rw [c34b0]) | skip)
           have H' := Aside0.mk H
           clear H
           go_wp2
           go_meet
           case rel => exact ⟨_, (false), (by first | rfl | (simp; done) | (simp [*]; done)), H', ⟨by have := HJ3.out; have := HK2.out; first | omega | exact Nat.le_refl _⟩, ⟨blx⟩⟩
         case rest =>
          clear HC33
          try clear c1
          try clear c2
          try clear p2
          try clear q2
          try clear hx2
          try clear c3
          try clear c4
          try clear c5
          try clear c5b0
          try clear c6
          try clear c6b0
          try clear p6
          try clear c7
          try clear c7b0
          try clear c8
          try clear c10
          try clear c11
          try clear c11b0
          try clear c12
          try clear c12b0
          try clear c16
          try clear c16b0
          try clear c16b1
          try clear c17
          try clear c18
          try clear c18b0
          try clear c19
          try clear c19b0
          try clear c20
          try clear c20b0
          try clear c20b1
          try clear c21
          try clear c22
          try clear c22b0
          try clear c22b1
          try clear c23
          try clear c23b0
          try clear p23
          try clear q23
          try clear hx23
          try clear c24
          try clear c24b0
          try clear p24
          try clear q24
          try clear hx24
          try clear c25
          try clear c26
          try clear c26b0
          try clear c27
          try clear c27b0
          try clear c30
          try clear c34
          try clear c34b0
          try clear c34b1
          try clear c35
          try clear hx235_0
          try clear hx235_1
          try clear hx237_0
          try clear hx237_1
          try clear hx239_0
          try clear hx239_1
          try clear hx240_0
          try clear hx240_1
          try clear hx241_0
          try clear hx241_1
          try clear hx242_0
          try clear hx242_1
          try clear hx243_0
          try clear hx243_1
          try clear p2
          try clear p235
          try clear p237
          try clear p239
          try clear p240
          try clear p241
          try clear p242
          try clear p243
          try clear q2
          try clear q235
          try clear q237
          try clear q239
          try clear q240
          try clear q241
          try clear q242
          try clear q243
          obtain ⟨kq, x102_32, rfl, HA, HJ32, HB⟩ := hcut
          cases kq with
          | zero => exact absurd HA.out (by simp [levyref17_Draw.j3])
          | succ kj32 =>
           have H := HA.out
           clear HA
           simp only [levyref17_Draw.j3] at H
           have HC36 := Aside0.mk H
           clear H
           go_upto_if 102 with (fail)
           go_cut [18] (fun v18 wc => ∃ (kq : Nat) (x18_35 : Int), v18 = .int .i64 x18_35 ∧ Aside0 (levyref17_Draw.j4 kq l0 a1 a2 x9_2 x10_2 x18_35 = some (r1, r2)) ∧ Aside0 (kq ≤ kj32) ∧ Aside0 (Below w.heap.size w wc))
           case first =>
            have H := HC36.out
            clear HC36
            by_cases c37 : x102_32 = true
            ·subst c37
             have H1 : ((levyref17_row.f kj32 0 x9_2 x10_2 a2).bind fun t248 => (levyref17_Draw.j4 kj32 l0 a1 a2 x9_2 x10_2 t248)) = some (r1, r2) := by rw [if_pos rfl] at H; exact H
             clear H
             have H := H1
             clear H1
             replace H := Option.bind_eq_some_iff.mp H
             obtain ⟨t248, A380, H⟩ := H
             replace H : (levyref17_Draw.j4 kj32 l0 a1 a2 x9_2 x10_2 t248) = some (r1, r2) := H
             have A38 := Aside0.mk A380
             clear A380
             have H' := Aside0.mk H
             clear H
             go_wp2_with (first | ((with_reducible refine gate_callee (f := 62) rfl ?_); refine goesL_ (some 106) rfl rfl Try.func62 (by kernel_rfl) rfl #[.int .u32 0, .int .u32 x9_2, .int .u32 x10_2, .int .i64 a2] rfl agx ?_; (with_reducible refine (levyref17_row.calls kj32 0 x9_2 x10_2 a2 t248 _ A38.out).mono ?_); rintro e w' ⟨rfl, ⟨nd, rfl⟩⟩; refine ⟨_, rfl, ?_⟩))
             go_meet
             case rel => exact ⟨_, (t248), (by first | rfl | (simp; done) | (simp [*]; done)), H', ⟨by have := HJ3.out; have := HK2.out; have := HJ32.out; first | omega | exact Nat.le_refl _⟩, ⟨blx⟩⟩
            ·replace c37 := Bool.eq_false_iff.mpr c37
             subst c37
             have H1 : (levyref17_Draw.j4 kj32 l0 a1 a2 x9_2 x10_2 (-1)) = some (r1, r2) := by rw [if_neg (show ¬ (false = true) by decide)] at H; exact H
             clear H
             have H := H1
             clear H1
             have H' := Aside0.mk H
             clear H
             go_wp2
             go_meet
             case rel => exact ⟨_, ((-1)), (by first | rfl | (simp; done) | (simp [*]; done)), H', ⟨by have := HJ3.out; have := HK2.out; have := HJ32.out; first | omega | exact Nat.le_refl _⟩, ⟨blx⟩⟩
           case rest =>
            clear HC36
            try clear c1
            try clear c2
            try clear p2
            try clear q2
            try clear hx2
            try clear c3
            try clear c4
            try clear c5
            try clear c5b0
            try clear c6
            try clear c6b0
            try clear p6
            try clear c7
            try clear c7b0
            try clear c8
            try clear c10
            try clear c11
            try clear c11b0
            try clear c12
            try clear c12b0
            try clear c16
            try clear c16b0
            try clear c16b1
            try clear c17
            try clear c18
            try clear c18b0
            try clear c19
            try clear c19b0
            try clear c20
            try clear c20b0
            try clear c20b1
            try clear c21
            try clear c22
            try clear c22b0
            try clear c22b1
            try clear c23
            try clear c23b0
            try clear p23
            try clear q23
            try clear hx23
            try clear c24
            try clear c24b0
            try clear p24
            try clear q24
            try clear hx24
            try clear c25
            try clear c26
            try clear c26b0
            try clear c27
            try clear c27b0
            try clear c30
            try clear c34
            try clear c34b0
            try clear c34b1
            try clear c35
            try clear c37
            try clear hx235_0
            try clear hx235_1
            try clear hx237_0
            try clear hx237_1
            try clear hx239_0
            try clear hx239_1
            try clear hx240_0
            try clear hx240_1
            try clear hx241_0
            try clear hx241_1
            try clear hx242_0
            try clear hx242_1
            try clear hx243_0
            try clear hx243_1
            try clear p2
            try clear p23
            try clear p235
            try clear p237
            try clear p239
            try clear p24
            try clear p240
            try clear p241
            try clear p242
            try clear p243
            try clear p6
            try clear q2
            try clear q23
            try clear q235
            try clear q237
            try clear q239
            try clear q24
            try clear q240
            try clear q241
            try clear q242
            try clear q243
            obtain ⟨kq, x18_35, rfl, HA, HJ35, HB⟩ := hcut
            cases kq with
            | zero => exact absurd HA.out (by simp [levyref17_Draw.j4])
            | succ kj35 =>
             have H := HA.out
             clear HA
             simp only [levyref17_Draw.j4] at H
             have H' := Aside0.mk H
             clear H
             go_wp2
             go_loopg [19, 20] kj35 (fun kq v19 v20 w' => ∃ (x19_5 : List ByteArray) (x20_5 : Int), v20 = .int .i64 x20_5 ∧ Aside0 (levyref17_Draw.l1 kq l0 a1 a2 x9_2 x10_2 x18_35 x19_5 x20_5 = some (r1, r2)) ∧ Aside0 (kq ≤ kj35) ∧ Aside0 (Kd.R Kd.string 9 w' w.heap.size (fun _ => True) v19 x19_5) ∧ Aside0 (Below w.heap.size w w'))
             case atStart => exact ⟨(([] : List ByteArray)), (wrap64 (a2 - 1)), (by first | rfl | (simp; done) | (simp [*]; done)), H', ⟨Nat.le_refl _⟩, ⟨by first | exact Kd.R_nil _ _ _ _ _ | exact Kd.N_nil _ _ _ _ _ | exact Kd.V_nil _ _ _ _ _ | exact Kd.Q_nil _ _ _ _ _ | exact Kd.S_nil _ _ _ _ _⟩, ⟨blx⟩⟩
             case round =>
              clear H'
              try clear c1
              try clear c2
              try clear p2
              try clear q2
              try clear hx2
              try clear c3
              try clear c4
              try clear c5
              try clear c5b0
              try clear c6
              try clear c6b0
              try clear p6
              try clear c7
              try clear c7b0
              try clear c8
              try clear c10
              try clear c11
              try clear c11b0
              try clear c12
              try clear c12b0
              try clear c16
              try clear c16b0
              try clear c16b1
              try clear c17
              try clear c18
              try clear c18b0
              try clear c19
              try clear c19b0
              try clear c20
              try clear c20b0
              try clear c20b1
              try clear c21
              try clear c22
              try clear c22b0
              try clear c22b1
              try clear c23
              try clear c23b0
              try clear p23
              try clear q23
              try clear hx23
              try clear c24
              try clear c24b0
              try clear p24
              try clear q24
              try clear hx24
              try clear c25
              try clear c26
              try clear c26b0
              try clear c27
              try clear c27b0
              try clear c30
              try clear c34
              try clear c34b0
              try clear c34b1
              try clear c35
              try clear c37
              try clear hx235_0
              try clear hx235_1
              try clear hx237_0
              try clear hx237_1
              try clear hx239_0
              try clear hx239_1
              try clear hx240_0
              try clear hx240_1
              try clear hx241_0
              try clear hx241_1
              try clear hx242_0
              try clear hx242_1
              try clear hx243_0
              try clear hx243_1
              try clear p2
              try clear p23
              try clear p235
              try clear p237
              try clear p239
              try clear p24
              try clear p240
              try clear p241
              try clear p242
              try clear p243
              try clear p6
              try clear q2
              try clear q23
              try clear q235
              try clear q237
              try clear q239
              try clear q24
              try clear q240
              try clear q241
              try clear q242
              try clear q243
              obtain ⟨x19_5, x20_5, rfl, HA, HK5, HO_19, HB⟩ := hrel
              cases gk with
              | zero => exact absurd HA.out (by simp [levyref17_Draw.l1])
              | succ k5 =>
               have H := HA.out
               clear HA
               simp only [levyref17_Draw.l1] at H
               by_cases c39 : x20_5 ≥ 0
               ·rw [if_pos c39] at H
                have c39b0 : decide (0 ≤ x20_5) = true := decide_eq_true c39
                clear c39
                have H' := Aside0.mk H
                clear H
                go_wp2
                go_loopg [21, 22] k5 (fun kq v21 v22 w' => ∃ (x21_6 : ByteArray) (x22_6 : Int), v21 = .string x21_6 ∧ v22 = .int .i64 x22_6 ∧ Aside0 (levyref17_Draw.l2 kq l0 a1 a2 x9_2 x10_2 x18_35 x19_5 x20_5 x21_6 x22_6 = some (r1, r2)) ∧ Aside0 (kq ≤ k5) ∧ Aside0 (Kd.R Kd.string 9 w' w.heap.size (fun _ => True) u19 x19_5) ∧ Aside0 (Below w.heap.size w w'))
                case atStart => exact ⟨((⟨#[]⟩ : ByteArray)), (0), (by first | rfl | (simp; done) | (simp [*]; done)), (by first | rfl | (simp; done) | (simp [*]; done)), H', ⟨Nat.le_refl _⟩, ⟨by (with_reducible repeat (first | apply Kd.R_alloc | apply Kd.R_drewN | apply Kd.R_drew)); exact HO_19.out⟩, ⟨blx⟩⟩
                case round =>
                 clear H'
                 try clear c1
                 try clear c2
                 try clear p2
                 try clear q2
                 try clear hx2
                 try clear c3
                 try clear c4
                 try clear c5
                 try clear c5b0
                 try clear c6
                 try clear c6b0
                 try clear p6
                 try clear c7
                 try clear c7b0
                 try clear c8
                 try clear c10
                 try clear c11
                 try clear c11b0
                 try clear c12
                 try clear c12b0
                 try clear c16
                 try clear c16b0
                 try clear c16b1
                 try clear c17
                 try clear c18
                 try clear c18b0
                 try clear c19
                 try clear c19b0
                 try clear c20
                 try clear c20b0
                 try clear c20b1
                 try clear c21
                 try clear c22
                 try clear c22b0
                 try clear c22b1
                 try clear c23
                 try clear c23b0
                 try clear p23
                 try clear q23
                 try clear hx23
                 try clear c24
                 try clear c24b0
                 try clear p24
                 try clear q24
                 try clear hx24
                 try clear c25
                 try clear c26
                 try clear c26b0
                 try clear c27
                 try clear c27b0
                 try clear c30
                 try clear c34
                 try clear c34b0
                 try clear c34b1
                 try clear c35
                 try clear c37
                 try clear c39
                 try clear c39b0
                 try clear hx235_0
                 try clear hx235_1
                 try clear hx237_0
                 try clear hx237_1
                 try clear hx239_0
                 try clear hx239_1
                 try clear hx240_0
                 try clear hx240_1
                 try clear hx241_0
                 try clear hx241_1
                 try clear hx242_0
                 try clear hx242_1
                 try clear hx243_0
                 try clear hx243_1
                 try clear p2
                 try clear p23
                 try clear p235
                 try clear p237
                 try clear p239
                 try clear p24
                 try clear p240
                 try clear p241
                 try clear p242
                 try clear p243
                 try clear p6
                 try clear q2
                 try clear q23
                 try clear q235
                 try clear q237
                 try clear q239
                 try clear q24
                 try clear q240
                 try clear q241
                 try clear q242
                 try clear q243
                 obtain ⟨x21_6, x22_6, rfl, rfl, HA, HK6, HO_19, HB⟩ := hrel
                 cases gk with
                 | zero => exact absurd HA.out (by simp [levyref17_Draw.l2])
                 | succ k6 =>
                  have H := HA.out
                  clear HA
                  simp only [levyref17_Draw.l2] at H
                  by_cases c40 : x22_6 < a1
                  ·rw [if_pos c40] at H
                   have c40b0 : decide (x22_6 < a1) = true := decide_eq_true c40
                   clear c40
                   replace H := Option.bind_eq_some_iff.mp H
                   obtain ⟨t249, A410, H⟩ := H
                   replace H : (if x21_6.size + t249.size ≤ 9223372036854775807 then (levyref17_Draw.l2 k6 l0 a1 a2 x9_2 x10_2 x18_35 x19_5 x20_5 (x21_6 ++ t249) (wrap64 (x22_6 + 1))) else (none)) = some (r1, r2) := H
                   have A41 := Aside0.mk A410
                   clear A410
                   by_cases c42 : x21_6.size + t249.size ≤ 9223372036854775807
                   ·rw [if_pos c42] at H
                    have c42b0 := eq_true c42
                    have c42b1 : decide (x21_6.size + t249.size ≤ 9223372036854775807) = true := decide_eq_true c42
                    try have c42b2 : (9223372036854775807 < x21_6.size + t249.size) = False := eq_false (Nat.not_lt.2 c42)
                    have H' := Aside0.mk H
                    clear H
                    go_wp2_with (first | ((with_reducible refine gate_callee (f := 63) rfl ?_); refine goesL_ (some 127) rfl rfl Try.func63 (by kernel_rfl) rfl #[.slice A0 l0.length c0, .int .i64 x22_6, .int .i64 x20_5, .int .i64 x18_35, .int .i64 a1, .int .i64 a2, .int .u32 x9_2, .int .u32 x10_2] rfl agx ?_; (with_reducible refine (levyref17_mark.calls k6 _ _ l0 x22_6 x20_5 x18_35 a1 a2 x9_2 x10_2 t249 _ ?side1 ?side2 A41.out).mono ?_); (case side1 => repeat (first | exact (Kd.C_below HR0.out HB.out) | (with_reducible refine Kd.C_alloc ?_ _) | (with_reducible refine Kd.C_drewN ?_ _) | (with_reducible refine Kd.C_drew ?_))); (case side2 => exact HC0.out); rintro e w' ⟨rfl, ⟨nd, rfl⟩⟩; refine ⟨_, rfl, ?_⟩))
                    go_roundg k6
                    case measure => have := HJ3.out; have := HK2.out; have := HJ32.out; have := HJ35.out; have := HK5.out; have := HK6.out; omega
                    case rel => exact ⟨(x21_6 ++ t249), (wrap64 (x22_6 + 1)), (by first | rfl | (simp; done) | (simp [*]; done)), (by first | rfl | (simp; done) | (simp [*]; done)), H', ⟨by have := HJ3.out; have := HK2.out; have := HJ32.out; have := HJ35.out; have := HK5.out; have := HK6.out; omega⟩, ⟨by (with_reducible repeat (first | apply Kd.R_alloc | apply Kd.R_drewN | apply Kd.R_drew)); exact HO_19.out⟩, ⟨blx⟩⟩
                   ·rw [if_neg c42] at H
                    exact absurd H (by simp)
                  ·rw [if_neg c40] at H
                   have c40b0 : decide (x22_6 < a1) = false := decide_eq_false c40
                   clear c40
                   by_cases c43 : x19_5.length < 8796093022208
                   ·rw [if_pos c43] at H
                    have LMc43 := Aside0.mk c43
                    clear c43
                    obtain ⟨y250, hy250⟩ : ∃ y_ : List ByteArray, y_ = (x19_5 ++ [x21_6]) := ⟨_, rfl⟩
                    replace H : (levyref17_Draw.l1 k6 l0 a1 a2 x9_2 x10_2 x18_35 y250 (wrap64 (x20_5 - 1))) = some (r1, r2) := by first | (rw [hy250]; with_reducible exact H) | (have H2_ := (Option.bind_some _ _).symm.trans H; rw [hy250]; with_reducible exact H2_) | (have H2_ := (Option.bind_some _ _).symm.trans H; with_reducible exact H2_) | with_reducible exact H | (rw [hy250]; exact H) | exact H
                    have Ny250 := Aside0.mk hy250
                    clear hy250
                    have H' := Aside0.mk H
                    clear H
                    go_wp2_with (first | ((with_reducible refine gate_builtin (b := .append) (xs := #[.tmp 129, .tmp 131]) rfl ?_); at_builtin; refine Kd.R_append Kd.string (w0 := w) w.heap.size rfl (.tmp 129) (.tmp 131) 52 9 (.string ⟨#[]⟩) 16 rfl Try.underlying52 info9 rfl (by decide) (by omega) u19 x19_5 x21_6 [.string x21_6] (fun _ => True) (fun _ => False) rfl rfl ?aP (fun _ hk => hk.elim) ?aF ?aO ?aB ?aS ?aL ?_; (case aP => exact rfl); (case aB => exact blx); (case aF => exact (fun _ _ => trivial)); (case aO => exact (by (with_reducible repeat (first | apply Kd.R_alloc | apply Kd.R_drewN | apply Kd.R_drew)); exact HO_19.out)); (case aS => exact (below_size blx)); (case aL => have := LMc43.out; omega); intro v251 w44 ho hb hg hat; rw [← Ny250.out] at ho; have n0_ := Aside0.mk (hb); have n1_ := Aside0.mk (ho); clear HB; clear HO_19; have HB := n0_; have HO252 := n1_; clear n0_ n1_; clear ho hb hg hat))
                    go_roundg k6
                    case measure => have := HJ3.out; have := HK2.out; have := HJ32.out; have := HJ35.out; have := HK5.out; have := HK6.out; omega
                    case rel => exact ⟨(y250), (wrap64 (x20_5 - 1)), (by first | rfl | (simp; done) | (simp [*]; done)), H', ⟨by have := HJ3.out; have := HK2.out; have := HJ32.out; have := HJ35.out; have := HK5.out; have := HK6.out; omega⟩, ⟨by (with_reducible repeat (first | apply Kd.R_alloc | apply Kd.R_drewN | apply Kd.R_drew)); exact HO252.out⟩, ⟨blx⟩⟩
                   ·rw [if_neg c43] at H
                    exact absurd H (by simp)
               ·rw [if_neg c39] at H
                have c39b0 : decide (0 ≤ x20_5) = false := decide_eq_false c39
                clear c39
                simp only [Option.some.injEq, Prod.mk.injEq] at H
                obtain ⟨rfl, rfl⟩ := H
                go_wp2
                go_ret2
                exact ⟨_, by first | rfl | (simp [errW_none, errW_some] <;> rfl) | (simp [*, errW_none, errW_some] <;> rfl), by (with_reducible repeat (first | apply Kd.R_alloc | apply Kd.R_drewN | apply Kd.R_drew)); exact HO_19.out, blx⟩
        ·replace c30 := Bool.eq_false_iff.mpr c30
         subst c30
         have H1 : (some (([] : List ByteArray), 175)) = some (r1, r2) := by rw [if_neg (show ¬ (false = true) by decide)] at H; exact H
         clear H
         have H := H1
         clear H1
         simp only [Option.some.injEq, Prod.mk.injEq] at H
         obtain ⟨rfl, rfl⟩ := H
         go_wp2_with (first | ((with_reducible refine gate_callee (f := 56) rfl ?_); refine goesL_ (some 83) rfl rfl Try.func56 (by kernel_rfl) rfl #[.int .u32 x10_2, .int .u32 x9_2] rfl agx ?_; (with_reducible refine (levyref17_Sub.calls k2 x10_2 x9_2 t244 _ A28.out).mono ?_); rintro e w' ⟨rfl, ⟨nd, rfl⟩⟩; refine ⟨_, rfl, ?_⟩) | ((with_reducible refine gate_callee (f := 58) rfl ?_); refine goesL_ (some 85) rfl rfl Try.func58 (by kernel_rfl) rfl #[.int .u32 t244] rfl agx ?_; (with_reducible refine (levyref17_Finite.calls t244 false _ A29.out).mono ?_); rintro e w' ⟨rfl, ⟨nd, rfl⟩⟩; refine ⟨_, rfl, ?_⟩))
         go_ret2
         exact ⟨_, by first | rfl | (simp [errW_none, errW_some] <;> rfl) | (simp [*, errW_none, errW_some] <;> rfl), by first | exact Kd.R_nil _ _ _ _ _ | exact Kd.N_nil _ _ _ _ _ | exact Kd.V_nil _ _ _ _ _ | exact Kd.Q_nil _ _ _ _ _ | exact Kd.S_nil _ _ _ _ _, blx⟩
    ·replace c10 := Bool.eq_false_iff.mpr c10
     subst c10
     have H1 : (some (([] : List ByteArray), 172)) = some (r1, r2) := by rw [if_neg (show ¬ (false = true) by decide)] at H; exact H
     clear H
     have H := H1
     clear H1
     simp only [Option.some.injEq, Prod.mk.injEq] at H
     obtain ⟨rfl, rfl⟩ := H
     go_wp2_with (first | ((with_reducible refine gate_callee (f := 55) rfl ?_); refine goesL_ (some 38) rfl rfl Try.func55 (by kernel_rfl) rfl #[.slice A0 l0.length c0] rfl agx ?_; (with_reducible refine (levyref17_Ordered.calls kj3 _ _ l0 false _ ?side1 ?side2 A9.out).mono ?_); (case side1 => repeat (first | exact (Kd.C_below HR0.out HB.out) | (with_reducible refine Kd.C_alloc ?_ _) | (with_reducible refine Kd.C_drewN ?_ _) | (with_reducible refine Kd.C_drew ?_))); (case side2 => exact HC0.out); rintro e w' ⟨rfl, ⟨nd, rfl⟩⟩; refine ⟨_, rfl, ?_⟩))
     go_ret2
     exact ⟨_, by first | rfl | (simp [errW_none, errW_some] <;> rfl) | (simp [*, errW_none, errW_some] <;> rfl), by first | exact Kd.R_nil _ _ _ _ _ | exact Kd.N_nil _ _ _ _ _ | exact Kd.V_nil _ _ _ _ _ | exact Kd.Q_nil _ _ _ _ _ | exact Kd.S_nil _ _ _ _ _, blx⟩
end Go.Proofs.Ytfhgomcfpmbhnaa.PS
end

section
namespace Go.Proofs.Ytfhgomcfpmbhnaa.PS
open Go.RowKit Go.Proofs.YtfhgomcfpmbhnaaW.PrintWords Go.Proofs.YtfhgomcfpmbhnaaW.PrintLast Go.Proofs.YtfhgomcfpmbhnaaW.PrintMore
attribute [local go_sem] frun_add frun_sub frun_mul frun_quo frun_neg frun_of frun_same frun_store frun_bits frun_from
attribute [local go_sem] max2_int min2_int max_two min_two max_three min_three max_four min_four
set_option linter.unusedVariables false
set_option linter.unusedSimpArgs false
def levylaw17_line.f (a0 : Int) : Option (Int × Int) := some (1, wrap64 (Int.tdiv a0 2))
set_option maxHeartbeats 8000000 in
set_option maxRecDepth 100000 in
theorem levylaw17_line.calls (a0 : Int) (r1 : Int) (r2 : Int) (w : World) (h : levylaw17_line.f a0 = some (r1, r2)) :
  Calls Try.prog 47 #[.int .i64 a0] w fun e w' => e = .returned (.agg #[.int .i64 r1, .int .i64 r2]) ∧ Below w.heap.size w w' := by
 have hu29 := Try.underlying29
 have HB := Aside0.mk (Below.refl w.heap.size w)
 have H : (some (1, wrap64 (Int.tdiv a0 2))) = some (r1, r2) := h
 clear h
 simp only [Option.some.injEq, Prod.mk.injEq] at H
 obtain ⟨rfl, rfl⟩ := H
 go_enter Try.func47, Try.ntmps47
 go_wp2_with (first | ((with_reducible refine gate_dst (N := 2) rfl ?_); refine box_event ?hg (N := 2) ?hd (cs := #[.int .i64 0, .int .i64 0]) (t := 29) ?hr ?_; (case hd => rfl); (case hg => rfl); (case hr => first | (go_simp; done) | (go_simp; rfl)); intro gb258 hg w2 hbox hb; have n0_ := Aside0.mk (below_step blx hb); have n1_ := Aside0.mk (hbox); have n2_ := Aside0.mk ((by rw [hg]; exact (below_size blx) : w.heap.size ≤ gb258)); have n3_ := Aside0.mk ((by rw [hg]; exact (below_size blx) : w.heap.size ≤ gb258)); clear HB; have HB := n0_; have BK258 := n1_; have GW258 := n2_; have GE258 := n3_; clear n0_ n1_ n2_ n3_; clear hb hbox hg; have hcz3_0 : w2.cell? ⟨gb258, 0, none⟩ = some (.int .i64 0) := (blk_cell BK258.out 0).trans rfl; have hcz3_1 : w2.cell? ⟨gb258, 1, none⟩ = some (.int .i64 0) := (blk_cell BK258.out 1).trans rfl; have hfz3_0 := blk_frozen BK258.out 0; have hfz3_1 := blk_frozen BK258.out 1))
 refine bodyPost_ret (results_cell_row rfl _ _ gb258 29 #[.int .i64 1, .int .i64 (wrap64 (Int.tdiv a0 2))] (0, 0) _ rfl (by (with_reducible repeat (first | refine blk_drewN ?_ _ | refine blk_drew ?_ | refine blk_alloc ?_ _)); refine blk_put (cs := #[.int .i64 1, .int .i64 0]) ?_ 1 _ rfl; (with_reducible repeat (first | refine blk_drewN ?_ _ | refine blk_drew ?_ | refine blk_alloc ?_ _)); refine blk_put (cs := #[.int .i64 0, .int .i64 0]) ?_ 0 _ rfl; (with_reducible repeat (first | refine blk_drewN ?_ _ | refine blk_drew ?_ | refine blk_alloc ?_ _)); exact BK258.out) Try.underlying29 rfl (by kernel_rfl)) rfl ?_
 exact ⟨by first | rfl | (simp [errW_none, errW_some] <;> rfl) | (simp [*, errW_none, errW_some] <;> rfl), blx⟩
end Go.Proofs.Ytfhgomcfpmbhnaa.PS
end

section
namespace Go.Proofs.Ytfhgomcfpmbhnaa.PS
open Go.RowKit Go.Proofs.YtfhgomcfpmbhnaaW.PrintWords Go.Proofs.YtfhgomcfpmbhnaaW.PrintLast Go.Proofs.YtfhgomcfpmbhnaaW.PrintMore
attribute [local go_sem] frun_add frun_sub frun_mul frun_quo frun_neg frun_of frun_same frun_store frun_bits frun_from
attribute [local go_sem] max2_int min2_int max_two min_two max_three min_three max_four min_four
set_option linter.unusedVariables false
set_option linter.unusedSimpArgs false
def levylaw17_small.f (a0 : Int) (a1 : Int) : Option (Int) := if a0 < 0 then (if (wrap64 ((wrap64 (2 * a1)) + 1)) = 0 then (none) else (some (wrap64 ((Int.tmod (wrap64 (-(wrap64 (a0 + 1)))) (wrap64 ((wrap64 (2 * a1)) + 1))) - a1)))) else (if (wrap64 ((wrap64 (2 * a1)) + 1)) = 0 then (none) else (some (wrap64 ((Int.tmod a0 (wrap64 ((wrap64 (2 * a1)) + 1))) - a1))))
set_option maxHeartbeats 8000000 in
set_option maxRecDepth 100000 in
theorem levylaw17_small.calls (a0 : Int) (a1 : Int) (r : Int) (w : World) (h : levylaw17_small.f a0 a1 = some r) :
  Calls Try.prog 24 #[.int .i64 a0, .int .i64 a1] w fun e w' => e = .returned (.int .i64 r) ∧ Drawn0 w w' := by
 have H : (if a0 < 0 then (if (wrap64 ((wrap64 (2 * a1)) + 1)) = 0 then (none) else (some (wrap64 ((Int.tmod (wrap64 (-(wrap64 (a0 + 1)))) (wrap64 ((wrap64 (2 * a1)) + 1))) - a1)))) else (if (wrap64 ((wrap64 (2 * a1)) + 1)) = 0 then (none) else (some (wrap64 ((Int.tmod a0 (wrap64 ((wrap64 (2 * a1)) + 1))) - a1))))) = some r := h
 clear h
 by_cases c3 : a0 < 0
 ·rw [if_pos c3] at H
  have c3b0 : decide (a0 < 0) = true := decide_eq_true c3
  clear c3
  by_cases c4 : (wrap64 ((wrap64 (2 * a1)) + 1)) = 0
  ·rw [if_pos c4] at H
   exact absurd H (by simp)
  ·rw [if_neg c4] at H
   have c4b0 : ((wrap64 ((wrap64 (2 * a1)) + 1)) == 0) = false := beq_eq_false_iff_ne.mpr c4
   have c4b1 : ((wrap64 ((wrap64 (2 * a1)) + 1)) != 0) = true := bne_iff_ne.mpr c4
   obtain rfl := Option.some.inj H
   go_enter Try.func24, Try.ntmps24
   go_wp2
   go_ret
   exact ⟨by first | rfl | (simp; done) | (simp [*]; done), by repeat (first | exact Drawn0.refl _ | apply Drawn0.step)⟩
 ·rw [if_neg c3] at H
  have c3b0 : decide (a0 < 0) = false := decide_eq_false c3
  clear c3
  by_cases c5 : (wrap64 ((wrap64 (2 * a1)) + 1)) = 0
  ·rw [if_pos c5] at H
   exact absurd H (by simp)
  ·rw [if_neg c5] at H
   have c5b0 : ((wrap64 ((wrap64 (2 * a1)) + 1)) == 0) = false := beq_eq_false_iff_ne.mpr c5
   have c5b1 : ((wrap64 ((wrap64 (2 * a1)) + 1)) != 0) = true := bne_iff_ne.mpr c5
   obtain rfl := Option.some.inj H
   go_enter Try.func24, Try.ntmps24
   go_wp2
   go_ret
   exact ⟨by first | rfl | (simp; done) | (simp [*]; done), by repeat (first | exact Drawn0.refl _ | apply Drawn0.step)⟩
end Go.Proofs.Ytfhgomcfpmbhnaa.PS
end

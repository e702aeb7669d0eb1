/- Proved: the law levy/levylaw1.MoneySafe returns true for every input, and each argument reads behind the call as it read before; conditions: the given row's own (the package-level table reads as the program's text lays it; the card ties it). -/
import Derived.Test.YtnjhjaifmgjljaaDoorSA11
import Derived.Test.YtnjhjaifmgjljaaDoorCards
import Derived.Test.YtnjhjaifmgjljaaDoorTie
import Derived.ShutString
import Derived.ChangeOld

section
namespace Go.Proofs.YtnjhjaifmgjljaaDoor.moneySafe
open Go.ChangeShapes Go.WideShapes Go.ChangeAt Go.RowKit Go.Proofs.YtnjhjaifmgjljaaDoor.PM Go.Proofs.YtnjhjaifmgjljaaDoor.Open Go.Proofs.YtnjhjaifmgjljaaDoorW.PrintWords
open Go.ChangeMaps (open_string shut_string)
set_option linter.unusedVariables false
set_option maxRecDepth 100000
theorem own : ownKnob Tryd.prog.godebug = none := by kernel_rfl
theorem laidOut : laidOutB Tryd.prog = true := by kernel_rfl
def okT23 (x : S23) : Prop := (Lit.int .i64 x.f0).wf = true ∧ (Lit.int .i64 x.f1).wf = true
theorem oT23 : Opens Tryd.prog 23 k23 okT23 := opens_iso (opens_struct Tryd.underlying23 (opensL_cons rfl (opens_int Tryd.underlying3) (by kernel_rfl) (opensL_last rfl (opens_int Tryd.underlying2) (by kernel_rfl))) (by kernel_rfl)) _ (fun p => ⟨p.1, p.2⟩) (fun _ => rfl)
def okT72 (x : S72) : Prop := (Lit.int .i64 x.f0).wf = true ∧ (Lit.int .i64 x.f1).wf = true
theorem oT72 : Opens Tryd.prog 72 k72 okT72 := opens_iso (opens_struct Tryd.underlying72 (opensL_cons rfl (opens_int Tryd.underlying2) (by kernel_rfl) (opensL_last rfl (opens_int Tryd.underlying2) (by kernel_rfl))) (by kernel_rfl)) _ (fun p => ⟨p.1, p.2⟩) (fun _ => rfl)
def okT43 (l : List S72) : Prop := l.length ≤ maxLen ∧ ∀ x ∈ l, okT72 x
theorem oT43 : Opens Tryd.prog 43 (Kd.slice 72 k72) okT43 := opens_slice Tryd.underlying43 oT72 (by kernel_rfl)
def okT25 (l : List S23) : Prop := l.length ≤ maxLen ∧ ∀ x ∈ l, okT23 x
theorem oT25 : Opens Tryd.prog 25 (Kd.slice 23 k23) okT25 := opens_slice Tryd.underlying25 oT23 (by kernel_rfl)
def okT83 (x : S83) : Prop := (Lit.int .i64 x.f0).wf = true ∧ okT23 x.f1 ∧ okT23 x.f2 ∧ okT23 x.f3 ∧ (Lit.int .i64 x.f4).wf = true ∧ (Lit.int .i64 x.f5).wf = true ∧ (Lit.int .i64 x.f6).wf = true ∧ okT43 x.f7 ∧ okT25 x.f8
theorem oT83 : Opens Tryd.prog 83 k83 okT83 := opens_iso (opens_struct Tryd.underlying83 (opensL_cons rfl (opens_int Tryd.underlying3) (by kernel_rfl) (opensL_cons rfl oT23 (by kernel_rfl) (opensL_cons rfl oT23 (by kernel_rfl) (opensL_cons rfl oT23 (by kernel_rfl) (opensL_cons rfl (opens_int Tryd.underlying2) (by kernel_rfl) (opensL_cons rfl (opens_int Tryd.underlying2) (by kernel_rfl) (opensL_cons rfl (opens_int Tryd.underlying3) (by kernel_rfl) (opensL_cons rfl oT43 (by kernel_rfl) (opensL_last rfl oT25 (by kernel_rfl)))))))))) (by kernel_rfl)) _ (fun p => ⟨p.1, p.2.1, p.2.2.1, p.2.2.2.1, p.2.2.2.2.1, p.2.2.2.2.2.1, p.2.2.2.2.2.2.1, p.2.2.2.2.2.2.2.1, p.2.2.2.2.2.2.2.2⟩) (fun _ => rfl)
def okT81 (l : List S83) : Prop := l.length ≤ maxLen ∧ ∀ x ∈ l, okT83 x
theorem oT81 : Opens Tryd.prog 81 (Kd.slice 83 k83) okT81 := opens_slice Tryd.underlying81 oT83 (by kernel_rfl)
theorem gK : Tryd.prog.globalNamed "levy/money.kinds" = some 0 := by kernel_rfl
theorem gKT : (Tryd.prog.globals[0]?).map (·.type) = some 88 := by kernel_rfl
theorem tab0 {W : World} (h : laidMetH Tryd.prog Rows.moneySafeRow.laid W) : Kd.C k87 W (some ⟨0, 0, none⟩) gtab0.length gtab0 := Table.tab0 h
theorem contract (H : Type) (enc : TypeId × Value → H) (W : World) (base : Nat) (args : Array Value) (ds gs : List (DataW H)) (before : List MemPlace)
    (hval : ∀ (j : Nat) t v, Tryd.f16.params[j]? = some t → args[j]? = some v → Value.okWide Tryd.prog W .any base t v)
    (hW : DataW.Whole enc Tryd.prog Tryd.f16.params.toList Rows.moneySafeSpec.vars false W args.toList ds gs before) (hL : laidMetH Tryd.prog Rows.moneySafeRow.laid W) :
    Calls Tryd.prog 16 args W fun e W' => ∃ v, e = .returned v ∧ Rows.moneySafeSpec.post enc Tryd.prog Tryd.f16 false true false false W args v W' := by
  have hW' := hW
  obtain ⟨p, q, hA0, hV, rfl, hfz, hnd⟩ := hW
  have hA : DataW.TrodAll enc Tryd.prog W 0 (fun _ => true) true Tryd.f16.params.toList args.toList ds p := hA0
  rw [Tryd.params16] at hA hval
  obtain ⟨v0, vs0, d0, ds0, p0, q0, hargs, rfl, rfl, h0, r0⟩ := trodAll_cons hA
  obtain ⟨rfl, rfl, rfl⟩ := trodAll_nil r0
  obtain rfl : args = #[v0] := by cases args; simp_all
  obtain ⟨rfl, rfl⟩ := trodVars_none hV
  have t0 := h0
  have lt0 : ∀ x ∈ p0, x.block < W.heap.size := by obtain ⟨m, hm⟩ := t0; exact DataW.trod_lt m _ _ _ hm
  obtain ⟨a0, len0, cap0, rfl⟩ := okWide_slice Tryd.underlying81 (hval 0 81 v0 rfl rfl)
  obtain ⟨x0, rfl, hc0, hr0, ok0⟩ := slice_arg oT81 h0
  clear hA0
  obtain ⟨k, hk⟩ := Pure.MoneySafe x0 (fun x hx => (ok0.2 x hx).2.2.2.2.2.2.2.1.1)
  have walk : Calls Tryd.prog 16 #[.slice a0 x0.length cap0] W fun e w' => e = .returned (.bool true) ∧ Below W.heap.size W w' := by
    refine (levylaw1_MoneySafe.calls k a0 cap0 x0 true W hr0 hc0 hk (tab0 hL)).mono ?_
    rintro e w' ⟨rfl, hd⟩
    exact ⟨rfl, hd⟩
  refine walk.mono fun e W' ⟨he, bel⟩ => ?_
  subst he
  exact ⟨_, rfl, _, _, _, [], _, [], hW', trodAll_mk1 (shut_bool Tryd.underlying4 _), (trodAll_cons_mk (Below.trod laidOut (by kernel_rfl) (of_decide_eq_true (by kernel_rfl)) t0 bel lt0) trodAll_mk0), rfl, bel.frame _, fun h => by cases h⟩
noncomputable def laidWorld (os : Os) : World :=
  { World.holding Tryd.prog os ⟨#[], #[], []⟩ with heap := (World.holding Tryd.prog os ⟨#[], #[], []⟩).heap.modify 0 fun
      | .cells _ t frozen => .cells #[.int .i64 0, .int .i64 0, .int .i64 0, .int .i64 (-9999999999999), .int .i64 9999999999999, .int .i64 7, .int .i64 (-1000000000), .int .i64 1000000000, .int .i64 7, .int .i64 0, .int .i64 1, .int .i64 4, .int .i64 0, .int .i64 109572, .int .i64 6, .int .i64 0, .int .i64 7, .int .i64 4, .int .i64 1, .int .i64 5, .int .i64 0] t frozen
      | o => o }
theorem laid_met (os : Os) : laidMet Tryd.prog Rows.moneySafeRow.laid ((laidWorld os).forCall (fun _ _ => 0) ⟨#[], #[.slice none 0 0], []⟩).memory := laidMet_of_run' 8 (by kernel_rfl) (by kernel_rfl)
theorem reads (os : Os) {H : Type} (enc : TypeId × Value → H) : ∃ places, DataW.whole enc Tryd.prog ((laidWorld os).forCall (fun _ _ => 0) ⟨#[], #[.slice none 0 0], []⟩).memory Tryd.f16.params.toList Rows.moneySafeSpec.vars false (#[.slice none 0 0] : Array Value).toList 8 = some ([.nil], [], places) := ⟨[], by kernel_rfl⟩
theorem lifted (os : Os) (started : os.Started) (H : Type) (enc : TypeId × Value → H) (F : Stop.Interp) :
    ReturnsInHanded {} Tryd.checked os 16 .any ((OpenSpec.ofChange Rows.moneySafeSpec).preRow enc Tryd.prog Tryd.f16 Rows.moneySafeRow.domain false Rows.moneySafeRow.laid) (((OpenSpec.ofChange Rows.moneySafeSpec).at F).post enc Tryd.prog Tryd.f16 false true false false) := by
  obtain ⟨places, hx⟩ := reads os enc
  refine returnsInHanded_of_row (C := Tryd.checked) (s := OpenSpec.ofChange Rows.moneySafeSpec) own started (by kernel_rfl) Tryd.func16
    (witness_row_at (enc := enc) (C := Tryd.checked) false (laidWorld os) #[.slice none 0 0] rfl (by kernel_rfl) (by kernel_rfl) (by kernel_rfl)
      (OpenSpec.preRow_of_cond 8 hx (by kernel_rfl) (fun k hk => by cases hk) (by kernel_rfl) (laid_met os))) ?_
  intro W base args ds gs before hval hW _ _ _ hL _ _
  exact contract H enc W base args ds gs before hval hW hL
theorem said : Rows.MoneySafeSaid :=
  OpenClaim.holds_of_cond 16 Tryd.f16 rfl rfl rfl rfl rfl rfl rfl ⟨rfl, rfl, rfl, rfl, rfl⟩ rfl rfl rfl rfl rfl (by kernel_rfl) Tryd.func16 (by kernel_rfl)
    (of_decide_eq_true (by kernel_rfl)) (by unfold Func.isWrapper; first | (rw [if_pos (by decide +kernel)]; kernel_rfl) | (rw [if_neg (by decide +kernel)]; exact ⟨rfl, rfl⟩))
    (fun os started H enc _ F => by rw [OpenClaim.pre_eq_preRow]; exact lifted os started H enc F)
theorem plain (f : FuncId) (fn : Func) (hf : Tryd.pinned.checked.prog.funcNamed "levy/levylaw1.MoneySafe" = some f) (hfn : Tryd.pinned.checked.prog.funcs[f]? = some fn) :
    false = Tryd.pinned.checked.prog.looks [] ∧ ∀ (j : Nat) t, fn.params[j]? = some t → Tryd.pinned.checked.prog.wantsStandIn t = false := by
  obtain rfl : f = 16 := Option.some.inj ((show Tryd.prog.funcNamed "levy/levylaw1.MoneySafe" = some 16 by kernel_rfl).symm.trans hf) |>.symm
  obtain rfl : fn = Tryd.f16 := (Option.some.inj (Tryd.func16.symm.trans hfn)).symm
  refine ⟨by kernel_rfl, fun j t ht => ?_⟩
  rw [Tryd.params16] at ht
  have hm : t ∈ [81] := by simpa using Array.mem_of_getElem? ht
  have hall : ([81].all fun u => !Tryd.prog.wantsStandIn u) = true := by kernel_rfl
  exact (show Tryd.prog.wantsStandIn t = false by simpa using List.all_eq_true.1 hall t hm)
theorem card : Rows.MoneySafeCardSaid :=
  Claim7.holds_tied_plain_at .later [] _ _ _ _ said (fun _ h => by cases h) (by kernel_rfl) (fun _ h => by cases h) moneySafe_row_tie rfl ⟨rfl, rfl⟩ (by kernel_rfl) rfl plain (by kernel_rfl)
#print axioms card
end Go.Proofs.YtnjhjaifmgjljaaDoor.moneySafe
end

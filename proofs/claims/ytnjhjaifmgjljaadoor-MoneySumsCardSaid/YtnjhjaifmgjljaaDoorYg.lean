/- Plain: what the reference's Taken tells. -/
import Derived.Test.YtnjhjaifmgjljaaDoorPMx0
import Derived.Test.YtnjhjaifmgjljaaDoorPMx7
import Derived.Test.YtnjhjaifmgjljaaDoorPMx9
import Derived.Test.YtnjhjaifmgjljaaDoorYf
namespace Go.Proofs.YtnjhjaifmgjljaaDoor.Y
open Go.RowKit Go.Proofs.YtnjhjaifmgjljaaDoor.PM Go.Proofs.YtnjhjaifmgjljaaDoor.Q Go.Proofs.YtnjhjaifmgjljaaDoorW.PrintWords
set_option linter.unusedVariables false
def tell (t : (Int × Int) × Nat) : Int × Int × Int := (t.1.1, t.1.2, (t.2 : Int))
theorem taken_from (kind : Int) (hkind : kind = 1 ∨ kind = 2) (l : List S23) (hl : l.length ≤ 20000) : ∀ (d i : Nat) (s : Int), i + d = l.length → -(i : Int) * 10000000000000 ≤ s → s ≤ (i : Int) * 10000000000000 →
    Ev (fun k => levyref1_Taken.l0 k kind l s (i : Int)) (tell (tk kind (l.drop i) s i)) := by
  intro d
  induction d with
  | zero =>
    intro i s hi h0 h1
    rw [List.drop_of_length_le (by omega)]
    refine Ev.step (f := fun _ => some (tell (tk kind [] s i))) (fun k => ?_) (Ev.now _)
    simp only [levyref1_Taken.l0]
    rw [if_neg (by omega), bounded_is]
    simp only [tk, tell, Option.bind_some]
    rw [show l.length = i by omega]
  | succ d IH =>
    intro i s hi h0 h1
    rw [drop_cons (by omega : i < l.length)]
    have hw : wrap64 ((i : Int) + 1) = ((i + 1 : Nat) : Int) := by unfold wrap64; omega
    generalize hv : rd_T23 l (i : Int) = v
    have hstep : Ev (fun k => levyref1_Taken.j2 k kind l s (i : Int) (decide (v.f0 = 0 ∧ v.f1 = 0))) (tell (tk kind (v :: l.drop (i + 1)) s i)) := by
      by_cases hz : v.f0 = 0 ∧ v.f1 = 0
      · rw [decide_eq_true hz]
        have e : tk kind (v :: l.drop (i + 1)) s i = tk kind (l.drop (i + 1)) s (i + 1) := by
          simp only [tk]
          rw [if_neg (by rw [hz.1, hz.2]; decide), if_neg (by rw [hz.1]; decide), if_pos hz.1]
        rw [e]
        refine Ev.step (fun k => ?_) (IH (i + 1) s (by omega) (by omega) (by omega))
        simp only [levyref1_Taken.j2]
        rw [if_pos trivial, hw]
      · rw [decide_eq_false hz]
        by_cases c1 : vld v.f0 v.f1 = false
        · refine Ev.step (f := fun _ => some (tell (tk kind (v :: l.drop (i + 1)) s i))) (fun k => ?_) (Ev.now _)
          simp only [levyref1_Taken.j2]
          rw [if_neg (by decide), if_pos (by omega), if_pos (by omega), hv, ref_valid, c1, hw]
          simp only [tk, c1]
          rfl
        · have c1' : vld v.f0 v.f1 = true := by simpa using c1
          by_cases c2 : v.f0 = 6
          · refine Ev.step (f := fun _ => some (tell (tk kind (v :: l.drop (i + 1)) s i))) (fun k => ?_) (Ev.now _)
            simp only [levyref1_Taken.j2]
            rw [if_neg (by decide), if_pos (by omega), if_pos (by omega), hv, ref_valid, c1', hw]
            simp only [Option.bind_some]
            rw [if_pos trivial, if_pos c2]
            simp only [tk]
            rw [if_neg c1, if_pos c2]
            rfl
          · by_cases c4 : v.f0 = kind
            · have hv2 := vld_num c1' (by rw [c4]; exact hkind)
              have e : tk kind (v :: l.drop (i + 1)) s i = tk kind (l.drop (i + 1)) (s + v.f1) (i + 1) := by
                simp only [tk]
                rw [if_neg c1, if_neg c2, if_neg (by omega), if_neg (fun h => h c4)]
              rw [e]
              refine Ev.step (fun k => ?_) (IH (i + 1) (s + v.f1) (by omega) (by omega) (by omega))
              simp only [levyref1_Taken.j2]
              rw [if_neg (by decide), if_pos (by omega), if_pos (by omega), hv, ref_valid, c1', hw]
              simp only [Option.bind_some]
              rw [if_pos trivial, if_neg c2, if_pos c4, show wrap64 (s + v.f1) = s + v.f1 by unfold wrap64; omega]
            · have c3 : v.f0 ≠ 0 := by
                intro h0'
                have : vld 0 v.f1 = true := by rw [← h0']; exact c1'
                exact hz ⟨h0', by simpa [vld] using this⟩
              refine Ev.step (f := fun _ => some (tell (tk kind (v :: l.drop (i + 1)) s i))) (fun k => ?_) (Ev.now _)
              simp only [levyref1_Taken.j2]
              rw [if_neg (by decide), if_pos (by omega), if_pos (by omega), hv, ref_valid, c1', hw]
              simp only [Option.bind_some]
              rw [if_pos trivial, if_neg c2, if_neg c4]
              simp only [tk]
              rw [if_neg c1, if_neg c2, if_neg c3, if_pos c4]
              rfl
    refine Ev.step (fun k => ?_) hstep
    simp only [levyref1_Taken.l0]
    rw [if_pos (by omega), if_pos (by omega), hv]
    by_cases h0' : v.f0 = 0
    · rw [if_pos h0']
      by_cases h1' : v.f1 = 0
      · rw [h1', decide_eq_true ⟨h0', rfl⟩]; rfl
      · rw [decide_eq_false (fun h => h1' h.2), beq_eq_false_iff_ne.mpr h1']
    · rw [if_neg h0', decide_eq_false (fun h => h0' h.1)]
theorem taken_is (kind : Int) (hkind : kind = 1 ∨ kind = 2) (l : List S23) (hl : l.length ≤ 20000) : Ev (fun k => levyref1_Taken.f k kind l) (tell (tk kind l 0 0)) := by
  have h := taken_from kind hkind l hl l.length 0 0 (by omega) (by omega) (by omega)
  refine Ev.congr (f := fun k => levyref1_Taken.j0 k kind l false) (fun k => ?_) (Ev.step (fun k => ?_) h)
  · unfold levyref1_Taken.f
    rcases hkind with rfl | rfl
    · rw [if_pos rfl]
    · rw [if_neg (by decide)]; rfl
  · simp [levyref1_Taken.j0]
theorem taken_other (kind : Int) (h1 : kind ≠ 1) (h2 : kind ≠ 2) (l : List S23) : Ev (fun k => levyref1_Taken.f k kind l) (6, 5, 0) := by
  refine Ev.congr (f := fun k => levyref1_Taken.j0 k kind l true) (fun k => ?_) (Ev.step (f := fun _ => some (6, 5, 0)) (fun k => by simp [levyref1_Taken.j0, levyref1_bad.f]) (Ev.now _))
  unfold levyref1_Taken.f
  rw [if_neg h1, show (kind != 2) = true from bne_iff_ne.mpr h2]
end Go.Proofs.YtnjhjaifmgjljaaDoor.Y

/- The plain law of MoneyAdds and MoneyValids: the two sides answer alike. -/
import Derived.Test.YtnjhjaifmgjljaaDoorPMx5
import Derived.Test.YtnjhjaifmgjljaaDoorQa
namespace Go.Proofs.YtnjhjaifmgjljaaDoor.Pure
open Go.RowKit Go.Proofs.YtnjhjaifmgjljaaDoor.PM Go.Proofs.YtnjhjaifmgjljaaDoor.Q Go.Proofs.YtnjhjaifmgjljaaDoorW.PrintWords Go.Proofs.YtnjhjaifmgjljaaDoorW.PrintLast Go.Proofs.YtnjhjaifmgjljaaDoorW.PrintMore
/-- Both sides of a call of the alike kind, where the program's answer is the checked number. -/
theorem sides (call : Int) (hc : call = 1 ∨ call = 2 ∨ call = 4) (v : S23) (l : List S23) (hl : (v :: l).length ≤ 6) (n : Int) (k : Nat) (hk : 12 < k) :
    ((money_alike.f k call (v :: l)).bind fun b => (if b.2.2 = true then ((money_checked.f v.f0 n).bind fun c => (some (c.1, c.2))) else (some (b.1, b.2.1)))) = some (chosenS call (v :: l) n) := by
  rw [alike_is call hc (v :: l) (by omega) k (by omega)]
  simp only [Option.bind_some, alikeS, chosenS]
  cases hf : flt (v :: l) with
  | some v => simp
  | none =>
    have hm := flt_none hf v (by simp)
    have e : (rd_T23 (v :: l) 0).f0 = v.f0 := rfl
    simp only [e]
    split
    · rw [if_pos rfl, checked_is v.f0 _ (by omega) (by omega)]; rfl
    · simp
theorem ref_side (call : Int) (hc : call = 1 ∨ call = 2 ∨ call = 4) (v : S23) (l : List S23) (hl : (v :: l).length ≤ 6) (n : Int) (k : Nat) (hk : 12 < k) :
    ((levyref1_chosen.f k (v :: l) n (listed call)).bind fun b => (some (b.1, b.2))) = some (chosenS call (v :: l) n) := by
  rw [chosen_is call hc (v :: l) (by omega) (by simp) n k (by omega)]; rfl
theorem add_is (k : Nat) (hk : 12 < k) (a b c d : Int) : money_Add.f k a b c d = some (chosenS 1 [⟨a, b⟩, ⟨c, d⟩] (wrap64 (b + d))) ∧ levyref1_Add.f k a b c d = some (chosenS 1 [⟨a, b⟩, ⟨c, d⟩] (wrap64 (b + d))) :=
  ⟨sides 1 (by simp) ⟨a, b⟩ [⟨c, d⟩] (by simp) _ k hk, ref_side 1 (by simp) ⟨a, b⟩ [⟨c, d⟩] (by simp) _ k hk⟩
theorem sub_is (k : Nat) (hk : 12 < k) (a b c d : Int) : money_Sub.f k a b c d = some (chosenS 1 [⟨a, b⟩, ⟨c, d⟩] (wrap64 (b - d))) ∧ levyref1_Sub.f k a b c d = some (chosenS 1 [⟨a, b⟩, ⟨c, d⟩] (wrap64 (b - d))) :=
  ⟨sides 1 (by simp) ⟨a, b⟩ [⟨c, d⟩] (by simp) _ k hk, ref_side 1 (by simp) ⟨a, b⟩ [⟨c, d⟩] (by simp) _ k hk⟩
theorem neg_is (k : Nat) (hk : 12 < k) (a b : Int) : money_Neg.f k a b = some (chosenS 1 [⟨a, b⟩] (wrap64 (-b))) ∧ levyref1_Neg.f k a b = some (chosenS 1 [⟨a, b⟩] (wrap64 (-b))) :=
  ⟨sides 1 (by simp) ⟨a, b⟩ [] (by simp) _ k hk, ref_side 1 (by simp) ⟨a, b⟩ [] (by simp) _ k hk⟩
theorem abs_is (k : Nat) (hk : 12 < k) (a b : Int) : money_Abs.f k a b = some (chosenS 1 [⟨a, b⟩] (mx b (wrap64 (-b)))) ∧ levyref1_Abs.f k a b = some (chosenS 1 [⟨a, b⟩] (mx b (wrap64 (-b)))) :=
  ⟨sides 1 (by simp) ⟨a, b⟩ [] (by simp) _ k hk, ref_side 1 (by simp) ⟨a, b⟩ [] (by simp) _ k hk⟩
theorem same_pair (v : Int × Int) : (v.1 == v.1 && (v.2 == v.2)) = true := by simp
theorem MoneyAdds (x0 x1 : S23) : ∃ k, levylaw1_MoneyAdds.f k x0.f0 x0.f1 x1.f0 x1.f1 = some true := by
  refine ⟨20, ?_⟩
  unfold levylaw1_MoneyAdds.f
  rw [(add_is 20 (by decide) _ _ _ _).1, (add_is 20 (by decide) _ _ _ _).2, (sub_is 20 (by decide) _ _ _ _).1, (sub_is 20 (by decide) _ _ _ _).2]
  simp only [Option.bind_some, same_pair, if_true, levylaw1_MoneyAdds.j0]
  rw [(neg_is 19 (by decide) _ _).1, (neg_is 19 (by decide) _ _).2, (abs_is 19 (by decide) _ _).1, (abs_is 19 (by decide) _ _).2]
  simp only [Option.bind_some, same_pair, if_true]
end Go.Proofs.YtnjhjaifmgjljaaDoor.Pure

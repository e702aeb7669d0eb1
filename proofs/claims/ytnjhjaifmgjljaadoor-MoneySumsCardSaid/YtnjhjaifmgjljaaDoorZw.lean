/- Short words for steps that the printed walks take again and again: each finds what it needs in the walk's own context. -/
import Derived.Test.YtnjhjaifmgjljaaDoorZa
namespace Go.Proofs.YtnjhjaifmgjljaaDoorW.PrintMore
open Go.RowKit Go.Proofs.YtnjhjaifmgjljaaDoorW.PrintWords
theorem blx {B : Nat} {w W : World} (h : Below B w W := by repeat (first | (with_reducible first | exact HB.out | apply below_alloc | apply pw_below_drewN | apply below_drew1 | refine below_set ?_ (Aside0.out (by assumption))) | exact HB.out)) : Below B w W := h
theorem bkx {p : Prop} (h : p := by
  (with_reducible repeat (first | refine blk_drewN ?_ _ | refine blk_drew ?_ | refine blk_alloc ?_ _ | refine blk_far ?_ (Aside0.out (by assumption)) _))
  exact Aside0.out (by assumption)) : p := h
theorem agx {p : Prop} (h : p := by
  (try simp only [List.map_toArray, List.map_cons, List.map_nil])
  first | done | rfl | (simp only [List.length_drop, List.length_take]; rfl)) : p := h
theorem odx {p : Prop} [Decidable p] (h : decide p = true := by first | (with_reducible assumption) | assumption) : p := of_decide_eq_true h
end Go.Proofs.YtnjhjaifmgjljaaDoorW.PrintMore

-- Part 11 of the texts of the claim SA (wrote by programs: words of the kit's print.sh, printed functions; and my own texts; joined by wip/tools/pack.py).
import Derived.Test.YtnjhjaifmgjljaaDoorSA10
import Derived.Test.YtnjhjaifmgjljaaDoorRows
import Derived.ProofKit
import Derived.Deep.DeepHandedRow
import Derived.LaidMore
import Derived.Lib.LaidTab

section
set_option maxRecDepth 100000
namespace Go.Proofs.YtnjhjaifmgjljaaDoor.Table
open Go.RowKit Go.Deep Go.ChangeShapes Go.Proofs.YtnjhjaifmgjljaaDoor.PM Go.Proofs.YtnjhjaifmgjljaaDoorW.PrintWords
theorem gK : Tryd.prog.globalNamed "levy/money.kinds" = some 0 := by kernel_rfl
theorem gKT : (Tryd.prog.globals[0]?).map (·.type) = some 88 := by kernel_rfl
theorem c88 : Tryd.prog.cellsOf 88 = 21 := by kernel_rfl
theorem c87 : Tryd.prog.cellsOf 87 = 3 := by kernel_rfl
theorem c3 : Tryd.prog.cellsOf 3 = 1 := by kernel_rfl
theorem c2 : Tryd.prog.cellsOf 2 = 1 := by kernel_rfl
theorem row3 {H : Type} {enc : TypeId × Value → H} {W : World} {spare : Nat → Bool} {held : Bool} {fuel : Nat} {cs : List Value} {p : List MemPlace} {a b c : Int}
    (h : DataW.trod enc Tryd.prog W 0 spare held fuel 87 cs = some (.agg [.lit (.int .i64 a), .lit (.int .i64 b), .lit (.int .i64 c)], p)) : cs = [.int .i64 a, .int .i64 b, .int .i64 c] := by
  obtain ⟨xs, n, _, hx, hl, hlen, hf⟩ := DataW.trod_struct Tryd.underlying87 h
  rw [c87] at hl
  have h3 : xs.length = 3 := hlen
  match xs, h3 with
  | [x0, x1, x2], _ =>
    simp only [Prod.mk.injEq, DataW.agg.injEq, List.map_cons, List.map_nil, List.cons.injEq, and_true] at hx
    obtain ⟨⟨e0, e1, e2⟩, _⟩ := hx
    match cs, hl with
    | [u0, u1, u2], _ =>
      have f0 := hf 0 _ rfl
      have f1 := hf 1 _ rfl
      have f2 := hf 2 _ rfl
      have g0 : DataW.trod enc Tryd.prog W 0 spare held n 2 [u0] = some x0 := by simpa [c2] using f0
      have g1 : DataW.trod enc Tryd.prog W 0 spare held n 2 [u1] = some x1 := by simpa [c2] using f1
      have g2 : DataW.trod enc Tryd.prog W 0 spare held n 3 [u2] = some x2 := by simpa [c3] using f2
      obtain ⟨n0, h0, hx0, _⟩ := DataW.trod_int Tryd.underlying2 g0
      obtain ⟨n1, h1, hx1, _⟩ := DataW.trod_int Tryd.underlying2 g1
      obtain ⟨n2, h2, hx2, _⟩ := DataW.trod_int Tryd.underlying3 g2
      simp only [List.cons.injEq, and_true] at h0 h1 h2
      subst hx0 hx1 hx2 h0 h1 h2
      simp only [DataW.lit.injEq, Lit.int.injEq, true_and] at e0 e1 e2
      subst e0 e1 e2
      rfl
theorem tab0 {W : World} (h : laidMetH Tryd.prog [("levy/money.kinds", Rows.laid_levy_money_kinds)] W) : Kd.C k87 W (some ⟨0, 0, none⟩) gtab0.length gtab0 := by
  rw [MakeChecks.laidMetH_plain _ _ _ (by kernel_rfl)] at h
  obtain ⟨ps, ⟨g0, t0, cs0, f0, p0, q0, hg0, ht0, hv0, hd0, _, _⟩, _⟩ := h
  obtain rfl := Option.some.inj (gK.symm.trans hg0)
  obtain rfl := Option.some.inj (gKT.symm.trans ht0)
  obtain ⟨xs, m, _, hx, hl, hn, hel⟩ := DataW.trod_array Tryd.underlying88 hd0
  rw [c88] at hl
  simp only [Prod.mk.injEq] at hx
  obtain ⟨hx, _⟩ := hx
  have hxl : xs.map (·.1) = [.agg [.lit (.int .i64 0), .lit (.int .i64 0), .lit (.int .i64 0)], .agg [.lit (.int .i64 (-9999999999999)), .lit (.int .i64 9999999999999), .lit (.int .i64 7)], .agg [.lit (.int .i64 (-1000000000)), .lit (.int .i64 1000000000), .lit (.int .i64 7)], .agg [.lit (.int .i64 0), .lit (.int .i64 1), .lit (.int .i64 4)], .agg [.lit (.int .i64 0), .lit (.int .i64 109572), .lit (.int .i64 6)], .agg [.lit (.int .i64 0), .lit (.int .i64 7), .lit (.int .i64 4)], .agg [.lit (.int .i64 1), .lit (.int .i64 5), .lit (.int .i64 0)]] := by
    have := hx.symm
    simpa [Rows.laid_levy_money_kinds] using this
  have cell := fun j => World.var?_cell hg0 hv0 j
  have each : ∀ (i : Nat) (r : S87), gtab0[i]? = some r → ∃ c, (cs0.toList.drop (i * 3)).take 3 = c ∧ c = [.int .i64 r.f0, .int .i64 r.f1, .int .i64 r.f2] := by
    intro i r hr
    have hi : i < 7 := (List.getElem?_eq_some_iff.1 hr).1
    have he := hel i hi
    rw [c87] at he
    have hlt : i < xs.length := by omega
    have hd : (xs.map (·.1))[i]? = some (.agg [.lit (.int .i64 r.f0), .lit (.int .i64 r.f1), .lit (.int .i64 r.f2)]) := by
      rw [hxl]
      rcases (by omega : i = 0 ∨ i = 1 ∨ i = 2 ∨ i = 3 ∨ i = 4 ∨ i = 5 ∨ i = 6) with rfl | rfl | rfl | rfl | rfl | rfl | rfl <;> (cases hr; rfl)
    rw [List.getElem?_map] at hd
    rw [List.getElem?_eq_getElem hlt] at hd he
    simp only [Option.map_some, Option.some.injEq] at hd
    refine ⟨_, rfl, row3 (p := (xs[i]).2) (he.trans ?_)⟩
    rw [← hd]
  unfold Kd.C ReadsRow
  refine ⟨rfl, by decide, fun _ => ⟨_, rfl, fun j p hj => ?_⟩⟩
  obtain ⟨c, hc, he⟩ := each j p hj
  refine ⟨c, by rw [he]; rfl, by rw [he]; exact k87_mk W p, fun i u hu => ?_⟩
  have hj7 : j < 7 := (List.getElem?_eq_some_iff.1 hj).1
  have hi : i < 3 := by
    have := (List.getElem?_eq_some_iff.1 hu).1
    rw [he] at this; simpa using this
  rw [Go.Proofs.YtnjhjaifmgjljaaDoorW.PrintWords.add_plain]
  have hs : k87.sz = 3 := rfl
  rw [hs, cell (j * 3 + i)]
  rw [← hc, List.getElem?_take_of_lt hi, List.getElem?_drop] at hu
  simpa using hu
end Go.Proofs.YtnjhjaifmgjljaaDoor.Table
end

/- Proved: the contract of MoneySums (function 4): it returns true; the world below is as it was. -/
import Derived.Test.YtnjhjaifmgjljaaDoorPMx0
import Derived.Test.YtnjhjaifmgjljaaDoorPMx2
import Derived.Test.YtnjhjaifmgjljaaDoorPMx9
import Derived.Test.YtnjhjaifmgjljaaDoorYh
import Derived.Deep.RegionHeld3
namespace Go.Proofs.YtnjhjaifmgjljaaDoor.Y
open Go.RowKit Go.Shelf Go.Proofs.YtnjhjaifmgjljaaDoor.PM Go.Proofs.YtnjhjaifmgjljaaDoor.Q Go.Proofs.YtnjhjaifmgjljaaDoorW.PrintWords
set_option linter.unusedVariables false
theorem block_of_C {w : World} {A : Option Addr} {l : List S23} (h : Kd.C k23 w A l.length l) (hl : 0 < l.length) (ad : Addr) (e : A = some ad) : ad.block < w.heap.size := by
  obtain ⟨ad', e', hx, _⟩ := at_T23 h 0 (by omega) (by omega)
  rw [e] at e'
  cases e'
  have := World.block_lt_of_cell? w _ hx
  simpa [Addr.add] using this
/-- What is told of a list for any kind, and how much is taken. -/
def tkA (kind : Int) (l : List S23) : (Int × Int) × Nat := if kind = 1 ∨ kind = 2 then tk kind l 0 0 else ((6, 5), 0)
theorem taken_any (kind : Int) (l : List S23) (hl : l.length ≤ 20000) : Ev (fun k => levyref1_Taken.f k kind l) (tell (tkA kind l)) := by
  unfold tkA
  by_cases h : kind = 1 ∨ kind = 2
  · rw [if_pos h]; exact taken_is kind h l hl
  · rw [if_neg h]; exact taken_other kind (fun e => h (.inl e)) (fun e => h (.inr e)) l
theorem sum_any (gb : Nat) (A : Option Addr) (cap : Nat) (xs : List S23) (hx : xs.length ≤ 20000) (kind : Int) (w : World) (hgb : gb < w.heap.size) (hgb0 : 0 < gb)
    (hne : 0 < xs.length → ∀ ad, A = some ad → ad.block ≠ gb) (hh : Held gb A cap xs 0 w) (hg0 : Kd.C k87 w (some ⟨0, 0, none⟩) gtab0.length gtab0) :
    Calls Tryd.prog 22 #[.int .i64 kind, .func (.func 21) #[.pointer (some ⟨gb, 0, none⟩)] #[]] w fun e w' =>
      e = .returned (.agg #[.int .i64 (tkA kind xs).1.1, .int .i64 (tkA kind xs).1.2]) ∧ But w.heap.size gb w w' ∧ Held gb A cap xs (tkA kind xs).2 w' := by
  unfold tkA
  by_cases h : kind = 1 ∨ kind = 2
  · rw [if_pos h]; exact sum_tk gb A cap xs hx kind h w hgb hgb0 hne hh hg0
  · rw [if_neg h]
    refine (sum_other _ kind (fun e => h (.inl e)) (fun e => h (.inr e)) w).mono ?_
    rintro e w' ⟨rfl, hb⟩
    exact ⟨rfl, .of_below hb, (hb.block _ hgb).trans hh.1, Kd.C_below hh.2 hb⟩
theorem sum_nilA (kind : Int) (w : World) (hg0 : Kd.C k87 w (some ⟨0, 0, none⟩) gtab0.length gtab0) :
    Calls Tryd.prog 22 #[.int .i64 kind, .nilFunc] w fun e w' => e = .returned (.agg #[.int .i64 (tkA kind []).1.1, .int .i64 (tkA kind []).1.2]) ∧ Below w.heap.size w w' := by
  unfold tkA
  by_cases h : kind = 1 ∨ kind = 2
  · rw [if_pos h]; exact sum_nil kind h w hg0
  · rw [if_neg h]; exact sum_other _ kind (fun e => h (.inl e)) (fun e => h (.inr e)) w
structure BB (w w' : World) : Prop where mk :: (out : Below w.heap.size w w')
theorem BB.refl (w : World) : BB w w := ⟨Below.refl _ _⟩
theorem BB.drew {w w' : World} (h : BB w w') : BB w w'.drew := ⟨below_drew h.out⟩
theorem BB.step {w w' w2 : World} (h : BB w w') (k : Below w'.heap.size w' w2) : BB w w2 := ⟨h.out.trans (k.mono h.out.size)⟩
theorem cut_C {w : World} {g cap : Nat} {xs ys : List S23} {m : Nat} (h : Kd.C k23 w (some ⟨g, 0, none⟩) xs.length xs) (hc : xs.length ≤ cap) (hne : ¬ cap = m) (hy : xs.drop m = ys) (hm : m ≤ xs.length := by simp; omega) :
    Kd.C k23 w (some ⟨g, m * 2, none⟩) ys.length ys := by
  have := Kd.C_drop h hm hc
  rw [if_neg hne, hy] at this
  simpa [add_plain, show k23.sz = 2 from rfl] using this
theorem C_set2 {α : Type} {d : Kd α} (hK : ∀ (w w' : World) x cs, d.K w x cs → d.K w' x cs) {w : World} {A : Option Addr} {n : Nat} {xs : List α} (h : d.C w A n xs) (gb : Nat) (u v : Value) (hne : 0 < n → ∀ ad, A = some ad → ad.block ≠ gb) :
    d.C ((w.setCell ⟨gb, 0, none⟩ u).setCell ⟨gb, 1, none⟩ v) A n xs :=
  C_but hK h ((But.setCell (gb := gb) w ⟨gb, 0, none⟩ u (.inl rfl)).trans (But.setCell (gb := gb) _ ⟨gb, 1, none⟩ v (.inl rfl))) hne
theorem size_set2 (w : World) (a b : Addr) (u v : Value) : ((w.setCell a u).setCell b v).heap.size = w.heap.size := by simp [World.setCell]
theorem but_set2 (B gb : Nat) (w : World) (u v : Value) : But B gb w ((w.setCell ⟨gb, 0, none⟩ u).setCell ⟨gb, 1, none⟩ v) :=
  (But.setCell (gb := gb) w ⟨gb, 0, none⟩ u (.inl rfl)).trans (But.setCell (gb := gb) _ ⟨gb, 1, none⟩ v (.inl rfl))
theorem below_set2 {B : Nat} {w W : World} (h : Below B w W) (gb : Nat) (u v : Value) (hg : B ≤ gb) : Below B w ((W.setCell ⟨gb, 0, none⟩ u).setCell ⟨gb, 1, none⟩ v) := (h.setCell hg _).setCell hg _
set_option maxRecDepth 100000 in
set_option maxHeartbeats 4000000 in
theorem sums_calls (kind : Int) (A : Option Addr) (c : Nat) (l : List S23) (w : World) (hr : Kd.C k23 w A l.length l) (hc : l.length ≤ c) (hg0 : Kd.C k87 w (some ⟨0, 0, none⟩) gtab0.length gtab0) (hw : 0 < w.heap.size) :
    Calls Tryd.prog 4 #[.int .i64 kind, .slice A l.length c] w fun e w' => e = .returned (.bool true) ∧ Below w.heap.size w w' := by
  have hmf : ∀ (fn : Fn) (first cap : Array Value) (w : World), (Instr.makeFunc fn first cap).run Tryd.prog w = .ok (.func fn first cap) w := fun _ _ _ _ => rfl
  by_cases hl : (l.length : Int) > 16384
  · have hb : decide (16384 < (l.length : Int)) = true := decide_eq_true hl
    go_enter Tryd.func4, Tryd.ntmps4
    go_wp2
    go_ret
    exact ⟨by first | rfl | simp, Below.refl _ _⟩
  · have hb : decide (16384 < (l.length : Int)) = false := decide_eq_false hl
    obtain ⟨k1, hk1⟩ := Ev.rounds (taken_any kind l (by omega))
    obtain ⟨a1, a2, n1, ht1⟩ : ∃ a1 a2 n1, tkA kind l = ((a1, a2), n1) := ⟨_, _, _, rfl⟩
    rw [ht1] at hk1
    go_enter Tryd.func4, Tryd.ntmps4
    go_wp2_with (first
      | (go_at_call 20; refine (levyref1_Taken.calls k1 kind A c l a1 a2 (n1 : Int) w hr hc hk1).mono ?_; rintro e w1 ⟨rfl, hb1⟩)
      | (go_at_call 22; refine (sum_any (w1.heap.size + 1) A c l (by omega) kind ((w1.alloc (Obj.cells #[Value.int IntKind.i64 a1, Value.int IntKind.i64 a2] 23)).alloc (Obj.cells #[Value.slice A l.length c, Value.int IntKind.i64 0] 30)) (by simp) (by omega) (fun h0 ad e => by have h1 := block_of_C hr h0 ad e; have := hb1.size; omega)
          ⟨by have := World.alloc_heap_new (w1.alloc (Obj.cells #[Value.int IntKind.i64 a1, Value.int IntKind.i64 a2] 23)) (Obj.cells #[Value.slice A l.length c, Value.int IntKind.i64 0] 30); rwa [World.size_alloc] at this, Kd.C_alloc (Kd.C_alloc (Kd.C_below hr hb1) _) _⟩ (Kd.C_alloc (Kd.C_alloc (Kd.C_below hg0 hb1) _) _)).mono ?_; rw [ht1]; rintro e w2 ⟨rfl, hb2, hH2⟩))
    have hlt1 : w1.heap.size < w2.heap.size := by have := hb2.size; simp at this; omega
    have hlt2 : w1.heap.size + 2 ≤ w2.heap.size := by have := hb2.size; simp at this; omega
    have hwant0 : ((w1.alloc (Obj.cells #[Value.int IntKind.i64 a1, Value.int IntKind.i64 a2] 23)).alloc (Obj.cells #[Value.slice A l.length c, Value.int IntKind.i64 0] 30)).heap[w1.heap.size]? = some (.cells #[.int .i64 a1, .int .i64 a2] 23 (0, 0)) :=
      (Below.heap_alloc _ _ _ (by simp)).trans (World.alloc_heap_new w1 _)
    have hwant2 := (hb2.block w1.heap.size (by simp; omega) (by omega)).trans hwant0
    obtain ⟨W3, hW3⟩ : ∃ W3, w2.alloc (Obj.cells #[Value.int IntKind.i64 a1, Value.int IntKind.i64 a2] 23) = W3 := ⟨_, rfl⟩
    have hwant3 : W3.heap[w1.heap.size]? = some (.cells #[.int .i64 a1, .int .i64 a2] 23 (0, 0)) := by rw [← hW3]; exact (Below.heap_alloc _ _ _ hlt1).trans hwant2
    have hgot3 : W3.heap[w2.heap.size]? = some (.cells #[.int .i64 a1, .int .i64 a2] 23 (0, 0)) := by rw [← hW3]; exact World.alloc_heap_new w2 _
    have hg3 : W3.heap[w1.heap.size + 1]? = some (.cells #[.slice A l.length c, .int .i64 (n1 : Int)] 30 (0, 0)) := by
      rw [← hW3]; have h1 := hH2.1
      exact (Below.heap_alloc _ _ _ (Array.getElem?_eq_some_iff.1 h1).1).trans h1
    obtain ⟨w0, w1c, wf0, wf1⟩ := cells_at2 hwant3
    obtain ⟨o0, o1, of0, of1⟩ := cells_at2 hgot3
    obtain ⟨g0, g1, gf0, gf1⟩ := cells_at2 hg3
    have hBm : Below w.heap.size w W3 := by
      rw [← hW3]
      refine Below.alloc ?_ (by have := hb1.size; omega) _
      exact hb1.trans ((((Below.refl _ w1).alloc hb1.size _).alloc (by simp; have := hb1.size; omega) _).trans (hb2.below (by simp; have := hb1.size; omega) (by have := hb1.size; omega)))
    rw [hW3]
    have hu23 := Tryd.underlying23
    rcases (by omega : (n1 = 0 ∧ l.length = 0) ∨ (n1 = 0 ∧ l.length ≠ 0) ∨ n1 ≠ 0) with ⟨hz0, hz3⟩ | ⟨hz0, hz3⟩ | hz0
    case' inl =>
      have hz1 : ((n1 : Int) == 0) = true := beq_iff_eq.mpr (by omega)
      have hz2 : ((l.length : Int) == 0) = true := beq_iff_eq.mpr (by omega)
      have hnil : (tkA kind []).1 = (a1, a2) := by obtain rfl : l = [] := List.eq_nil_of_length_eq_zero hz3; rw [ht1]
      have hT4 : Kd.C k87 W3.drew (some ⟨0, 0, none⟩) gtab0.length gtab0 := Kd.C_drew (Kd.C_below hg0 hBm)
      have hq3 : BB W3 W3.drew := (BB.refl _).drew
      have d0 : W3.drew.cell? ⟨w2.heap.size, 0, none⟩ = some (.int .i64 a1) := o0
      have d1 : W3.drew.cell? ⟨w2.heap.size, 1, none⟩ = some (.int .i64 a2) := o1
      have d2 : W3.drew.cell? ⟨w1.heap.size, 0, none⟩ = some (.int .i64 a1) := w0
      have d3 : W3.drew.cell? ⟨w1.heap.size, 1, none⟩ = some (.int .i64 a2) := w1c
      have d4 : W3.drew.cell? ⟨w1.heap.size + 1, 1, none⟩ = some (.int .i64 (n1 : Int)) := g1
      clear hz0 hz3
      go_region_held3 (fun w' => w'.cell? ⟨w2.heap.size, 0, none⟩ = some (.int .i64 a1) ∧ w'.cell? ⟨w2.heap.size, 1, none⟩ = some (.int .i64 a2) ∧ w'.cell? ⟨w1.heap.size, 0, none⟩ = some (.int .i64 a1) ∧ w'.cell? ⟨w1.heap.size, 1, none⟩ = some (.int .i64 a2) ∧ w'.cell? ⟨w1.heap.size + 1, 1, none⟩ = some (.int .i64 (n1 : Int)) ∧ BB W3 w')
        (first | (exact (BB.refl _).drew) | ((try go_split_ands); refine ⟨?_, ?_, ?_, ?_, ?_, ?_⟩ <;> (first | assumption | exact (BB.refl _).drew | (refine BB.drew ?_; assumption) | exact BB.refl _ | go_keep)))
        (first | (go_at_call 22; refine (sum_nilA kind W3.drew hT4).mono ?_; rw [hnil]; rintro e Wm ⟨rfl, hb5⟩; have hq5 := hq3.step hb5; have e0 := pw_cell_below hb5 d0; have e1 := pw_cell_below hb5 d1; have e2 := pw_cell_below hb5 d2; have e3 := pw_cell_below hb5 d3; have e4 := pw_cell_below hb5 d4))
      have hsz5 : W3.drew.heap.size = W3.heap.size := rfl
      replace hwant3 := (hb5.block _ (Array.getElem?_eq_some_iff.1 hwant3).1).trans (show W3.drew.heap[w1.heap.size]? = _ from hwant3)
      replace hgot3 := (hb5.block _ (Array.getElem?_eq_some_iff.1 hgot3).1).trans (show W3.drew.heap[w2.heap.size]? = _ from hgot3)
      replace hg3 := (hb5.block _ (Array.getElem?_eq_some_iff.1 hg3).1).trans (show W3.drew.heap[w1.heap.size + 1]? = _ from hg3)
      replace hBm := hBm.trans (hq5.out.mono hBm.size)
      clear hz1 hz2 w0 w1c wf0 wf1 o0 o1 of0 of1 g0 g1 gf0 gf1 hnil hT4 d0 d1 d2 d3 d4 e0 e1 e2 e3 e4 hb5 hsz5 hq3 hq5
    case' inr.inl =>
      have hz1 : ((n1 : Int) == 0) = true := beq_iff_eq.mpr (by omega)
      have hz2 : ((l.length : Int) == 0) = false := beq_eq_false_iff_ne.mpr (by omega)
      clear hz0 hz3
      go_region
      clear hz1 hz2 w0 w1c wf0 wf1 o0 o1 of0 of1 g0 g1 gf0 gf1
      replace hwant3 : W3.drew.heap[w1.heap.size]? = some (.cells #[.int .i64 a1, .int .i64 a2] 23 (0, 0)) := hwant3
      replace hgot3 : W3.drew.heap[w2.heap.size]? = some (.cells #[.int .i64 a1, .int .i64 a2] 23 (0, 0)) := hgot3
      replace hg3 : W3.drew.heap[w1.heap.size + 1]? = some (.cells #[.slice A l.length c, .int .i64 (n1 : Int)] 30 (0, 0)) := hg3
      replace hBm := below_drew hBm
      generalize W3.drew = Wm at *
    case' inr.inr =>
      have hz1 : ((n1 : Int) == 0) = false := beq_eq_false_iff_ne.mpr (by omega)
      clear hz0
      go_region
      clear hz1 w0 w1c wf0 wf1 o0 o1 of0 of1 g0 g1 gf0 gf1
      replace hwant3 : W3.drew.heap[w1.heap.size]? = some (.cells #[.int .i64 a1, .int .i64 a2] 23 (0, 0)) := hwant3
      replace hgot3 : W3.drew.heap[w2.heap.size]? = some (.cells #[.int .i64 a1, .int .i64 a2] 23 (0, 0)) := hgot3
      replace hg3 : W3.drew.heap[w1.heap.size + 1]? = some (.cells #[.slice A l.length c, .int .i64 (n1 : Int)] 30 (0, 0)) := hg3
      replace hBm := below_drew hBm
      generalize W3.drew = Wm at *
    all_goals
      clear hW3
      obtain ⟨l2, hl2⟩ : ∃ l2 : List S23, ((⟨1, 7⟩ : S23) :: ⟨2, 7⟩ :: l).drop (l.length % 2) = l2 := ⟨_, rfl⟩
      have hlen2 : l2.length = l.length + 1 + 1 - l.length % 2 := by rw [← hl2]; simp
      obtain ⟨k2, hk2⟩ := Ev.rounds (taken_any kind l2 (by omega))
      obtain ⟨b1, b2, n2, ht2⟩ : ∃ b1 b2 n2, tkA kind l2 = ((b1, b2), n2) := ⟨_, _, _, rfl⟩
      rw [ht2] at hk2
      have Hlen2 := Aside0.mk hlen2
      have hlen3 : l2.length ≤ l.length + 2 := by omega
      clear hlen2
      have hltm : w1.heap.size + 1 < Wm.heap.size := (Array.getElem?_eq_some_iff.1 hg3).1
      have hltg : w2.heap.size < Wm.heap.size := (Array.getElem?_eq_some_iff.1 hgot3).1
      have hrm := Kd.C_below hr hBm
      have hgm := Kd.C_below hg0 hBm
      go_wp2_with (first
        | ((with_reducible refine gate_dst (N := 57) rfl ?_); refine Kd.R_lit (w0 := Wm) k23 Wm.heap.size 23 ?hg (N := 57) ?hd (xs := ([⟨1, 7⟩, ⟨2, 7⟩] : List (S23))) (inner := [.int .i64 1, .int .i64 7, .int .i64 2, .int .i64 7]) (ok := fun _ => True) (okp := fun _ => True) ?hr ?hp (fun _ hk => hk) trivial (Below.refl _ _) (Nat.le_refl _) (by simp) ?_; (case hd => rfl); (case hg => rfl); (case hr => first | (go_simp; done) | (go_simp; rfl)); (case hp => exact Reps.c2 (show Kd.M k23 _ _ _ (⟨1, 7⟩ : S23) [.int .i64 1, .int .i64 7] from (k23_mkM _ _ _ (⟨1, 7⟩ : S23))) (Reps.c2 (show Kd.M k23 _ _ _ (⟨2, 7⟩ : S23) [.int .i64 2, .int .i64 7] from (k23_mkM _ _ _ (⟨2, 7⟩ : S23))) (Reps.none _ _))); intro v11 w11 ho11 hb11 hg11 hnew11; clear hg11 hnew11; obtain ⟨A11, c11, e11⟩ := Kd.R_slice ho11; subst e11)
        | ((with_reducible refine gate_builtin (b := .append) (xs := #[.tmp 54, .tmp 57]) rfl ?_); at_builtin; refine Kd.R_append_rows k23 (w0 := Wm) Wm.heap.size rfl (.tmp 54) (.tmp 57) 25 23 (.agg #[(.int .i64 0), (.int .i64 0)]) 16 rfl Tryd.underlying25 info23 rfl (by decide) (by omega) (.slice none 0 0) [] [⟨1, 7⟩, ⟨2, 7⟩] _ _ _ (fun _ => True) (fun _ => False) rfl rfl (Kd.R_nil k23 23 _ _ _) (Kd.R_reads' ho11).2.2 (fun _ _ h => h) (fun _ h => h.elim) (fun _ _ => trivial) hb11 hb11.size (by simp) ?_; intro v12 w12 ho12 hb12 hg12 hat12; clear hg12 hat12; simp only [List.nil_append] at ho12; obtain ⟨A12, c12, e12⟩ := Kd.R_slice ho12; subst e12)
        | ((with_reducible refine gate_builtin (b := .append) (xs := #[.tmp 59, .tmp 60]) rfl ?_); at_builtin; refine Kd.R_append_rows k23 (w0 := Wm) Wm.heap.size rfl (.tmp 59) (.tmp 60) 25 23 (.agg #[(.int .i64 0), (.int .i64 0)]) 16 rfl Tryd.underlying25 info23 rfl (by decide) (by omega) _ _ l _ _ _ (fun _ => True) (fun _ => False) rfl rfl ho12 (Kd.C_below hrm hb12) (fun _ _ h => h) (fun _ h => h.elim) (fun _ _ => trivial) hb12 hb12.size (by simp; omega) ?_; intro v13 w13 ho13 hb13 hg13 hat13; clear hg13 hat13; obtain ⟨g13, cap13, e13, gb13, gl13, gc13⟩ := Kd.R_form ho13 (by simp); subst e13; have hl13 := Kd.R_reads' ho13; have hgg := (hb13.block _ hltm).trans hg3; obtain ⟨g0, g1, gf0, gf1⟩ := cells_at2 hgg; have hcapne : ¬ (cap13 = l.length % 2) := (by have := hl13.2.1; simp at this; omega))
        | (go_at_call 20; rw [← Hlen2.out]; refine (levyref1_Taken.calls k2 kind (some ⟨g13, l.length % 2 * 2, none⟩) (cap13 - l.length % 2) l2 b1 b2 (n2 : Int) _ (C_set2 k23_flat (cut_C hl13.2.2 hl13.2.1 hcapne hl2) (w1.heap.size + 1) _ _ (fun _ ad e => by cases e; simp only; omega)) (by have h1_ := hl13.2.1; have h2_ := Hlen2.out; simp at h1_; omega) hk2).mono ?_; rintro e w14 ⟨rfl, hb14⟩; have hsz13 := hb13.size; have hsz14 := hb14.size; rw [size_set2] at hsz14; have hgg4 := (hb14.block (w1.heap.size + 1) (by rw [size_set2]; omega)).trans (set_two hgg); have hwant4 := (hb14.block w1.heap.size (by rw [size_set2]; omega)).trans (other (other ((hb13.block _ (by omega)).trans hwant3) (by simp only; omega)) (by simp only; omega)); obtain ⟨k0, k1', kf0, kf1⟩ := cells_at2 hwant4)
        | (go_at_call 22; refine (sum_any (w1.heap.size + 1) (some ⟨g13, l.length % 2 * 2, none⟩) (cap13 - l.length % 2) l2 (by omega) kind _ ?h1 (by omega) (fun _ ad e => by cases e; show g13 ≠ _; omega) ⟨?h2, ?h3⟩ ?h4).mono ?_; (case h1 => rw [size_set2]; omega); (case h2 => exact other (other hgg4 (by simp only; omega)) (by simp only; omega)); (case h3 => exact C_set2 k23_flat (Kd.C_below (C_set2 k23_flat (cut_C hl13.2.2 hl13.2.1 hcapne hl2) (w1.heap.size + 1) _ _ (fun _ ad e => by cases e; simp only; omega)) hb14) w1.heap.size _ _ (fun _ ad e => by cases e; simp only; omega)); (case h4 => exact C_set2 k87_flat (Kd.C_below (C_set2 k87_flat (Kd.C_below hgm hb13) (w1.heap.size + 1) _ _ (fun _ ad e => by cases e; simp only; omega)) hb14) w1.heap.size _ _ (fun _ ad e => by cases e; simp only; have := hb1.size; omega)); rw [ht2]; rintro e w15 ⟨rfl, hb15, hH15⟩; have hgot5 := (hb15.block w2.heap.size (by rw [size_set2]; omega) (by omega)).trans (other (other ((hb14.block _ (by rw [size_set2]; omega)).trans (other (other ((hb13.block _ hltg).trans hgot3) (by simp only; omega)) (by simp only; omega))) (by simp only; omega)) (by simp only; omega)); obtain ⟨m0, m1, mf0, mf1⟩ := cells_at2 hgot5; have hwant5 := (hb15.block w1.heap.size (by rw [size_set2]; omega) (by omega)).trans (set_two hwant4); obtain ⟨q0, q1, qf0, qf1⟩ := cells_at2 hwant5; obtain ⟨s0, s1, sf0, sf1⟩ := cells_at2 hH15.1))
      have hbf : Below w.heap.size w ((w15.setCell ⟨w2.heap.size, 0, none⟩ (.int .i64 b1)).setCell ⟨w2.heap.size, 1, none⟩ (.int .i64 b2)) := by
        refine below_set2 ?_ _ _ _ (by have := hb1.size; omega)
        refine Below.trans (below_set2 (Below.trans (below_set2 (hBm.trans (hb13.mono hBm.size)) (w1.heap.size + 1) _ _ (by have := hb1.size; omega)) (hb14.mono (by rw [size_set2]; have := hb1.size; omega))) w1.heap.size _ _ hb1.size) (hb15.below (by rw [size_set2]; have := hb1.size; omega) (by have := hb1.size; omega))
      go_ret
      exact ⟨by first | rfl | simp, hbf⟩
theorem heap_pos {w : World} (hg0 : Kd.C k87 w (some ⟨0, 0, none⟩) gtab0.length gtab0) : 0 < w.heap.size := by
  obtain ⟨ad, e, hx, _⟩ := at_T87 hg0 0 (by decide) (by decide)
  cases e
  have := World.block_lt_of_cell? w _ hx
  simpa [Addr.add] using this
end Go.Proofs.YtnjhjaifmgjljaaDoor.Y

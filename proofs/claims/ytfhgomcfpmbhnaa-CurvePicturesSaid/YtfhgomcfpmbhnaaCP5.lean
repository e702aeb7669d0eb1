-- Part 5 of the texts of the claim CP (wrote by programs: words of the kit's print.sh, printed functions; and my own texts; joined by wip/tools/pack.py).
import Derived.Test.YtfhgomcfpmbhnaaCP4
import Derived.LoopTactic

section
namespace Go.Proofs.Ytfhgomcfpmbhnaa.Y
open Go.RowKit Go.Proofs.Ytfhgomcfpmbhnaa.PS Go.Proofs.YtfhgomcfpmbhnaaW.PrintWords Go.Proofs.YtfhgomcfpmbhnaaW.PrintMore Go.Proofs.YtfhgomcfpmbhnaaW.Fits
attribute [local go_sem] frun_store frun_bits frun_from
set_option linter.unusedVariables false
theorem info58 : (Try.prog.info? 58).map (fun i => (i.zero, i.size, i.bytes)) = some (some (.agg #[.int .i64 0, .float .f32 0]), 2, 16) := by kernel_rfl
def ptv (l : List S73) : List Value := l.flatMap fun d => [.int .i64 d.f0, .float .f32 d.f1.toNat]
theorem ptv_len (l : List S73) : (ptv l).length = l.length * 2 := by
  unfold ptv
  induction l with
  | nil => rfl
  | cons d t ih => rw [List.flatMap_cons, List.length_append, ih]; simp; omega
theorem ptv_take (l : List S73) (i : Nat) (h : i < l.length) : ptv (l.take (i + 1)) = ptv (l.take i) ++ [.int .i64 (rd_T73 l i).f0, .float .f32 (rd_T73 l i).f1.toNat] := by
  unfold ptv rd_T73
  rw [List.take_add_one, List.flatMap_append, List.getD_eq_getElem?_getD, Int.toNat_natCast, List.getElem?_eq_getElem h]
  rfl
theorem make58 (w : World) (n : Int) (h0 : 0 ≤ n) (h1 : n ≤ 8796093022208) : (Instr.makeSlice 31 (.int .i64 0) (.int .i64 n)).run Try.prog w = .ok (.slice (some ⟨w.heap.size, 0, none⟩) 0 n.toNat) (w.alloc (.cells (madeCells #[.int .i64 0, .float .f32 0] (n.toNat * 2)) 58)) := by
  obtain ⟨i0, hi0, hz0, hz1, hz2⟩ := info_parts info58
  have hr := run_make (P := Try.prog) w 31 58 i0 _ Try.underlying31 hi0 hz0 .i64 .i64 0 n (Int.le_refl _) h0 (by rw [hz2]; omega) (by omega)
  rw [hz1] at hr
  exact hr
theorem build58a (w : World) : (Instr.build 58 #[(0, .int .i64 (-7701))]).run Try.prog w = .ok (.agg #[.int .i64 (-7701), .float .f32 0]) w := by kernel_rfl
theorem build58b (w : World) : (Instr.build 58 #[(0, .int .i64 (-7702))]).run Try.prog w = .ok (.agg #[.int .i64 (-7702), .float .f32 0]) w := by kernel_rfl
attribute [local go_sem] make58 build58a build58b
theorem far_cell {wr w1 : World} {o : Obj} {B : Nat} {a : Addr} {v : Value} (hsz : B ≤ wr.heap.size) (h : a.block < B) (hg : (wr.alloc o).drew.grownBy w1 (some B)) (hx : wr.cell? a = some v) : w1.cell? a = some v := by
  have h1 := hg.cell_far a (Nat.lt_of_lt_of_le h (Nat.le_trans hsz (by simp))) (fun e => by have := Option.some.inj e; omega)
  have h2 := ((Below.refl _ wr).alloc (Nat.le_refl _) o).cell (Nat.lt_of_lt_of_le h hsz)
  rw [h1]
  exact h2.trans hx
theorem own_made (w : World) (n : Nat) (h : n ≤ 8796093022208) : (w.alloc (.cells (madeCells #[.int .i64 0, .float .f32 0] (n * 2)) 58)).ownsRow w.heap.size 58 2 (.slice (some ⟨w.heap.size, 0, none⟩) 0 n) 0 [] :=
  World.ownsRow_made w _ n (Nat.le_refl _) (by simp [maxLen]; omega) (size_madeCells _ _)
set_option maxRecDepth 100000 in
set_option maxHeartbeats 4000000 in
theorem points_calls (A : Option Addr) (c0 : Nat) (l : List S73) (w : World) (hr : Kd.C k73 w A l.length l) (hc : l.length ≤ c0) (hlen : l.length + 2 ≤ 8796093022208) :
    Calls Try.prog 16 #[.slice A l.length c0] w fun e w' => e = .returned (.slice (some ⟨w.heap.size, 0, none⟩) l.length (l.length + 2)) ∧ w'.ownsRow w.heap.size 58 2 (.slice (some ⟨w.heap.size, 0, none⟩) (l.length + 2) (l.length + 2)) (l.length + 2) (ptv l ++ [.int .i64 (-7701), .float .f32 0, .int .i64 (-7702), .float .f32 0]) ∧ Below w.heap.size w w' := by
  obtain ⟨i0, hi0, hz0, hz1, hz2⟩ := info_parts info58
  have HR := Aside0.mk hr
  clear hr
  have hn0 : (0 : Int) ≤ (l.length : Int) + 2 := by omega
  have hn1 : (l.length : Int) + 2 ≤ 8796093022208 := by omega
  go_enter Try.func16, Try.ntmps16
  go_wp2
  go_loopg [3, 4] (l.length + 1) (fun kq v3 v4 w' => ∃ i : Nat, v4 = .int .i64 (i : Int) ∧ v3 = .slice (some ⟨w.heap.size, 0, none⟩) i (l.length + 2) ∧ Aside0 (kq + i = l.length + 1) ∧ Aside0 (i ≤ l.length) ∧ Aside0 (w'.ownsRow w.heap.size 58 2 (.slice (some ⟨w.heap.size, 0, none⟩) i (l.length + 2)) i (ptv (l.take i))) ∧ Aside0 (Below w.heap.size w w'))
  case atStart =>
    refine ⟨0, rfl, rfl, ⟨by omega⟩, ⟨by omega⟩, ⟨?_⟩, ⟨(Below.refl _ w).alloc (Nat.le_refl _) _⟩⟩
    exact own_made w (l.length + 2) hlen
  case round =>
    obtain ⟨i, rfl, rfl, HK, HI, HO, HB⟩ := hrel
    cases gk with
    | zero => exact absurd HK.out (by have := HI.out; omega)
    | succ k1 =>
      by_cases hlt : i < l.length
      · have hb0 : decide ((i : Int) < (l.length : Int)) = true := decide_eq_true (by omega)
        obtain ⟨ad, e1, hx0, hx1⟩ := at_T73 HR.out (i : Int) (by omega) (by omega)
        cases e1
        have hw0 := hx0
        have p0 : (0 ≤ (i : Int)) = True := eq_true (by omega)
        have p1 : ((i : Int) < (l.length : Int)) = True := eq_true (by omega)
        replace hx0 := (HB.out.cell (World.block_lt_of_cell? w _ hx0)).trans hx0
        replace hx1 := (HB.out.cell (World.block_lt_of_cell? w _ hx1)).trans hx1
        obtain ⟨X, hX⟩ : ∃ X, (rd_T73 l (i : Int)).f0 = X := ⟨_, rfl⟩
        obtain ⟨Y, hY⟩ : ∃ Y, (rd_T73 l (i : Int)).f1 = Y := ⟨_, rfl⟩
        have ht := ptv_take l i hlt
        rw [hX, hY] at ht
        rw [hX] at hx0
        rw [hY] at hx1
        rw [Int.toNat_natCast] at hx0 hx1
        have hlt0 : (ad.add (i * 2)).block < w.heap.size := by
          have := World.block_lt_of_cell? w _ hw0
          rwa [Int.toNat_natCast] at this
        have hne0 : some (ad.add (i * 2)).block ≠ some w.heap.size := fun h => by
          have := Option.some.inj h
          omega
        have hown := HO.out
        have hsz := HB.out.size
        go_wp2_with fail
        go_region_held3 (fun w' => w'.cell? (ad.add (i * 2)) = some (.int .i64 X) ∧ w'.cell? ⟨(ad.add (i * 2)).block, (ad.add (i * 2)).off + 1, none⟩ = some (.int .u32 Y))
          (first | exact ⟨hy0, hy1⟩ | exact ⟨hx0, hx1⟩ | go_keep)
          (first | (refine step_append_fits (by rfl) _ _ _ (by rfl) w.heap.size 58 i0 2 Try.underlying31 hi0 hz1 w.heap.size i (l.length + 2) (ptv (l.take i)) (by rfl) ((hown.alloc _).drew) ⟨wr.heap.size, 0, none⟩ 1 1 [.int .i64 X, .float .f32 Y.toNat] (by rfl) (by rfl) (World.news_of_block (cs := #[.int .i64 X, .float .f32 Y.toNat]) (t := 58) (fr := (0, 0)) (heap_alloc_new wr _)) (by simp [Value.oneCell']) (by omega) ?_; intro w1 hown1 hgrow; have hy0 := far_cell hsz hlt0 hgrow hx0; have hy1 := far_cell (a := ⟨(ad.add (i * 2)).block, (ad.add (i * 2)).off + 1, none⟩) hsz hlt0 hgrow hx1))
        go_wp2
        go_roundg k1
        case measure => omega
        case rel => exact ⟨i + 1, by simp, rfl, ⟨by have := HK.out; omega⟩, ⟨by omega⟩, ⟨by rw [ht]; exact hown1⟩, ⟨((HB.out.alloc hsz _).drew).grown hgrow (Nat.le_trans hsz (by simp)) (fun k hk => by have := Option.some.inj hk; omega)⟩⟩
      · obtain rfl : i = l.length := by have := HI.out; omega
        have hb0 : decide ((l.length : Int) < (l.length : Int)) = false := decide_eq_false (by omega)
        have hown := HO.out
        rw [List.take_length] at hown
        have hsz := HB.out.size
        go_upto_region 6 with (fail)
        apply wp_region_lit
        refine Kd.event_run rfl rfl ?_
        refine Kd.event_run (v := .agg #[.int .i64 (-7701), .float .f32 0]) (w1 := wr) rfl (by kernel_rfl) ?_
        refine Kd.event_run (v := .agg #[.int .i64 (-7702), .float .f32 0]) (w1 := wr) rfl (by kernel_rfl) ?_
        refine Kd.event_run (v := .slice (some ⟨wr.heap.size, 0, none⟩) 2 2) (w1 := wr.alloc (.cells #[.int .i64 (-7701), .float .f32 0, .int .i64 (-7702), .float .f32 0] 58)) rfl (by kernel_rfl) ?_
        refine Go.Proofs.YtfhgomcfpmbhnaaW.Fits.wpList_append_fits rfl _ _ 31 rfl w.heap.size 58 i0 2 Try.underlying31 hi0 hz1 w.heap.size l.length (l.length + 2) (ptv l) rfl (hown.alloc _) ⟨wr.heap.size, 0, none⟩ 2 2 [.int .i64 (-7701), .float .f32 0, .int .i64 (-7702), .float .f32 0] rfl rfl (World.news_of_block (cs := #[.int .i64 (-7701), .float .f32 0, .int .i64 (-7702), .float .f32 0]) (t := 58) (fr := (0, 0)) (heap_alloc_new wr _)) (by simp [Value.oneCell']) (by omega) ?_
        intro w1 hown1 hgrow
        refine Kd.event_run rfl rfl ?_
        apply wpList_nil
        have hle : l.length ≤ l.length + 2 := by omega
        have hle0 : (l.length : Int) ≤ (l.length : Int) + 2 := by omega
        go_simp
        go_wp2
        go_ret
        exact ⟨rfl, hown1, (HB.out.alloc hsz _).grown hgrow (Nat.le_trans hsz (by simp)) (fun k hk => by have := Option.some.inj hk; omega)⟩
end Go.Proofs.Ytfhgomcfpmbhnaa.Y
end

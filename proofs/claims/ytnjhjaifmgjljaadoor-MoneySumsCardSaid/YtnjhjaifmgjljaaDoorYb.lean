/- The contract of (*given).all: it gives the list's values one by one, and counts in memory how many it gave. -/
import Derived.Test.YtnjhjaifmgjljaaDoorPMx0
import Derived.Test.YtnjhjaifmgjljaaDoorYa
namespace Go.Proofs.YtnjhjaifmgjljaaDoor.Y
open Go.RowKit Go.Shelf Go.Proofs.YtnjhjaifmgjljaaDoor.PM Go.Proofs.YtnjhjaifmgjljaaDoorW.PrintWords
attribute [local go_sem] Oper.semAt_some
/-- What the receiver (block gb) and the list behind it hold, k values having been given. -/
def Held (gb : Nat) (A : Option Addr) (cap : Nat) (xs : List S23) (k : Nat) (W : World) : Prop :=
  W.heap[gb]? = some (.cells #[.slice A xs.length cap, .int .i64 (k : Int)] 30 (0, 0)) ∧ Kd.C k23 W A xs.length xs
def count (gb k : Nat) (W : World) : World := W.setCell ⟨gb, 1, none⟩ (.int .i64 ((k : Int) + 1))
def enc23 (x : S23) : Array Value := #[.agg #[.int .i64 x.f0, .int .i64 x.f1]]
set_option maxRecDepth 100000 in
set_option maxHeartbeats 2000000 in
theorem all_counts (F : Fence) (n : Nat) (h21 : F.fn 21) (hro : F.round = none) (hn : 1 ≤ n) (gb : Nat) (A : Option Addr) (cap : Nat) (xs : List S23) (hx : xs.length ≤ 1000000) (hne : 0 < xs.length → ∀ ad, A = some ad → ad.block ≠ gb) :
    SeqCounts F n Tryd.prog 21 #[.pointer (some ⟨gb, 0, none⟩)] enc23 (Held gb A cap xs) (count gb) xs := by
  intro l J J₁ Jx W hR hinc hY h0
  refine callsIn_of_wp Tryd.func21 rfl h21 ?_ hro
  simp only [Tryd.ntmps21, List.size_toArray, List.length_cons, List.length_nil, Nat.reduceAdd, Nat.reduceSub, Array.replicate_succ, Array.replicate_zero, List.push_toArray, List.append_toArray, List.nil_append, List.cons_append]
  gi_wp2
  gi_loopw [4] (fun i wr => ∃ k : Nat, k ≤ xs.length ∧ i = .int .i64 k ∧ J (xs.take k) wr) (fun i _ => xs.length - (intOf i).toNat)
  case atStart => exact ⟨0, Nat.zero_le _, rfl, by simpa using h0⟩
  case round =>
    obtain ⟨k, hk, rfl, hJs⟩ := hrel
    have hlen : (xs.take k).length = k := by simp; omega
    obtain ⟨hgb, hL⟩ := hR _ _ hJs
    rw [hlen] at hgb
    have hc0 : wr.cell? ⟨gb, 0, none⟩ = some (.slice A xs.length cap) := by simp [World.cell?, hgb]
    have hc1 : wr.cell? ⟨gb, 1, none⟩ = some (.int .i64 (k : Int)) := by simp [World.cell?, hgb]
    have hf1 : wr.frozen? ⟨gb, 1, none⟩ = false := by simp [World.frozen?, hgb]
    clear hgb
    by_cases hlt : k < xs.length
    · have hJ1 := hinc _ _ (by rw [hlen]; exact hlt) hJs
      rw [hlen] at hJ1
      obtain ⟨ad, e, hx0, hx1⟩ := at_T23 hL (k : Int) (by omega) (by omega)
      have hadb := hne (by omega) ad e
      subst e
      have hpre : xs.take k ++ [rd_T23 xs k] <+: xs := by
        have : xs.take k ++ [rd_T23 xs k] = xs.take (k + 1) := by
          rw [List.take_add_one]
          simp [rd_T23, List.getD_eq_getElem?_getD, List.getElem?_eq_getElem hlt]
        rw [this]; exact List.take_prefix _ _
      obtain ⟨fn, tmps, assign, body, hy, hRd⟩ := hY (xs.take k) (rd_T23 xs k) (count gb k wr) hpre hJ1
      dsimp only [enc23, count] at hy hRd
      have hb0 : decide ((k : Int) < (xs.length : Int)) = true := decide_eq_true (by omega)
      rw [show ((k : Int)).toNat = k from by omega] at hx0 hx1
      have hblk : (ad.add (k * 2)).block = ad.block := by unfold Addr.add; split <;> rfl
      have y0 : (wr.setCell ⟨gb, 1, none⟩ (.int .i64 ((k : Int) + 1))).cell? (ad.add (k * 2)) = some (.int .i64 (rd_T23 xs k).f0) :=
        (World.cell?_setCell_other _ ⟨gb, 1, none⟩ (ad.add (k * 2)) _ (fun h => hadb (by rw [← hblk, ← h]))).trans hx0
      have y1 : (wr.setCell ⟨gb, 1, none⟩ (.int .i64 ((k : Int) + 1))).cell? ⟨(ad.add (k * 2)).block, (ad.add (k * 2)).off + 1, none⟩ = some (.int .i64 (rd_T23 xs k).f1) :=
        (World.cell?_setCell_other _ ⟨gb, 1, none⟩ ⟨(ad.add (k * 2)).block, (ad.add (k * 2)).off + 1, none⟩ _ (fun h => hadb (by rw [← hblk]; exact (congrArg Addr.block h).symm))).trans hx1
      rw [hblk] at hx1
      gi_wp2
      refine hRd.mono ?_
      rintro e W3 (⟨rfl, hJ3⟩ | ⟨rfl, hJx3⟩)
      · gi_wp2
        go_roundw
        case rel =>
          refine ⟨k + 1, by omega, by simp, ?_⟩
          have : xs.take k ++ [rd_T23 xs k] = xs.take (k + 1) := by
            rw [List.take_add_one]
            simp [rd_T23, List.getD_eq_getElem?_getD, List.getElem?_eq_getElem hlt]
          rw [← this]; exact hJ3
        case measure => simp [intOf]; omega
      · gi_wp2
        refine bodyPost_ret (results_none rfl _ _ _) rfl ?_
        exact ⟨⟨_, rfl⟩, .inr ⟨_, hpre, hJx3⟩⟩
    · obtain rfl : k = xs.length := by omega
      have hb0 : decide ((xs.length : Int) < (xs.length : Int)) = false := decide_eq_false (by omega)
      gi_wp2
      go_end0
      exact ⟨⟨_, rfl⟩, .inl (by simpa using hJs)⟩
end Go.Proofs.YtnjhjaifmgjljaaDoor.Y

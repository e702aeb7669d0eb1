-- Part 6 of the texts of the claim PF (wrote by programs: words of the kit's print.sh, printed functions; and my own texts; joined by wip/tools/pack.py).
import Derived.Test.YtpbdkkahodaloaaPF5
import Derived.StillTailTactics

section
namespace Go.Proofs.Ytpbdkkahodaloaa.U
open Go.RowKit Go.Lib Go.Proofs.Ytpbdkkahodaloaa.PS Go.Proofs.YtpbdkkahodaloaaW.PrintWords Go.Proofs.YtpbdkkahodaloaaW.PrintMore
set_option linter.unusedVariables false
def LIM : Nat := 150000000000000
theorem cap_fits {need old : Nat} (h : old < need) (hb : need ≤ LIM) : Builtin.nextslicecap need old * 1 ≤ 281474976710656 := by
  unfold LIM at hb
  unfold Builtin.nextslicecap
  split
  · omega
  · split
    · omega
    · rw [growBy_four]
      repeat' split
      all_goals omega
structure Own (w : World) (base r n c : Nat) (xs : List Value) : Prop where
  len : xs.length = n
  low : base ≤ r
  is : ∃ cur fz, w.heap[r]? = some (.cells cur 5 fz) ∧ n ≤ c ∧ c ≤ maxLen ∧ cur.size = c ∧ cur.toList.take n = xs ∧ (fz = (0, 0) ∨ n = c)
theorem Own.of {w : World} {base r n c : Nat} {xs : List Value} (h : w.ownsRow base 5 1 (.slice (some ⟨r, 0, none⟩) n c) n xs) : Own w base r n c xs := by
  rcases h.2 with ⟨hv, _⟩ | ⟨g1, cap1, cur, hv, hbg, hg, hnc, hcm, hcs, htake⟩
  · cases hv
  · simp only [Value.slice.injEq, Option.some.injEq, Addr.mk.injEq, and_true, true_and] at hv
    obtain ⟨rfl, rfl⟩ := hv
    exact ⟨by simpa using h.1, hbg, cur, (0, 0), hg, hnc, hcm, by simpa using hcs, by simpa using htake, .inl rfl⟩
theorem Own.move {w w1 : World} {base r n c : Nat} {xs : List Value} (h : Own w base r n c xs) (hk : w1.heap[r]? = w.heap[r]?) : Own w1 base r n c xs := by
  obtain ⟨cur, fz, hb, hr⟩ := h.is
  exact ⟨h.len, h.low, cur, fz, hk.trans hb, hr⟩
theorem Own.lt {w : World} {base r n c : Nat} {xs : List Value} (h : Own w base r n c xs) : r < w.heap.size := by
  obtain ⟨cur, fz, hb, hr⟩ := h.is
  exact blk_lt hb
theorem Own.cells {w : World} {base r n c : Nat} {xs : List Value} (h : Own w base r n c xs) : ∀ j u, xs[j]? = some u → w.cell? ((⟨r, 0, none⟩ : Addr).add j) = some u := by
  obtain ⟨cur, fz, hb, _, _, _, ht, _⟩ := h.is
  intro j u hu
  have hadd : (⟨r, 0, none⟩ : Addr).add j = ⟨r, j, none⟩ := by unfold Addr.add; split <;> simp_all
  rw [hadd, cell_of_row w r j cur 5 fz hb]
  rw [← ht, List.getElem?_take] at hu
  split at hu
  · simpa using hu
  · cases hu
section
variable {P : Program} (w : World)
theorem run_append_bytes (base : Nat) (t ty : TypeId) (i : TypeInfo) (ht : P.underlying t = some (.slice 5)) (hi : P.info? 5 = some i) (hz : i.zero = some (.int .u8 0))
    (hsize : i.size = 1) (hby : i.bytes = 1) (g n cap : Nat) (xs : List Value) (hown : Own w base g n cap xs)
    (a : Addr) (m c : Nat) (news : List Value) (hl : news.length = m) (hnews : ∀ j u, news[j]? = some u → w.cell? (a.add j) = some u) (h1 : ∀ u ∈ news, u.oneCell' = true)
    (hbytes : n + m ≤ LIM) (hm : 0 < m) (hbase : base ≤ w.heap.size) :
    ∃ g' c' w', (Builtin.append_ #[t, t] ty #[.slice (some ⟨g, 0, none⟩) n cap, .slice (some a) m c]).run P w = .ok (.slice (some ⟨g', 0, none⟩) (n + m) c') w' ∧ w'.ownsRow base 5 1 (.slice (some ⟨g', 0, none⟩) (n + m) c') (n + m) (xs ++ news) ∧ w.grownBy w' (some g) ∧ (g' = g ∨ w.heap.size ≤ g') := by
  have hL : LIM = 150000000000000 := rfl
  have hxl : xs.length = n := hown.len
  have hlen : (xs ++ news).length = (n + m) * 1 := by rw [List.length_append, hxl, hl, Nat.mul_one]
  obtain ⟨cur, fz, hg, hnc, hcm, hcs, htake, hfz⟩ := hown.is
  by_cases hroom : n + m ≤ cap
  · have hf0 : fz = (0, 0) := hfz.resolve_right (by omega)
    subst hf0
    have hr := run_append_room (P := P) w t ty 5 i ht hi g n cap cur hg a m c news (by rw [hsize, hl, Nat.mul_one]) hnews h1 hroom (by rw [hsize, hl, hcs]; omega)
    rw [hsize, Nat.mul_one] at hr
    refine ⟨g, cap, _, hr, ⟨hlen, .inr ⟨g, cap, _, rfl, hown.low, setRow_heap w g cur _ 5 _ hg, hroom, hcm, ?_, ?_⟩⟩, ⟨rfl, rfl, rfl, by simp, fun k _ hk => setRow_other w g k _ (fun e => hk (by rw [e]))⟩, .inl rfl⟩
    · simp only [List.size_toArray, List.length_append, List.length_take, List.length_drop, Array.length_toList]
      omega
    · rw [htake, ← hlen]
      exact List.take_left
  · have hr := run_append_grow (P := P) w t ty 5 i (.int .u8 0) ht hi hz ⟨g, 0, none⟩ n cap xs (by rw [hsize, hxl, Nat.mul_one]) hown.cells a m c news (by rw [hsize, hl, Nat.mul_one]) hnews (by omega) (by omega) (by rw [hby]; exact cap_fits (by omega) hbytes)
    have hge := grownCap_ge w (n + m) cap 5
    have hcm : grownCap w (n + m) cap 5 ≤ maxLen := grownCap_le_maxLen w (n + m) cap 5 (by unfold maxLen; omega)
    refine ⟨_, _, _, hr, ⟨hlen, .inr ⟨w.heap.size, _, _, rfl, hbase, heap_alloc_new w.drew _, hge, hcm, ?_, ?_⟩⟩, ⟨rfl, rfl, rfl, by simp, fun k hk _ => Below.heap_alloc w.drew _ k hk⟩, .inr (Nat.le_refl _)⟩
    · have hz1 : (Value.int IntKind.u8 0).cells.size = 1 := rfl
      simp only [Array.size_append, List.size_toArray, size_zeroCells, hz1, hxl, hl]
      omega
    · simp only [Array.toList_append, List.append_assoc]
      rw [← List.append_assoc, ← hlen]
      exact List.take_left
theorem run_append_text (base : Nat) (t u ty : TypeId) (i : TypeInfo) (ht : P.underlying t = some (.slice 5)) (hu : P.underlying u = some .string) (hi : P.info? 5 = some i) (hz : i.zero = some (.int .u8 0))
    (hsize : i.size = 1) (hby : i.bytes = 1) (g n cap : Nat) (xs : List Value) (hown : Own w base g n cap xs) (s : ByteArray)
    (hbytes : n + s.size ≤ LIM) (hbase : base ≤ w.heap.size) :
    ∃ g' c' w', (Builtin.append_ #[t, u] ty #[.slice (some ⟨g, 0, none⟩) n cap, .string s]).run P w = .ok (.slice (some ⟨g', 0, none⟩) (n + s.size) c') w' ∧ Own w' base g' (n + s.size) c' (xs ++ strCells s) ∧ w.grownBy w' (some g) ∧ (g' = g ∨ w.heap.size ≤ g') := by
  have hL : LIM = 150000000000000 := rfl
  have hxl : xs.length = n := hown.len
  have hlen : (xs ++ strCells s).length = n + s.size := by rw [List.length_append, hxl, strCells_length]
  obtain ⟨cur, fz, hg, hnc, hcm, hcs, htake, hfz⟩ := hown.is
  by_cases hroom : n + s.size ≤ cap
  · by_cases hs0 : s.size = 0
    · have hn : strCells s = [] := List.eq_nil_of_length_eq_zero (by rw [strCells_length]; exact hs0)
      have hf := run_firstCells_string (P := P) w 1 s
      rw [hs0, hn] at hf
      refine ⟨g, cap, w, ?_, by rw [hs0, hn, List.append_nil]; exact hown, World.grownBy.refl _ _, .inl rfl⟩
      simp [Builtin.append_, run_underlying ht, run_underlying hu, sizeOf, typeInfo, hi, hsize, Builtin.lenOf, hs0, hf, hnc, storeCells]
    · have hf0 : fz = (0, 0) := hfz.resolve_right (by omega)
      subst hf0
      have hr := run_append_room_string (P := P) w t u ty 5 i ht hu hi hsize g n cap cur hg s hroom (by omega)
      refine ⟨g, cap, _, hr, ⟨hlen, hown.low, _, (0, 0), setRow_heap w g cur _ 5 _ hg, hroom, hcm, ?_, ?_, .inl rfl⟩, ⟨rfl, rfl, rfl, by simp, fun k _ hk => setRow_other w g k _ (fun e => hk (by rw [e]))⟩, .inl rfl⟩
      · simp only [List.size_toArray, List.length_append, List.length_take, List.length_drop, Array.length_toList, strCells_length]
        omega
      · rw [htake, ← hlen]
        exact List.take_left
  · have hr := run_append_grow_string (P := P) w t u ty 5 i (.int .u8 0) ht hu hi hz ⟨g, 0, none⟩ n cap xs (by rw [hsize, hxl, Nat.mul_one]) hown.cells s (by omega) (by omega) (by rw [hby]; exact cap_fits (by omega) hbytes)
    have hge := grownCap_ge w (n + s.size) cap 5
    have hcm : grownCap w (n + s.size) cap 5 ≤ maxLen := grownCap_le_maxLen w (n + s.size) cap 5 (by unfold maxLen; omega)
    refine ⟨_, _, _, hr, ⟨hlen, hbase, _, (0, 0), heap_alloc_new w.drew _, hge, hcm, ?_, ?_, .inl rfl⟩, ⟨rfl, rfl, rfl, by simp, fun k hk _ => Below.heap_alloc w.drew _ k hk⟩, .inr (Nat.le_refl _)⟩
    · have hz1 : (Value.int IntKind.u8 0).cells.size = 1 := rfl
      simp only [Array.size_append, List.size_toArray, size_zeroCells, hz1, hxl, strCells_length]
      omega
    · simp only [Array.toList_append, List.append_assoc]
      rw [← List.append_assoc, ← hlen]
      exact List.take_left
end
def bytesOf (s : ByteArray) : List Int := s.data.toList.map fun b => (b.toNat : Int)
theorem bytesOf_length (s : ByteArray) : (bytesOf s).length = s.size := by simp [bytesOf]
theorem strCells_nums (s : ByteArray) : strCells s = nums .u8 (bytesOf s) := by simp [strCells, nums, bytesOf]
theorem nums_append (k : IntKind) (a b : List Int) : nums k a ++ nums k b = nums k (a ++ b) := by simp [nums]
structure Kp (g : Nat) (row : Nat) (w w' : World) : Prop where
  os : w'.os = w.os
  tape : w'.tape = w.tape
  output : w'.output = w.output
  size : w.heap.size ≤ w'.heap.size
  block : ∀ k, k < w.heap.size → k ≠ g → k ≠ row → w'.heap[k]? = w.heap[k]?
theorem Kp.refl (g r : Nat) (w : World) : Kp g r w w := ⟨rfl, rfl, rfl, Nat.le_refl _, fun _ _ _ _ => rfl⟩
theorem Kp.trans {g r r1 : Nat} {w w1 w2 : World} (h : Kp g r w w1) (k : Kp g r1 w1 w2) (hr : r1 = r ∨ w.heap.size ≤ r1) : Kp g r w w2 :=
  ⟨k.os.trans h.os, k.tape.trans h.tape, k.output.trans h.output, Nat.le_trans h.size k.size, fun i hi hg hn => (k.block i (Nat.lt_of_lt_of_le hi h.size) hg (by
    rcases hr with rfl | hb
    · exact hn
    · omega)).trans (h.block i hi hg hn)⟩
theorem Kp.grown {g r r1 : Nat} {w w1 w2 : World} (h : Kp g r w w1) (k : w1.grownBy w2 (some r1)) (hr : r1 = r ∨ w.heap.size ≤ r1) : Kp g r w w2 :=
  h.trans ⟨k.os, k.tape, k.output, k.size, fun i hi _ hn => k.block i hi (by simpa using hn)⟩ hr
theorem Kp.set {g r : Nat} {w w1 : World} (h : Kp g r w w1) (j : Nat) (u : Value) : Kp g r w (w1.setCell ⟨g, j, none⟩ u) :=
  ⟨h.os, h.tape, h.output, by simpa [World.setCell] using h.size, fun i hi hg hn => (Below.heap_setCell w1 ⟨g, j, none⟩ u i hg).trans (h.block i hi hg hn)⟩
theorem Kp.alloc {g r : Nat} {w w1 : World} (h : Kp g r w w1) (o : Obj) : Kp g r w (w1.alloc o) :=
  ⟨h.os, h.tape, h.output, Nat.le_trans h.size (by simp), fun i hi hg hn => (Below.heap_alloc w1 o i (Nat.lt_of_lt_of_le hi h.size)).trans (h.block i hi hg hn)⟩
theorem Kp.drewN {g r : Nat} {w w1 : World} (h : Kp g r w w1) (n : Nat) : Kp g r w (w1.drewN n) := ⟨h.os, h.tape, h.output, h.size, h.block⟩
theorem Kp.below {g r B : Nat} {w w1 : World} (h : Kp g r w w1) (hB : B ≤ w.heap.size) (hg : B ≤ g) (hr : B ≤ r) : Below B w w1 :=
  ⟨h.os, h.tape, h.output, h.size, fun k hk => h.block k (by omega) (by omega) (by omega)⟩
theorem Kp.blk {g r k : Nat} {w w1 : World} {o : Obj} (h : Kp g r w w1) (hb : w.heap[k]? = some o) (hg : k ≠ g) (hr : k ≠ r) : w1.heap[k]? = some o := (h.block k (blk_lt hb) hg hr).trans hb
structure Wr (w base : World) (g r : Nat) (xs : List Int) (d : Bool) : Prop where
  dat : Below base.heap.size base w
  ge : base.heap.size ≤ g
  lim : xs.length ≤ LIM
  ne : g ≠ r
  is : ∃ c, w.heap[g]? = some (.cells #[.slice (some ⟨r, 0, none⟩) xs.length c, .bool d] 123 (0, 0)) ∧ Own w base.heap.size r xs.length c (nums .u8 xs)
def WPost (base : World) (g r : Nat) (xs : List Int) (d : Bool) (w : World) (e : Ending) (w' : World) : Prop :=
  e = .returned (.tuple #[]) ∧ ∃ r', Wr w' base g r' xs d ∧ Kp g r w w' ∧ (r' = r ∨ w.heap.size ≤ r')
theorem Wr.keep {w w' : World} {base : World} {g r : Nat} {xs : List Int} {d : Bool} (h : Wr w base g r xs d) (hw : Below w.heap.size w w') : Wr w' base g r xs d := by
  obtain ⟨c, hb, ho⟩ := h.is
  refine ⟨h.dat.trans (hw.mono h.dat.size), h.ge, h.lim, h.ne, c, (hw.block g (blk_lt hb)).trans hb, ho.move (hw.block r ho.lt)⟩
theorem Wr.alloc {w : World} {base : World} {g r : Nat} {xs : List Int} {d : Bool} (h : Wr w base g r xs d) (o : Obj) : Wr (w.alloc o) base g r xs d := h.keep (below_alloc (Below.refl _ _) o)
theorem Wr.drewN {w : World} {base : World} {g r : Nat} {xs : List Int} {d : Bool} (h : Wr w base g r xs d) (n : Nat) : Wr (w.drewN n) base g r xs d := h.keep (pw_below_drewN (Below.refl _ _) n)
theorem Wr.lt {w : World} {base : World} {g r : Nat} {xs : List Int} {d : Bool} (h : Wr w base g r xs d) : g < w.heap.size ∧ r < w.heap.size ∧ base.heap.size ≤ r := by
  obtain ⟨c, hb, ho⟩ := h.is
  exact ⟨blk_lt hb, ho.lt, ho.low⟩
theorem Wr.open {w : World} {base : World} {g r : Nat} {xs : List Int} {d : Bool} (h : Wr w base g r xs d) : ∃ c, w.cell? ⟨g, 0, none⟩ = some (.slice (some ⟨r, 0, none⟩) xs.length c) ∧ w.cell? ⟨g, 1, none⟩ = some (.bool d) ∧ w.frozen? ⟨g, 0, none⟩ = false ∧ w.frozen? ⟨g, 1, none⟩ = false ∧ Own w base.heap.size r xs.length c (nums .u8 xs) := by
  obtain ⟨c, hb, ho⟩ := h.is
  obtain ⟨h0, h1, h2, h3⟩ := c2_ ⟨hb⟩
  exact ⟨c, h0, h1, h2, h3, ho⟩
structure Grew (w w3 : World) (base : World) (g r r' n c : Nat) (xs : List Int) (d : Bool) : Prop where
  c0 : ∃ u, w3.cell? ⟨g, 0, none⟩ = some u
  far : ∀ k, k < w.heap.size → k ≠ r → w3.heap[k]? = w.heap[k]?
  f0 : w3.frozen? ⟨g, 0, none⟩ = false
  wr : Wr (w3.setCell ⟨g, 0, none⟩ (.slice (some ⟨r', 0, none⟩) n c)) base g r' xs d
  kp : Kp g r w (w3.setCell ⟨g, 0, none⟩ (.slice (some ⟨r', 0, none⟩) n c))
  row : r' = r ∨ w.heap.size ≤ r'
theorem Grew.of {w w2 w3 : World} {base : World} {g r r' n c : Nat} {xs ys : List Int} {d : Bool} (h : Wr w base g r xs d) (h2 : Below w.heap.size w w2) (ho : Own w3 base.heap.size r' n c (nums .u8 xs ++ nums .u8 ys)) (hg : w2.grownBy w3 (some r)) (hr : r' = r ∨ w2.heap.size ≤ r')
    (hn : n = (xs ++ ys).length) (hl : n ≤ LIM) : Grew w w3 base g r r' n c (xs ++ ys) d := by
  obtain ⟨c0, hb, ho0⟩ := h.is
  have hb2 := (h2.block g (blk_lt hb)).trans hb
  have hb3 : w3.heap[g]? = some (.cells #[.slice (some ⟨r, 0, none⟩) xs.length c0, .bool d] 123 (0, 0)) := blk_grown hb2 hg (by simpa using h.ne)
  have hr' : r' = r ∨ w.heap.size ≤ r' := hr.imp id (fun e => Nat.le_trans h2.size e)
  have hne : g ≠ r' := by
    rcases hr' with rfl | e
    · exact h.ne
    · have := blk_lt hb; omega
  rw [nums_append] at ho
  subst hn
  refine ⟨⟨_, (blk_cell hb3 0).trans rfl⟩, fun k hk hn => (hg.block k (Nat.lt_of_lt_of_le hk h2.size) (by simpa using hn)).trans (h2.block k hk), blk_frozen hb3 0, ⟨?_, h.ge, hl, hne, c, by simpa using blk_set hb3 0 _, ho.move ?_⟩, ((Kp.refl g r w).trans (r1 := r) ⟨h2.os, h2.tape, h2.output, h2.size, fun k hk _ _ => h2.block k hk⟩ (.inl rfl) |>.grown hg (.inl rfl)).set 0 _, hr'⟩
  · exact ((h.dat.trans (h2.mono h.dat.size)).grown hg (Nat.le_trans h.dat.size h2.size) (fun k hk => by cases hk; exact h.lt.2.2)).setCell h.ge _
  · exact Below.heap_setCell w3 ⟨g, 0, none⟩ _ _ (fun e => hne e.symm)
theorem Grew.post {w w3 : World} {base : World} {g r r' n c : Nat} {xs : List Int} {d : Bool} (h : Grew w w3 base g r r' n c xs d) : WPost base g r xs d w (.returned (.tuple #[])) (w3.setCell ⟨g, 0, none⟩ (.slice (some ⟨r', 0, none⟩) n c)) := ⟨rfl, r', h.wr, h.kp, h.row⟩
theorem info5' : (Try.prog.info? 5).map (fun i => (i.zero, i.size, i.bytes)) = some (some (.int .u8 0), 1, 1) := by kernel_rfl
theorem wp_putC {o : Oper} {a : Act} {K : Act → World → Prop} {Q : Exit → Act → World → Prop} {w w2 : World} (s x : Operand)
    (ho : o.op = .call { callee := .builtin .append, args := #[s, x], argTypes := #[23, 23] }) {base : World} {g r n c0 : Nat} {xs : List Int} {d : Bool} (h : Wr w base g r xs d) (h2 : Below w.heap.size w w2) (hn : xs.length = n) (hown : Own w base.heap.size r n c0 (nums .u8 xs)) (hs : a.eval s = .slice (some ⟨r, 0, none⟩) n c0)
    (ad : Addr) (m c : Nat) (ys : List Int) (hx : a.eval x = .slice (some ad) m c) (hl : ys.length = m) (hnews : ∀ j u, (nums .u8 ys)[j]? = some u → w2.cell? (ad.add j) = some u) (hlim : n + m ≤ LIM) (hm : 0 < m)
    (hK : ∀ r' c' w3, Grew w w3 base g r r' (n + m) c' (xs ++ ys) d → w3.ownsRow base.heap.size 5 1 (.slice (some ⟨r', 0, none⟩) (n + m) c') (n + m) (nums .u8 (xs ++ ys)) → K (a.put o.dst (.slice (some ⟨r', 0, none⟩) (n + m) c')) w3) : o.wp Try.prog a w2 K Q := by
  obtain ⟨i0, hi0, hz0, hz1, hz2⟩ := info_parts info5'
  obtain ⟨r', c', w3, hr, h3, h4, h5⟩ := run_append_bytes (P := Try.prog) w2 base.heap.size 23 o.type i0 Try.underlying23 hi0 hz0 hz1 hz2 r n c0 (nums .u8 xs) (hown.move (h2.block r hown.lt)) ad m c (nums .u8 ys) (by simp [nums, hl]) hnews (by intro u hu; simp only [nums, List.mem_map] at hu; obtain ⟨b, _, rfl⟩ := hu; rfl) hlim hm (Nat.le_trans h.dat.size h2.size)
  unfold Oper.wp execOp
  simp only [ho, resolve, invoke, builtin, Sem.run_bind, Sem.run_pure, Result.andThen_ok, List.map_toArray, List.map_cons, List.map_nil, hs, hx, hr]
  exact hK r' c' w3 (Grew.of h h2 (.of h3) h4 h5 (by rw [List.length_append, hn, hl]) hlim) (by rw [← nums_append]; exact h3)
theorem wp_put {o : Oper} {a : Act} {K : Act → World → Prop} {Q : Exit → Act → World → Prop} {w w2 : World} (s x : Operand)
    (ho : o.op = .call { callee := .builtin .append, args := #[s, x], argTypes := #[23, 23] }) {base : World} {g r n c0 : Nat} {xs : List Int} {d : Bool} (h : Wr w base g r xs d) (h2 : Below w.heap.size w w2) (hn : xs.length = n) (hown : Own w base.heap.size r n c0 (nums .u8 xs)) (hs : a.eval s = .slice (some ⟨r, 0, none⟩) n c0)
    (ad : Addr) (m c : Nat) (ys : List Int) (hx : a.eval x = .slice (some ad) m c) (hl : ys.length = m) (hnews : ∀ j u, (nums .u8 ys)[j]? = some u → w2.cell? (ad.add j) = some u) (hlim : n + m ≤ LIM) (hm : 0 < m)
    (hK : ∀ r' c' w3, Grew w w3 base g r r' (n + m) c' (xs ++ ys) d → K (a.put o.dst (.slice (some ⟨r', 0, none⟩) (n + m) c')) w3) : o.wp Try.prog a w2 K Q :=
  wp_putC s x ho h h2 hn hown hs ad m c ys hx hl hnews hlim hm fun r' c' w3 hG _ => hK r' c' w3 hG
theorem wpList_put {ops : Array Oper} {rest : List Oper} {o : Oper} {a : Act} {Q : Exit → Act → World → Prop} {w w2 : World} (hgd : o.guard = none) (s x : Operand)
    (ho : o.op = .call { callee := .builtin .append, args := #[s, x], argTypes := #[23, 23] }) {base : World} {g r n c0 : Nat} {xs : List Int} {d : Bool} (h : Wr w base g r xs d) (h2 : Below w.heap.size w w2) (hn : xs.length = n) (hown : Own w base.heap.size r n c0 (nums .u8 xs)) (hs : a.eval s = .slice (some ⟨r, 0, none⟩) n c0)
    (ad : Addr) (m c : Nat) (ys : List Int) (hx : a.eval x = .slice (some ad) m c) (hl : ys.length = m) (hnews : ∀ j u, (nums .u8 ys)[j]? = some u → w2.cell? (ad.add j) = some u) (hlim : n + m ≤ LIM) (hm : 0 < m)
    (hK : ∀ r' c' w3, Grew w w3 base g r r' (n + m) c' (xs ++ ys) d → wpList Try.prog ops Q rest (a.put o.dst (.slice (some ⟨r', 0, none⟩) (n + m) c')) w3) : wpList Try.prog ops Q (o :: rest) a w2 :=
  wpList_plain hgd fun _ hK2 => wp_put s x ho h h2 hn hown hs ad m c ys hx hl hnews hlim hm fun r' c' w3 hG => hK2 _ _ (hK r' c' w3 hG)
theorem step_put {ops : Array Oper} {o : Oper} {a : Act} {K : Act → World → Prop} {Q : Exit → Act → World → Prop} {E : Prop} {w w2 : World} (hgd : o.guard = none) (s x : Operand)
    (ho : o.op = .call { callee := .builtin .append, args := #[s, x], argTypes := #[23, 23] }) {base : World} {g r n c0 : Nat} {xs : List Int} {d : Bool} (h : Wr w base g r xs d) (h2 : Below w.heap.size w w2) (hn : xs.length = n) (hown : Own w base.heap.size r n c0 (nums .u8 xs)) (hs : a.eval s = .slice (some ⟨r, 0, none⟩) n c0)
    (ad : Addr) (m c : Nat) (ys : List Int) (hx : a.eval x = .slice (some ad) m c) (hl : ys.length = m) (hnews : ∀ j u, (nums .u8 ys)[j]? = some u → w2.cell? (ad.add j) = some u) (hlim : n + m ≤ LIM) (hm : 0 < m)
    (hK : ∀ r' c' w3, Grew w w3 base g r r' (n + m) c' (xs ++ ys) d → K (a.put o.dst (.slice (some ⟨r', 0, none⟩) (n + m) c')) w3) : if Region.wanted o (yielded ops a.tmps) = true then Oper.wp Try.prog o a w2 K Q else E := by
  have hw : Region.wanted o (yielded ops a.tmps) = true := by simp [Region.wanted, hgd]
  rw [if_pos hw]
  exact wp_put s x ho h h2 hn hown hs ad m c ys hx hl hnews hlim hm hK
theorem step_putC {ops : Array Oper} {o : Oper} {a : Act} {K : Act → World → Prop} {Q : Exit → Act → World → Prop} {E : Prop} {w w2 : World} (hgd : o.guard = none) (s x : Operand)
    (ho : o.op = .call { callee := .builtin .append, args := #[s, x], argTypes := #[23, 23] }) {base : World} {g r n c0 : Nat} {xs : List Int} {d : Bool} (h : Wr w base g r xs d) (h2 : Below w.heap.size w w2) (hn : xs.length = n) (hown : Own w base.heap.size r n c0 (nums .u8 xs)) (hs : a.eval s = .slice (some ⟨r, 0, none⟩) n c0)
    (ad : Addr) (m c : Nat) (ys : List Int) (hx : a.eval x = .slice (some ad) m c) (hl : ys.length = m) (hnews : ∀ j u, (nums .u8 ys)[j]? = some u → w2.cell? (ad.add j) = some u) (hlim : n + m ≤ LIM) (hm : 0 < m)
    (hK : ∀ r' c' w3, Grew w w3 base g r r' (n + m) c' (xs ++ ys) d → w3.ownsRow base.heap.size 5 1 (.slice (some ⟨r', 0, none⟩) (n + m) c') (n + m) (nums .u8 (xs ++ ys)) → K (a.put o.dst (.slice (some ⟨r', 0, none⟩) (n + m) c')) w3) : if Region.wanted o (yielded ops a.tmps) = true then Oper.wp Try.prog o a w2 K Q else E := by
  have hw : Region.wanted o (yielded ops a.tmps) = true := by simp [Region.wanted, hgd]
  rw [if_pos hw]
  exact wp_putC s x ho h h2 hn hown hs ad m c ys hx hl hnews hlim hm hK
theorem wpList_putText {ops : Array Oper} {rest : List Oper} {o : Oper} {a : Act} {Q : Exit → Act → World → Prop} {w w2 : World} (hgd : o.guard = none) (s x : Operand)
    (ho : o.op = .call { callee := .builtin .append, args := #[s, x], argTypes := #[23, 9] }) {base : World} {g r n c0 : Nat} {xs : List Int} {d : Bool} (h : Wr w base g r xs d) (h2 : Below w.heap.size w w2) (hn : xs.length = n) (hown : Own w base.heap.size r n c0 (nums .u8 xs)) (hs : a.eval s = .slice (some ⟨r, 0, none⟩) n c0)
    (t : ByteArray) (hx : a.eval x = .string t) (hlim : n + t.size ≤ LIM)
    (hK : ∀ r' c' w3, Grew w w3 base g r r' (n + t.size) c' (xs ++ bytesOf t) d → wpList Try.prog ops Q rest (a.put o.dst (.slice (some ⟨r', 0, none⟩) (n + t.size) c')) w3) : wpList Try.prog ops Q (o :: rest) a w2 := by
  refine wpList_plain hgd fun K hK2 => ?_
  obtain ⟨i0, hi0, hz0, hz1, hz2⟩ := info_parts info5'
  obtain ⟨r', c', w3, hr, h3, h4, h5⟩ := run_append_text (P := Try.prog) w2 base.heap.size 23 9 o.type i0 Try.underlying23 Try.underlying9 hi0 hz0 hz1 hz2 r n c0 (nums .u8 xs) (hown.move (h2.block r hown.lt)) t hlim (Nat.le_trans h.dat.size h2.size)
  unfold Oper.wp execOp
  simp only [ho, resolve, invoke, builtin, Sem.run_bind, Sem.run_pure, Result.andThen_ok, List.map_toArray, List.map_cons, List.map_nil, hs, hx, hr]
  rw [strCells_nums] at h3
  exact hK2 _ _ (hK r' c' w3 (Grew.of h h2 h3 h4 h5 (by rw [List.length_append, hn, bytesOf_length]) hlim))
end Go.Proofs.Ytpbdkkahodaloaa.U
end

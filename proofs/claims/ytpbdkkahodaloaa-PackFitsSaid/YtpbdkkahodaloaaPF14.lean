-- Part 14 of the texts of the claim PF (wrote by programs: words of the kit's print.sh, printed functions; and my own texts; joined by wip/tools/pack.py).
import Derived.Test.YtpbdkkahodaloaaPF13
import Derived.Test.YtpbdkkahodaloaaRows

section
namespace Go.Proofs.Ytpbdkkahodaloaa.B
open Go.RowKit Go.Deep Go.ChangeShapes Go.Proofs.YtpbdkkahodaloaaW.PrintWords Go.Proofs.Ytpbdkkahodaloaa.Rows Go.Proofs.Ytpbdkkahodaloaa.Open
set_option linter.unusedVariables false
def OpensB {α : Type} (B : Nat) (P : Program) (T : TypeId) (d : Kd α) (ok : α → Prop) (wt : α → Nat) : Prop :=
  ∀ (H : Type) (enc : TypeId × Value → H) (W : World) (spare : Nat → Bool) (held : Bool) (fuel : Nat) (cs : List Value) (x : DataW H × List MemPlace), DataW.trod enc P W 0 spare held fuel T cs = some x → uptoBulk x.1 ≤ B → ∃ a, d.K W a cs ∧ ok a ∧ wt a ≤ 64 * uptoBulk x.1
theorem opensB_int {B : Nat} {P : Program} {T : TypeId} {k : IntKind} (wt : Int → Nat) (h : P.underlying T = some (.int k)) (hw : ∀ n, (Lit.int k n).wf = true → wt n ≤ 64) : OpensB B P T (Kd.int k) (fun n => (Lit.int k n).wf = true) wt := by
  intro H enc W spare held fuel cs x hx hB
  obtain ⟨n, rfl, rfl, hn⟩ := DataW.trod_int h hx
  exact ⟨n, rfl, hn, by have := hw n hn; simp only [uptoBulk]; omega⟩
theorem opensB_string {B : Nat} {P : Program} {T : TypeId} (wt : ByteArray → Nat) (h : P.underlying T = some .string) (hw : ∀ s : ByteArray, s.size ≤ maxLen → wt s ≤ 64 * (s.size + 1)) : OpensB B P T Kd.string (fun s => s.size ≤ maxLen) wt := by
  intro H enc W spare held fuel cs x hx hB
  obtain ⟨s, rfl, rfl, hn⟩ := DataW.trod_string h hx
  refine ⟨s, rfl, hn, ?_⟩
  have := hw s hn
  simp only [uptoBulk]
  have e : s.data.toList.length = s.size := Array.length_toList
  rw [e]; exact this
theorem bulk_pos {H : Type} (d : DataW H) : 1 ≤ uptoBulk d := by
  cases d with
  | lit l => cases l <;> simp [uptoBulk]
  | _ => simp [uptoBulk]
theorem opensB_bool {B : Nat} {P : Program} {T : TypeId} (wt : Bool → Nat) (h : P.underlying T = some .bool) (hw : ∀ b, wt b ≤ 64) : OpensB B P T Kd.bool (fun _ => True) wt := by
  intro H enc W spare held fuel cs x hx hB
  obtain ⟨b, rfl⟩ := trod_bool' h hx
  exact ⟨b, rfl, trivial, by have := hw b; have := bulk_pos x.1; omega⟩
theorem opensB_iso {B : Nat} {α β : Type} {P : Program} {T : TypeId} {d : Kd α} {ok : α → Prop} {wt : α → Nat} (h : OpensB B P T d ok wt) (f : β → α) (g : α → β) (hfg : ∀ a, f (g a) = a) (ok2 : β → Prop) (wt2 : β → Nat) (ho : ∀ a, ok a → ok2 (g a)) (hw : ∀ a, ok a → wt2 (g a) ≤ wt a) : OpensB B P T (Kd.iso d f) ok2 wt2 := by
  intro H enc W spare held fuel cs x hx hB
  obtain ⟨a, hK, hok, hwt⟩ := h H enc W spare held fuel cs x hx hB
  refine ⟨g a, ?_, ho a hok, Nat.le_trans (hw a hok) hwt⟩
  show d.K W (f (g a)) cs
  rw [hfg]; exact hK
theorem bulkAll_map {H : Type} (D : Nat → DataW H) : ∀ n, uptoBulkAll ((List.range n).map D) = ((List.range n).map fun i => uptoBulk (D i)).sum := by
  intro n
  have key : ∀ l : List Nat, uptoBulkAll (l.map D) = (l.map fun i => uptoBulk (D i)).sum := fun l => by
    induction l with
    | nil => rfl
    | cons a l ih => simp [uptoBulkAll, ih]
  exact key _
theorem bulk_of {H : Type} : ∀ (l : List (DataW H)) (d : DataW H), d ∈ l → uptoBulk d ≤ uptoBulkAll l
  | a :: l, d, h => by
    show uptoBulk d ≤ uptoBulk a + uptoBulkAll l
    rcases List.mem_cons.1 h with rfl | h
    · omega
    · have := bulk_of l d h; omega
theorem bulk_mem {H : Type} (D : Nat → DataW H) {n i : Nat} (h : i < n) : uptoBulk (D i) ≤ uptoBulkAll ((List.range n).map D) := bulk_of _ _ (List.mem_map.2 ⟨i, List.mem_range.2 h, rfl⟩)
theorem sum_le {α : Type} (wt : α → Nat) (u : Nat → Nat) : ∀ xs : List α, (∀ i x, xs[i]? = some x → wt x ≤ 64 * u i) → (xs.map wt).sum ≤ 64 * ((List.range xs.length).map u).sum := by
  intro xs
  induction xs generalizing u with
  | nil => intro _; simp
  | cons a l ih =>
    intro h
    rw [List.length_cons, List.range_succ_eq_map, List.map_cons, List.map_cons, List.sum_cons, List.sum_cons, List.map_map]
    have h0 := h 0 a rfl
    have h1 := ih (fun i => u (i + 1)) (fun i x hx => h (i + 1) x hx)
    have e : (List.range l.length).map (u ∘ Nat.succ) = (List.range l.length).map (fun i => u (i + 1)) := rfl
    rw [e]
    omega
theorem opensB_slice {B : Nat} {α : Type} {P : Program} {T e : TypeId} {d : Kd α} {ok : α → Prop} {wt : α → Nat} (wtl : List α → Nat) (h : P.underlying T = some (.slice e)) (hd : OpensB B P e d ok wt) (hs : P.cellsOf e = d.sz) (hw : ∀ l : List α, l.length ≤ maxLen → wtl l ≤ 64 + (l.map wt).sum) :
    OpensB (B + 1) P T (Kd.slice e d) (fun l => l.length ≤ maxLen ∧ ∀ x ∈ l, ok x) wtl := by
  intro H enc W spare held fuel cs x hx hB
  rcases open_slice h hx with ⟨rfl, rfl⟩ | ⟨a, len, cap, m, n, D, Pl, rfl, hb, hl, hm, hmm, rfl, hel⟩
  · exact ⟨[], ⟨none, 0, rfl, Nat.le_refl _, rfl, Nat.zero_le _, fun h => absurd h (by simp)⟩, ⟨by simp [maxLen], by simp⟩, by have := hw [] (by simp [maxLen]); simpa [uptoBulk] using this⟩
  · have hB' : uptoBulkAll ((List.range len).map D) + uptoBulkAll ((List.range (m - len)).map fun j => D (len + j)) + 1 ≤ B + 1 := hB
    have hlm : len ≤ m := by rw [hmm]; split <;> omega
    obtain ⟨xs, hxl, hxq⟩ := choose_list (α := α) (Q := fun i x => ∃ cs', d.K W x cs' ∧ ok x ∧ wt x ≤ 64 * uptoBulk (D i) ∧ W.cells? 0 (a.add (i * P.cellsOf e)) (P.cellsOf e) = some cs') len (fun i hi => by
      obtain ⟨cs', h1, h2⟩ := hel i (by omega)
      obtain ⟨x, hK, ho, hwx⟩ := hd H enc W spare held n cs' _ h2 (by have := bulk_mem D hi; show uptoBulk (D i) ≤ B; omega)
      exact ⟨x, cs', hK, ho, hwx, h1⟩)
    have hML : len ≤ 9223372036854775807 := by unfold maxLen at hm; omega
    have hC : d.C W (some a) xs.length xs := by
      unfold Kd.C ReadsRow
      refine ⟨rfl, by omega, fun _ => ⟨a, rfl, fun j p hj => ?_⟩⟩
      obtain ⟨cs', hK, _, _, hc⟩ := hxq j p hj
      obtain ⟨_, hlen, hcell⟩ := World.cells?_some hc
      refine ⟨cs', d.K_len hK, hK, fun i u hu => ?_⟩
      have hi : i < P.cellsOf e := by
        have := (List.getElem?_eq_some_iff.1 hu).1; omega
      have := hcell i hi
      rw [hu, Deep.add_add, hs] at this
      exact this
    refine ⟨xs, ⟨some a, cap, by rw [hxl], by omega, hC⟩, ⟨by omega, fun x hx => ?_⟩, ?_⟩
    · obtain ⟨j, hj⟩ := List.getElem?_of_mem hx
      obtain ⟨_, _, ho, _⟩ := hxq j x hj
      exact ho
    · have h1 := hw xs (by omega)
      have h2 := sum_le wt (fun i => uptoBulk (D i)) xs (fun i x hx => (hxq i x hx).elim fun _ h => h.2.2.1)
      rw [hxl, ← bulkAll_map] at h2
      show wtl xs ≤ 64 * (uptoBulkAll ((List.range len).map D) + uptoBulkAll ((List.range (m - len)).map fun j => D (len + j)) + 1)
      omega
def OpensLB {α : Type} (B : Nat) (P : Program) (o : Nat) (fs : List Field) (d : Kd α) (ok : α → Prop) (wt : α → Nat) : Prop :=
  ∀ (H : Type) (enc : TypeId × Value → H) (W : World) (spare : Nat → Bool) (held : Bool) (n : Nat) (cs : List Value) (xs : List (DataW H × List MemPlace)), cs.length = o + d.sz → xs.length = fs.length → uptoBulkAll (xs.map (·.1)) ≤ B →
    (∀ (i : Nat) (f : Field), fs[i]? = some f → DataW.trod enc P W 0 spare held n f.type ((cs.drop f.offset).take (P.cellsOf f.type)) = xs[i]?) → ∃ a, d.K W a (cs.drop o) ∧ ok a ∧ wt a ≤ 64 * uptoBulkAll (xs.map (·.1))
theorem opensLB_last {B : Nat} {α : Type} {P : Program} {f : Field} {d : Kd α} {ok : α → Prop} {wt : α → Nat} {o : Nat} (ho : f.offset = o) (hd : OpensB B P f.type d ok wt) (hs : P.cellsOf f.type = d.sz) : OpensLB B P o [f] d ok wt := by
  intro H enc W spare held n cs xs hl hxl hB hf
  match xs, hxl with
  | [x], _ =>
    have hx := hf 0 f rfl
    have hb : uptoBulk x.1 ≤ B := by have : uptoBulk x.1 + 0 ≤ B := hB; omega
    obtain ⟨a, hK, hok, hwt⟩ := hd H enc W spare held n _ x hx hb
    refine ⟨a, ?_, hok, ?_⟩
    · rw [ho, hs, List.take_of_length_le (by rw [List.length_drop]; omega)] at hK
      exact hK
    · show wt a ≤ 64 * (uptoBulk x.1 + 0)
      omega
theorem opensLB_cons {B : Nat} {α β : Type} {P : Program} {f : Field} {fs : List Field} {d1 : Kd α} {d2 : Kd β} {ok1 : α → Prop} {ok2 : β → Prop} {wt1 : α → Nat} {wt2 : β → Nat} {o : Nat} (ho : f.offset = o) (hd : OpensB B P f.type d1 ok1 wt1) (hs : P.cellsOf f.type = d1.sz)
    (hr : OpensLB B P (o + d1.sz) fs d2 ok2 wt2) : OpensLB B P o (f :: fs) (Kd.pair d1 d2) (fun x => ok1 x.1 ∧ ok2 x.2) (fun x => wt1 x.1 + wt2 x.2) := by
  intro H enc W spare held n cs xs hl hxl hB hf
  match xs, hxl with
  | x :: xs, hxl =>
    have hl' : cs.length = o + (d1.sz + d2.sz) := hl
    have hB' : uptoBulk x.1 + uptoBulkAll (xs.map (·.1)) ≤ B := hB
    have hx := hf 0 f rfl
    obtain ⟨a, hK, hok, hw1⟩ := hd H enc W spare held n _ x hx (by omega)
    obtain ⟨b, hK2, hok2, hw2⟩ := hr H enc W spare held n cs xs (by omega) (by simpa using hxl) (by omega) (fun i g hg => hf (i + 1) g (by simpa using hg))
    refine ⟨(a, b), ⟨_, _, ?_, hK, hK2⟩, ⟨hok, hok2⟩, ?_⟩
    · rw [ho, hs, ← List.drop_drop, List.take_append_drop]
    · show wt1 a + wt2 b ≤ 64 * (uptoBulk x.1 + uptoBulkAll (xs.map (·.1)))
      omega
theorem opensB_struct {B : Nat} {α : Type} {P : Program} {T : TypeId} {fs : Array Field} {d : Kd α} {ok : α → Prop} {wt : α → Nat} (wt2 : α → Nat) (h : P.underlying T = some (.struct fs)) (hL : OpensLB B P 0 fs.toList d ok wt) (hs : P.cellsOf T = d.sz) (hw : ∀ a, ok a → wt2 a ≤ 64 + wt a) : OpensB (B + 1) P T d ok wt2 := by
  intro H enc W spare held fuel cs x hx hB
  obtain ⟨xs, n, _, rfl, hl, hlen, hf⟩ := DataW.trod_struct h hx
  have hB' : uptoBulkAll (xs.map (·.1)) + 1 ≤ B + 1 := hB
  obtain ⟨a, hK, ho, hwt⟩ := hL H enc W spare held n cs xs (by omega) (by simpa using hlen) (by omega) (fun i f hi => by
    have hi' : fs[i]? = some f := by simpa using hi
    exact hf i f hi')
  refine ⟨a, by simpa using hK, ho, ?_⟩
  have := hw a ho
  show wt2 a ≤ 64 * (uptoBulkAll (xs.map (·.1)) + 1)
  omega
theorem OpensB.mono {B B' : Nat} {α : Type} {P : Program} {T : TypeId} {d : Kd α} {ok : α → Prop} {wt : α → Nat} (h : OpensB B P T d ok wt) (hb : B' ≤ B) : OpensB B' P T d ok wt :=
  fun H enc W spare held fuel cs x hx hB => h H enc W spare held fuel cs x hx (Nat.le_trans hB hb)
theorem opensB_zero {α : Type} {P : Program} {T : TypeId} {d : Kd α} {ok : α → Prop} {wt : α → Nat} : OpensB 0 P T d ok wt := by
  intro H enc W spare held fuel cs x hx hB
  have := bulk_pos x.1
  omega
end Go.Proofs.Ytpbdkkahodaloaa.B
end

section
namespace Go.Proofs.Ytpbdkkahodaloaa.B
open Go.RowKit Go.Deep Go.ChangeShapes Go.Proofs.YtpbdkkahodaloaaW.PrintWords Go.Proofs.Ytpbdkkahodaloaa.Rows Go.Proofs.Ytpbdkkahodaloaa.Open Go.Proofs.Ytpbdkkahodaloaa.PS Go.Proofs.Ytpbdkkahodaloaa.U Go.Proofs.Ytpbdkkahodaloaa.T
set_option linter.unusedVariables false
set_option maxRecDepth 100000
theorem all_slice {α : Type} {P : Program} {T e : TypeId} {d : Kd α} {ok : α → Prop} {wt : α → Nat} (wtl : List α → Nat) (h : P.underlying T = some (.slice e)) (hd : ∀ B, OpensB B P e d ok wt) (hs : P.cellsOf e = d.sz) (hw : ∀ l : List α, l.length ≤ maxLen → wtl l ≤ 64 + (l.map wt).sum) :
    ∀ B, OpensB B P T (Kd.slice e d) (fun l => l.length ≤ maxLen ∧ ∀ x ∈ l, ok x) wtl
  | 0 => opensB_zero
  | B + 1 => opensB_slice wtl h (hd B) hs hw
theorem all_struct {α : Type} {P : Program} {T : TypeId} {fs : Array Field} {d : Kd α} {ok : α → Prop} {wt : α → Nat} (wt2 : α → Nat) (h : P.underlying T = some (.struct fs)) (hL : ∀ B, OpensLB B P 0 fs.toList d ok wt) (hs : P.cellsOf T = d.sz) (hw : ∀ a, ok a → wt2 a ≤ 64 + wt a) : ∀ B, OpensB B P T d ok wt2
  | 0 => opensB_zero
  | B + 1 => opensB_struct wt2 h (hL B) hs hw
theorem ok_i64 {n : Int} (h : (Lit.int .i64 n).wf = true) : i64 n := by
  have h := int_range h
  have e1 : IntKind.min .i64 = -9223372036854775808 := by decide
  have e2 : IntKind.max .i64 = 9223372036854775807 := by decide
  exact ⟨by omega, by omega⟩
theorem len_int {n : Int} (h : (Lit.int .i64 n).wf = true) : (encInt n).length ≤ 10 := seven_ten (zig_lt (ok_i64 h).lo (ok_i64 h).hi)
theorem len_text {s : ByteArray} (h : s.size ≤ maxLen) : (encText s).length ≤ 10 + s.size := by
  unfold encText
  have h1 := seven_ten (n := s.size) (by unfold maxLen at h; omega)
  have h2 : (U.bytesOf s).length = s.size := by unfold U.bytesOf; rw [List.length_map]; exact Array.length_toList
  rw [List.length_append, h2]
  omega
theorem len_list {α : Type} (enc : α → List Int) (l : List α) (h : l.length ≤ maxLen) : (encList enc l).length ≤ 64 + (l.map fun x => (enc x).length).sum := by
  unfold encList
  have h1 := seven_ten (n := l.length) (by unfold maxLen at h; omega)
  rw [List.length_append, List.length_flatMap]
  omega
def wI (n : Int) : Nat := (encInt n).length
def wS (s : ByteArray) : Nat := (encText s).length
def wB (b : Bool) : Nat := (encFlag b).length
theorem oInt (T : TypeId) (h : Try.prog.underlying T = some (.int .i64)) (B : Nat) : OpensB B Try.prog T (Kd.int .i64) (fun n => (Lit.int .i64 n).wf = true) wI := opensB_int wI h (fun n hn => by have := len_int hn; unfold wI; omega)
theorem oStr (B : Nat) : OpensB B Try.prog 9 Kd.string (fun s => s.size ≤ maxLen) wS := opensB_string wS Try.underlying9 (fun s hs => by have := len_text hs; unfold wS; omega)
theorem oBool (B : Nat) : OpensB B Try.prog 4 Kd.bool (fun _ => True) wB := opensB_bool wB Try.underlying4 (fun b => by unfold wB encFlag; simp)
theorem o95 : ∀ B, OpensB B Try.prog 95 (Kd.slice 9 Kd.string) (fun l => l.length ≤ maxLen ∧ ∀ x ∈ l, x.size ≤ maxLen) (fun l => (encList encText l).length) := all_slice _ Try.underlying95 oStr (by kernel_rfl) (fun l h => len_list encText l h)
theorem o97 (B : Nat) : OpensB B Try.prog 97 k97 (fun _ => True) (fun x => (encOptions x).length) :=
  opensB_iso (all_struct (fun a : ByteArray × List ByteArray => wS a.1 + (encList encText a.2).length) Try.underlying97 (fun B => opensLB_cons rfl (oStr B) (by kernel_rfl) (opensLB_last rfl (o95 B) (by kernel_rfl))) (by kernel_rfl) (fun a _ => by omega) B) _ (fun p => ⟨p.1, p.2⟩) (fun _ => rfl) _ _ (fun _ _ => trivial) (fun a _ => by show (encText a.1 ++ encList encText a.2).length ≤ _; rw [List.length_append]; exact Nat.le_refl _)
theorem o27 : ∀ B, OpensB B Try.prog 27 (Kd.slice 97 k97) (fun l => l.length ≤ maxLen ∧ ∀ x ∈ l, True) (fun l => (encList encOptions l).length) := all_slice _ Try.underlying27 o97 (by kernel_rfl) (fun l h => len_list encOptions l h)
theorem o74 (B : Nat) : OpensB B Try.prog 74 k74 (fun x => i64 x.f0 ∧ i64 x.f1) (fun x => (encBand x).length) :=
  opensB_iso (all_struct (fun a : Int × Int => wI a.1 + wI a.2) Try.underlying74 (fun B => opensLB_cons rfl (oInt 2 Try.underlying2 B) (by kernel_rfl) (opensLB_last rfl (oInt 2 Try.underlying2 B) (by kernel_rfl))) (by kernel_rfl) (fun a _ => by omega) B) _ (fun p => ⟨p.1, p.2⟩) (fun _ => rfl) _ _ (fun a h => ⟨ok_i64 h.1, ok_i64 h.2⟩) (fun a _ => by show (encInt a.1 ++ encInt a.2).length ≤ _; rw [List.length_append]; exact Nat.le_refl _)
theorem o70 : ∀ B, OpensB B Try.prog 70 (Kd.slice 74 k74) (fun l => l.length ≤ maxLen ∧ ∀ x ∈ l, i64 x.f0 ∧ i64 x.f1) (fun l => (encList encBand l).length) := all_slice _ Try.underlying70 o74 (by kernel_rfl) (fun l h => len_list encBand l h)
theorem o72 (B : Nat) : OpensB B Try.prog 72 k72 okTable (fun x => (encTable x).length) :=
  opensB_iso (all_struct (fun a : ByteArray × List S74 => wS a.1 + (encList encBand a.2).length) Try.underlying72 (fun B => opensLB_cons rfl (oStr B) (by kernel_rfl) (opensLB_last rfl (o70 B) (by kernel_rfl))) (by kernel_rfl) (fun a _ => by omega) B) _ (fun p => ⟨p.1, p.2⟩) (fun _ => rfl) _ _ (fun a h => show okTable ⟨a.1, a.2⟩ from h.2.2) (fun a _ => by show (encText a.1 ++ encList encBand a.2).length ≤ _; rw [List.length_append]; exact Nat.le_refl _)
theorem o28 : ∀ B, OpensB B Try.prog 28 (Kd.slice 72 k72) (fun l => l.length ≤ maxLen ∧ ∀ x ∈ l, okTable x) (fun l => (encList encTable l).length) := all_slice _ Try.underlying28 o72 (by kernel_rfl) (fun l h => len_list encTable l h)
theorem o69 (B : Nat) : OpensB B Try.prog 69 k69 okGroup (fun x => (encGroup x).length) :=
  opensB_iso (all_struct (fun a : ByteArray × Int => wS a.1 + wI a.2) Try.underlying69 (fun B => opensLB_cons rfl (oStr B) (by kernel_rfl) (opensLB_last rfl (oInt 3 Try.underlying3 B) (by kernel_rfl))) (by kernel_rfl) (fun a _ => by omega) B) _ (fun p => ⟨p.1, p.2⟩) (fun _ => rfl) _ _ (fun a h => ok_i64 h.2) (fun a _ => by show (encText a.1 ++ encInt a.2).length ≤ _; rw [List.length_append]; exact Nat.le_refl _)
theorem o29 : ∀ B, OpensB B Try.prog 29 (Kd.slice 69 k69) (fun l => l.length ≤ maxLen ∧ ∀ x ∈ l, okGroup x) (fun l => (encList encGroup l).length) := all_slice _ Try.underlying29 o69 (by kernel_rfl) (fun l h => len_list encGroup l h)
end Go.Proofs.Ytpbdkkahodaloaa.B
end

section
namespace Go.Proofs.Ytpbdkkahodaloaa.B
open Go.RowKit Go.Deep Go.ChangeShapes Go.Proofs.YtpbdkkahodaloaaW.PrintWords Go.Proofs.Ytpbdkkahodaloaa.Rows Go.Proofs.Ytpbdkkahodaloaa.Open Go.Proofs.Ytpbdkkahodaloaa.PS Go.Proofs.Ytpbdkkahodaloaa.U Go.Proofs.Ytpbdkkahodaloaa.T
set_option linter.unusedVariables false
set_option maxRecDepth 100000
theorem len_opt (n : Int) : (encOpt n).length ≤ (encInt n).length := by
  unfold encOpt
  split
  · simp
  · exact Nat.le_refl _
theorem o80 : ∀ (B f : Nat), OpensB B Try.prog 80 k80 (okE f) (fun x => (encE f x).length)
  | 0, f => opensB_zero
  | 1, f => by
    refine OpensB.mono (B := 1) ?_ (Nat.le_refl _)
    refine opensE 0 f (fun f => ?_)
    exact opensB_zero
  | B + 2, f => opensE (B + 1) f (fun f => (o80 (B + 1) f).mono (by omega))
where
  opensE (B f : Nat) (ih : ∀ f, OpensB B Try.prog 80 k80 (okE f) (fun x => (encE f x).length)) : OpensB (B + 1) Try.prog 80 k80 (okE f) (fun x => (encE f x).length) := by
    intro H enc W spare held fuel cs x hx hB
    have key : ∀ (g : Nat) (ok2 : S80 → Prop) (wt2 : S80 → Nat), (∀ a0 a1 a2 a3 l, (Lit.int .i64 a0).wf = true → (Lit.int .i64 a1).wf = true → (Lit.int .i64 a2).wf = true → (Lit.int .i64 a3).wf = true → l.length ≤ maxLen → (∀ y ∈ l, okE g y) → ok2 ⟨a0, a1, a2, a3, l⟩) →
        (∀ a0 a1 a2 a3 l, wt2 ⟨a0, a1, a2, a3, l⟩ ≤ 64 + (wI a0 + (wI a1 + (wI a2 + (wI a3 + (encList (encE g) l).length))))) → ∃ a, k80.K W a cs ∧ ok2 a ∧ wt2 a ≤ 64 * uptoBulk x.1 := by
      intro g ok2 wt2 ho hw
      have hs : ∀ l : List S80, l.length ≤ maxLen → (encList (encE g) l).length ≤ 64 + (l.map fun x => (encE g x).length).sum := fun l h => len_list (encE g) l h
      have h78 : OpensB B Try.prog 78 (Kd.slice 80 k80) (fun l => l.length ≤ maxLen ∧ ∀ x ∈ l, okE g x) (fun l => (encList (encE g) l).length) :=
        (opensB_slice _ Try.underlying78 (ih g) (by kernel_rfl) hs).mono (by omega)
      obtain ⟨a, hK, ⟨h0, h1, h2, h3, h4, h5⟩, hwt⟩ := opensB_struct (fun a : Int × Int × Int × Int × List S80 => wt2 ⟨a.1, a.2.1, a.2.2.1, a.2.2.2.1, a.2.2.2.2⟩) Try.underlying80
        (opensLB_cons rfl (oInt 3 Try.underlying3 B) (by kernel_rfl) (opensLB_cons rfl (oInt 2 Try.underlying2 B) (by kernel_rfl) (opensLB_cons rfl (oInt 2 Try.underlying2 B) (by kernel_rfl) (opensLB_cons rfl (oInt 3 Try.underlying3 B) (by kernel_rfl) (opensLB_last rfl h78 (by kernel_rfl))))))
        (by kernel_rfl) (fun a _ => hw _ _ _ _ _) H enc W spare held fuel cs x hx hB
      obtain ⟨a0, a1, a2, a3, l⟩ := a
      refine ⟨⟨a0, a1, a2, a3, l⟩, ?_, ho _ _ _ _ _ h0 h1 h2 h3 h4 h5, hwt⟩
      obtain ⟨_, _, rfl, rfl, _, _, rfl, rfl, _, _, rfl, rfl, _, _, rfl, rfl, A, c, rfl, hl, hC⟩ := hK
      exact k80_mk W ⟨a0, a1, a2, a3, l⟩ hl hC
    cases f with
    | zero =>
      refine key 0 _ _ (fun _ _ _ _ _ _ _ _ _ _ _ => trivial) (fun _ _ _ _ _ => ?_)
      show 0 ≤ _
      omega
    | succ g =>
      refine key g _ _ (fun a0 a1 a2 a3 l h0 h1 h2 h3 _ h5 => ⟨⟨ok_i64 h0, ok_i64 h1, ok_i64 h2, ok_i64 h3⟩, h5⟩) (fun a0 a1 a2 a3 l => ?_)
      show (encInt a0 ++ ([saysOf ⟨a0, a1, a2, a3, l⟩] ++ (encOpt a1 ++ (encOpt a2 ++ (encOpt a3 ++ (if l.length = 0 then [] else encList (encE g) l)))))).length ≤ _
      have e1 := len_opt a1
      have e2 := len_opt a2
      have e3 := len_opt a3
      have e4 : (if l.length = 0 then [] else encList (encE g) l).length ≤ (encList (encE g) l).length := by split <;> simp
      simp only [List.length_append, List.length_singleton]
      unfold wI
      omega
theorem o100 (B : Nat) : OpensB B Try.prog 100 k100 okClause (fun x => (encClause x).length) :=
  opensB_iso (all_struct (fun a : Int × Bool × S80 × S80 => wI a.1 + (wB a.2.1 + ((encE 64 a.2.2.1).length + (encE 64 a.2.2.2).length))) Try.underlying100 (fun B => opensLB_cons rfl (oInt 3 Try.underlying3 B) (by kernel_rfl) (opensLB_cons rfl (oBool B) (by kernel_rfl) (opensLB_cons rfl (o80 B 64) (by kernel_rfl) (opensLB_last rfl (o80 B 64) (by kernel_rfl))))) (by kernel_rfl) (fun a _ => by omega) B)
    _ (fun p => ⟨p.1, p.2.1, p.2.2.1, p.2.2.2⟩) (fun _ => rfl) _ _ (fun a h => show okClause ⟨a.1, a.2.1, a.2.2.1, a.2.2.2⟩ from ⟨ok_i64 h.1, h.2.2.1, h.2.2.2⟩)
    (fun a _ => by show (encInt a.1 ++ (encFlag a.2.1 ++ (encE 64 a.2.2.1 ++ encE 64 a.2.2.2))).length ≤ _; simp only [List.length_append]; exact Nat.le_refl _)
theorem o75 : ∀ B, OpensB B Try.prog 75 (Kd.slice 100 k100) (fun l => l.length ≤ maxLen ∧ ∀ x ∈ l, okClause x) (fun l => (encList encClause l).length) := all_slice _ Try.underlying75 o100 (by kernel_rfl) (fun l h => len_list encClause l h)
theorem o77 (B : Nat) : OpensB B Try.prog 77 k77 okLine (fun x => (encLine x).length) :=
  opensB_iso (all_struct (fun a : ByteArray × Bool × Bool × Int × Int × Int × List S100 => wS a.1 + (wB a.2.1 + (wB a.2.2.1 + (wI a.2.2.2.1 + (wI a.2.2.2.2.1 + (wI a.2.2.2.2.2.1 + (encList encClause a.2.2.2.2.2.2).length)))))) Try.underlying77
      (fun B => opensLB_cons rfl (oStr B) (by kernel_rfl) (opensLB_cons rfl (oBool B) (by kernel_rfl) (opensLB_cons rfl (oBool B) (by kernel_rfl) (opensLB_cons rfl (oInt 3 Try.underlying3 B) (by kernel_rfl) (opensLB_cons rfl (oInt 3 Try.underlying3 B) (by kernel_rfl) (opensLB_cons rfl (oInt 3 Try.underlying3 B) (by kernel_rfl) (opensLB_last rfl (o75 B) (by kernel_rfl)))))))) (by kernel_rfl) (fun a _ => by omega) B)
    _ (fun p => ⟨p.1, p.2.1, p.2.2.1, p.2.2.2.1, p.2.2.2.2.1, p.2.2.2.2.2.1, p.2.2.2.2.2.2⟩) (fun _ => rfl) _ _ (fun a h => show okLine ⟨a.1, a.2.1, a.2.2.1, a.2.2.2.1, a.2.2.2.2.1, a.2.2.2.2.2.1, a.2.2.2.2.2.2⟩ from ⟨ok_i64 h.2.2.2.1, ok_i64 h.2.2.2.2.1, ok_i64 h.2.2.2.2.2.1, h.2.2.2.2.2.2.2⟩)
    (fun a _ => by show (encText a.1 ++ (encFlag a.2.1 ++ (encFlag a.2.2.1 ++ (encInt a.2.2.2.1 ++ (encInt a.2.2.2.2.1 ++ (encInt a.2.2.2.2.2.1 ++ encList encClause a.2.2.2.2.2.2)))))).length ≤ _; simp only [List.length_append]; exact Nat.le_refl _)
theorem o30 : ∀ B, OpensB B Try.prog 30 (Kd.slice 77 k77) (fun l => l.length ≤ maxLen ∧ ∀ x ∈ l, okLine x) (fun l => (encList encLine l).length) := all_slice _ Try.underlying30 o77 (by kernel_rfl) (fun l h => len_list encLine l h)
theorem o82 (B : Nat) : OpensB B Try.prog 82 k82 okCheck (fun x => (encCheck x).length) :=
  opensB_iso (all_struct (fun a : ByteArray × Bool × Int × S80 × ByteArray => wS a.1 + (wB a.2.1 + (wI a.2.2.1 + ((encE 64 a.2.2.2.1).length + wS a.2.2.2.2)))) Try.underlying82
      (fun B => opensLB_cons rfl (oStr B) (by kernel_rfl) (opensLB_cons rfl (oBool B) (by kernel_rfl) (opensLB_cons rfl (oInt 3 Try.underlying3 B) (by kernel_rfl) (opensLB_cons rfl (o80 B 64) (by kernel_rfl) (opensLB_last rfl (oStr B) (by kernel_rfl)))))) (by kernel_rfl) (fun a _ => by omega) B)
    _ (fun p => ⟨p.1, p.2.1, p.2.2.1, p.2.2.2.1, p.2.2.2.2⟩) (fun _ => rfl) _ _ (fun a h => show okCheck ⟨a.1, a.2.1, a.2.2.1, a.2.2.2.1, a.2.2.2.2⟩ from ⟨ok_i64 h.2.2.1, h.2.2.2.1⟩)
    (fun a _ => by show (encText a.1 ++ (encFlag a.2.1 ++ (encInt a.2.2.1 ++ (encE 64 a.2.2.2.1 ++ encText a.2.2.2.2)))).length ≤ _; simp only [List.length_append]; exact Nat.le_refl _)
theorem o31 : ∀ B, OpensB B Try.prog 31 (Kd.slice 82 k82) (fun l => l.length ≤ maxLen ∧ ∀ x ∈ l, okCheck x) (fun l => (encList encCheck l).length) := all_slice _ Try.underlying31 o82 (by kernel_rfl) (fun l h => len_list encCheck l h)
def kPk : Kd Pk := Kd.iso (Kd.pair Kd.string (Kd.pair (Kd.int .i64) (Kd.pair (Kd.slice 97 k97) (Kd.pair (Kd.slice 72 k72) (Kd.pair (Kd.slice 69 k69) (Kd.pair (Kd.slice 77 k77) (Kd.slice 82 k82))))))) (fun p : Pk => (p.name, p.year, p.options, p.tables, p.groups, p.lines, p.checks))
theorem o33 (B : Nat) : OpensB B Try.prog 33 kPk okPk (fun x => (encPk x).length) :=
  opensB_iso (all_struct (fun a : ByteArray × Int × List S97 × List S72 × List S69 × List S77 × List S82 => wS a.1 + (wI a.2.1 + ((encList encOptions a.2.2.1).length + ((encList encTable a.2.2.2.1).length + ((encList encGroup a.2.2.2.2.1).length + ((encList encLine a.2.2.2.2.2.1).length + (encList encCheck a.2.2.2.2.2.2).length)))))) Try.underlying33
      (fun B => opensLB_cons rfl (oStr B) (by kernel_rfl) (opensLB_cons rfl (oInt 3 Try.underlying3 B) (by kernel_rfl) (opensLB_cons rfl (o27 B) (by kernel_rfl) (opensLB_cons rfl (o28 B) (by kernel_rfl) (opensLB_cons rfl (o29 B) (by kernel_rfl) (opensLB_cons rfl (o30 B) (by kernel_rfl) (opensLB_last rfl (o31 B) (by kernel_rfl)))))))) (by kernel_rfl) (fun a _ => by omega) B)
    _ (fun p => ⟨p.1, p.2.1, p.2.2.1, p.2.2.2.1, p.2.2.2.2.1, p.2.2.2.2.2.1, p.2.2.2.2.2.2⟩) (fun _ => rfl) _ _ (fun a h => show okPk ⟨a.1, a.2.1, a.2.2.1, a.2.2.2.1, a.2.2.2.2.1, a.2.2.2.2.2.1, a.2.2.2.2.2.2⟩ from ⟨ok_i64 h.2.1, h.2.2.2.1.2, h.2.2.2.2.1.2, h.2.2.2.2.2.1.2, h.2.2.2.2.2.2.2⟩)
    (fun a _ => by show (encText a.1 ++ (encInt a.2.1 ++ (encList encOptions a.2.2.1 ++ (encList encTable a.2.2.2.1 ++ (encList encGroup a.2.2.2.2.1 ++ (encList encLine a.2.2.2.2.2.1 ++ encList encCheck a.2.2.2.2.2.2)))))).length ≤ _; simp only [List.length_append]; exact Nat.le_refl _)
theorem kPk_open {W : World} {p : Pk} {cs : Array Value} (h : kPk.K W p cs.toList) : Lies W (.agg cs) p := by
  obtain ⟨_, _, e, rfl, _, _, rfl, rfl, _, _, rfl, ⟨A2, c2, rfl, l2, g2⟩, _, _, rfl, ⟨A3, c3, rfl, l3, g3⟩, _, _, rfl, ⟨A4, c4, rfl, l4, g4⟩, _, _, rfl, ⟨A5, c5, rfl, l5, g5⟩, ⟨A6, c6, rfl, l6, g6⟩⟩ := h
  exact ⟨A2, c2, A3, c3, A4, c4, A5, c5, A6, c6, agg_of e, g2, g3, g4, g5, g6, l2, l3, l4, l5, l6⟩
theorem pack_arg {H : Type} {enc : TypeId × Value → H} {W : World} {spare : Nat → Bool} {held : Bool} {cs : Array Value} {x : DataW H} {pl : List MemPlace} (h : DataW.Trod enc Try.prog W 0 spare held 33 (.agg cs) x pl) :
    ∃ p : Pk, Lies W (.agg cs) p ∧ okPk p ∧ (encPk p).length ≤ 64 * uptoBulk x := by
  obtain ⟨fuel, hf⟩ := h
  obtain ⟨p, hK, ho, hw⟩ := o33 (uptoBulk x) H enc W spare held fuel cs.toList (x, pl) (by simpa [Value.cells] using hf) (Nat.le_refl _)
  exact ⟨p, kPk_open hK, ho, hw⟩
end Go.Proofs.Ytpbdkkahodaloaa.B
end

-- Part 10 of the texts of the claim PU (wrote by programs: words of the kit's print.sh, printed functions; and my own texts; joined by wip/tools/pack.py).
import Derived.Test.YtpbdkkahodaloaaPU9
import Derived.Lib.SlBytesConst

section
namespace Go.Proofs.Ytpbdkkahodaloaa.U
open Go.RowKit Go.Lib Go.Proofs.Ytpbdkkahodaloaa.PS Go.Proofs.YtpbdkkahodaloaaW.PrintWords Go.Proofs.YtpbdkkahodaloaaW.PrintMore
set_option linter.unusedVariables false
set_option linter.unusedSimpArgs false
set_option maxRecDepth 100000
def encPk (p : Pk) : List Int := encText p.name ++ (encInt p.year ++ (encList encOptions p.options ++ (encList encTable p.tables ++ (encList encGroup p.groups ++ (encList encLine p.lines ++ encList encCheck p.checks)))))
def deepPk (p : Pk) : Bool := p.lines.any deepLine || p.checks.any deepCheck
def head : List Int := [76, 86, 89, 49]
structure okPk (p : Pk) : Prop where
  year : i64 p.year
  tables : ∀ x ∈ p.tables, okTable x
  groups : ∀ x ∈ p.groups, okGroup x
  lines : ∀ x ∈ p.lines, okLine x
  checks : ∀ x ∈ p.checks, okCheck x
theorem wr_start (w : World) (cs : Array Value) : Wr ((((w.alloc (.cells cs 33)).alloc (.cells #[.int .u8 76, .int .u8 86, .int .u8 89, .int .u8 49] 5 (4, 5))).alloc (.cells #[.slice (some ⟨w.heap.size + 1, 0, none⟩) 4 4, .bool false] 123)).alloc (.cells #[.pointer (some ⟨w.heap.size + 1 + 1, 0, none⟩)] 121)) w (w.heap.size + 1 + 1) (w.heap.size + 1) head false := by
  have b1 : ((((w.alloc (.cells cs 33)).alloc (.cells #[.int .u8 76, .int .u8 86, .int .u8 89, .int .u8 49] 5 (4, 5))).alloc (.cells #[.slice (some ⟨w.heap.size + 1, 0, none⟩) 4 4, .bool false] 123)).alloc (.cells #[.pointer (some ⟨w.heap.size + 1 + 1, 0, none⟩)] 121)).heap[w.heap.size + 1]? = some (.cells #[.int .u8 76, .int .u8 86, .int .u8 89, .int .u8 49] 5 (4, 5)) := by
    have := blk_alloc (blk_alloc (blk_new (w.alloc (.cells cs 33)) (.cells #[.int .u8 76, .int .u8 86, .int .u8 89, .int .u8 49] 5 (4, 5))) (.cells #[.slice (some ⟨w.heap.size + 1, 0, none⟩) 4 4, .bool false] 123)) (.cells #[.pointer (some ⟨w.heap.size + 1 + 1, 0, none⟩)] 121)
    rwa [World.size_alloc] at this
  have b2 : ((((w.alloc (.cells cs 33)).alloc (.cells #[.int .u8 76, .int .u8 86, .int .u8 89, .int .u8 49] 5 (4, 5))).alloc (.cells #[.slice (some ⟨w.heap.size + 1, 0, none⟩) 4 4, .bool false] 123)).alloc (.cells #[.pointer (some ⟨w.heap.size + 1 + 1, 0, none⟩)] 121)).heap[w.heap.size + 1 + 1]? = some (.cells #[.slice (some ⟨w.heap.size + 1, 0, none⟩) 4 4, .bool false] 123 (0, 0)) := by
    have := blk_alloc (blk_new ((w.alloc (.cells cs 33)).alloc (.cells #[.int .u8 76, .int .u8 86, .int .u8 89, .int .u8 49] 5 (4, 5))) (.cells #[.slice (some ⟨w.heap.size + 1, 0, none⟩) 4 4, .bool false] 123)) (.cells #[.pointer (some ⟨w.heap.size + 1 + 1, 0, none⟩)] 121)
    rwa [World.size_alloc, World.size_alloc] at this
  refine ⟨?_, by omega, by unfold LIM; decide, by omega, 4, b2, ⟨rfl, by omega, _, _, b1, by decide, by unfold maxLen; decide, rfl, rfl, .inr rfl⟩⟩
  have s1 : w.heap.size ≤ (w.alloc (.cells cs 33)).heap.size := by simp
  exact ((((Below.refl _ w).alloc (Nat.le_refl _) _).alloc s1 _).alloc (Nat.le_trans s1 (by simp)) _).alloc (Nat.le_trans s1 (by simp)) _
theorem caps_start (w : World) (cs : Array Value) (g : Nat) : w.heap.size + 1 + 1 = g → Cap ((((w.alloc (.cells cs 33)).alloc (.cells #[.int .u8 76, .int .u8 86, .int .u8 89, .int .u8 49] 5 (4, 5))).alloc (.cells #[.slice (some ⟨w.heap.size + 1, 0, none⟩) 4 4, .bool false] 123)).alloc (.cells #[.pointer (some ⟨w.heap.size + 1 + 1, 0, none⟩)] 121)) g (w.heap.size + 1) w.heap.size cs 33 ∧ Cap ((((w.alloc (.cells cs 33)).alloc (.cells #[.int .u8 76, .int .u8 86, .int .u8 89, .int .u8 49] 5 (4, 5))).alloc (.cells #[.slice (some ⟨w.heap.size + 1, 0, none⟩) 4 4, .bool false] 123)).alloc (.cells #[.pointer (some ⟨w.heap.size + 1 + 1, 0, none⟩)] 121)) g (w.heap.size + 1) (w.heap.size + 1 + 1 + 1) #[.pointer (some ⟨w.heap.size + 1 + 1, 0, none⟩)] 121 := by
  rintro rfl
  refine ⟨⟨blk_alloc (blk_alloc (blk_alloc (blk_new w _) _) _) _, by omega, by omega⟩, ⟨?_, by omega, by omega⟩⟩
  have := blk_new (((w.alloc (.cells cs 33)).alloc (.cells #[.int .u8 76, .int .u8 86, .int .u8 89, .int .u8 49] 5 (4, 5))).alloc (.cells #[.slice (some ⟨w.heap.size + 1, 0, none⟩) 4 4, .bool false] 123)) (.cells #[.pointer (some ⟨w.heap.size + 1 + 1, 0, none⟩)] 121)
  rwa [World.size_alloc, World.size_alloc, World.size_alloc] at this
theorem Own.C {w : World} {base r n c : Nat} {xs : List Int} (h : Own w base r n c (nums .u8 xs)) (hn : xs.length = n) (hmax : n ≤ 9223372036854775807) : Kd.C (Kd.int .u8) w (some ⟨r, 0, none⟩) xs.length xs := by
  refine ⟨rfl, by omega, fun _ => ⟨_, rfl, fun j p hj => ⟨[.int .u8 p], rfl, rfl, fun i u hu => ?_⟩⟩⟩
  match i, hu with
  | 0, hu =>
    have hu : some (Value.int .u8 p) = some u := hu
    have := h.cells j (.int .u8 p) (by simp [nums, hj])
    rw [← hu]
    show w.cell? ((⟨r, 0, none⟩ : Addr).add (j * 1 + 0)) = _
    rw [Nat.mul_one, Nat.add_zero]
    exact this
  | i + 1, hu => simp at hu
theorem okOpt (x : S97) : okOptions x := trivial
theorem Cap.drewN {g r b : Nat} {w : World} {cs : Array Value} {t : TypeId} (h : Cap w g r b cs t) (n : Nat) : Cap (w.drewN n) g r b cs t := ⟨h.blk, h.ne, h.row⟩
def sum4 (n : Int) : List Int := [IntKind.u8.wrap n, IntKind.u8.wrap (n / 256), IntKind.u8.wrap (n / 65536), IntKind.u8.wrap (n / 16777216)]
theorem four_new (w : World) (n : Int) (t : TypeId) : ∀ j u, (nums .u8 (sum4 n))[j]? = some u → (w.alloc (.cells #[.int .u8 (IntKind.u8.wrap n), .int .u8 (IntKind.u8.wrap (n / 256)), .int .u8 (IntKind.u8.wrap (n / 65536)), .int .u8 (IntKind.u8.wrap (n / 16777216))] t)).cell? ((⟨w.heap.size, 0, none⟩ : Addr).add j) = some u :=
  World.news_of_block (cs := #[.int .u8 (IntKind.u8.wrap n), .int .u8 (IntKind.u8.wrap (n / 256)), .int .u8 (IntKind.u8.wrap (n / 65536)), .int .u8 (IntKind.u8.wrap (n / 16777216))]) (t := t) (fr := (0, 0)) (heap_alloc_new w _)
def bytesPk (p : Pk) : List Int := head ++ encPk p ++ sum4 (sumI 2166136261 (head ++ encPk p))
def putS (p : Pk) : List Int × Int := if deepPk p = true ∨ 131072 < (bytesPk p).length then ([], 72) else (bytesPk p, 0)
def PutPost (p : Pk) (w : World) (e : Ending) (w' : World) : Prop := ∃ v, e = .returned (.tuple #[v, .int .i64 (putS p).2]) ∧ Kd.R (Kd.int .u8) 5 w' w.heap.size (fun _ => True) v (putS p).1 ∧ Below w.heap.size w w'
structure PutEnd (w w8 wd : World) (r r' : Nat) (xs : List Int) (d : Bool) : Prop where
  st : St w (w.heap.size + 1 + 1) r w8 xs d r' wd
  is : ∃ c, wd.cell? ⟨w.heap.size + 1 + 1, 0, none⟩ = some (.slice (some ⟨r', 0, none⟩) xs.length c) ∧ wd.ownsRow w.heap.size 5 1 (.slice (some ⟨r', 0, none⟩) xs.length c) xs.length (nums .u8 xs)
theorem PutEnd.of {w w8 w3 : World} {r r' n c : Nat} {xs : List Int} {d : Bool} (hg : Grew w8 w3 w (w.heap.size + 1 + 1) r r' n c xs d) (hc : w3.ownsRow w.heap.size 5 1 (.slice (some ⟨r', 0, none⟩) n c) n (nums .u8 xs)) :
    PutEnd w w8 (w3.setCell ⟨w.heap.size + 1 + 1, 0, none⟩ (.slice (some ⟨r', 0, none⟩) n c)) r r' xs d := by
  have hn : xs.length = n := by have := hc.1; simpa [nums] using this
  subst hn
  refine ⟨hg.st, c, ?_, own_move hc (fun k hk => ?_)⟩
  · obtain ⟨c2, hb, ho⟩ := hg.wr.is
    obtain ⟨u, hu⟩ := hg.c0
    rw [World.cell?_setCell_same' _ _ _ (by rw [hu]; rfl)]
  · have : k = r' := by simpa [Value.ownBlock, eq_comm] using hk
    subst this
    exact Below.heap_setCell w3 ⟨_, 0, none⟩ _ _ (fun e => hg.wr.ne e.symm)
theorem PutPost.bad {p : Pk} {w w' : World} (h : putS p = ([], 72)) (hb : Below w.heap.size w w') : PutPost p w (.returned (.tuple #[.slice none 0 0, .int .i64 72])) w' := ⟨_, by rw [h], by rw [h]; exact Kd.R_nil _ _ _ _ _, hb⟩
theorem PutPost.good {p : Pk} {w w' : World} {ys : List Int} {v : Value} (h : putS p = (ys, 0)) (ho : w'.ownsRow w.heap.size 5 1 v ys.length (nums .u8 ys)) (hb : Below w.heap.size w w') : PutPost p w (.returned (.tuple #[v, .int .i64 0])) w' := ⟨_, by rw [h], by rw [h]; exact Kd.R_of_own ho (fun _ _ => trivial), hb⟩
theorem putS_of (p : Pk) (xs ys : List Int) (dd : Bool) (sn : Int) (hxs : xs = head ++ encText p.name ++ encInt p.year ++ encList encOptions p.options ++ encList encTable p.tables ++ encList encGroup p.groups ++ encList encLine p.lines ++ encList encCheck p.checks)
    (hdd : dd = (((((false || p.options.any deepOptions) || p.tables.any deepTable) || p.groups.any deepGroup) || p.lines.any deepLine) || p.checks.any deepCheck)) (hsn : sumI 2166136261 xs = sn) (hys : xs ++ sum4 sn = ys) :
    ((dd = true ∨ 131072 < ys.length) → putS p = ([], 72)) ∧ (¬ (dd = true ∨ 131072 < ys.length) → putS p = (ys, 0)) := by
  have e1 : xs = head ++ encPk p := by rw [hxs]; unfold encPk; simp only [List.append_assoc]
  have z1 : ∀ l : List S97, l.any deepOptions = false := fun l => by induction l with | nil => rfl | cons a l ih => simp [List.any_cons, ih, deepOptions]
  have z2 : ∀ l : List S72, l.any deepTable = false := fun l => by induction l with | nil => rfl | cons a l ih => simp [List.any_cons, ih, deepTable]
  have z3 : ∀ l : List S69, l.any deepGroup = false := fun l => by induction l with | nil => rfl | cons a l ih => simp [List.any_cons, ih, deepGroup]
  have e2 : dd = deepPk p := by rw [hdd, z1, z2, z3]; unfold deepPk; simp
  have e3 : ys = bytesPk p := by unfold bytesPk; rw [← hys, ← hsn, e1]
  rw [e2, e3]
  unfold putS
  exact ⟨fun h => if_pos h, fun h => if_neg h⟩
set_option maxHeartbeats 8000000 in
theorem put_walk (p : Pk) (A2 : Option Addr) (c2 : Nat) (A3 : Option Addr) (c3 : Nat) (A4 : Option Addr) (c4 : Nat) (A5 : Option Addr) (c5 : Nat) (A6 : Option Addr) (c6 : Nat) (w : World) (hC2 : k97.C w A2 p.options.length p.options) (hC3 : k72.C w A3 p.tables.length p.tables) (hC4 : k69.C w A4 p.groups.length p.groups) (hC5 : k77.C w A5 p.lines.length p.lines) (hC6 : k82.C w A6 p.checks.length p.checks)
    (ok : okPk p) (hl : (head ++ encPk p).length + 4 ≤ LIM) :
    Calls Try.prog 17 #[.agg #[.string p.name, .int .i64 p.year, .slice A2 p.options.length c2, .slice A3 p.tables.length c3, .slice A4 p.groups.length c4, .slice A5 p.lines.length c5, .slice A6 p.checks.length c6]] w (PutPost p w) := by
  have kc := Lib.run_convert_bytes_const (P := Try.prog) (w.alloc (.cells #[.string p.name, .int .i64 p.year, .slice A2 p.options.length c2, .slice A3 p.tables.length c3, .slice A4 p.groups.length c4, .slice A5 p.lines.length c5, .slice A6 p.checks.length c6] 33)) 23 5 #[.int .u8 76, .int .u8 86, .int .u8 89, .int .u8 49] 4 4 Try.underlying23 Try.underlying5
  rw [World.size_alloc] at kc
  have S0 := Aside0.mk (St.refl (wr_start w #[.string p.name, .int .i64 p.year, .slice A2 p.options.length c2, .slice A3 p.tables.length c3, .slice A4 p.groups.length c4, .slice A5 p.lines.length c5, .slice A6 p.checks.length c6]))
  have B0 := Aside0.mk (caps_start w #[.string p.name, .int .i64 p.year, .slice A2 p.options.length c2, .slice A3 p.tables.length c3, .slice A4 p.groups.length c4, .slice A5 p.lines.length c5, .slice A6 p.checks.length c6] _ rfl).1
  have W0 := Aside0.mk (caps_start w #[.string p.name, .int .i64 p.year, .slice A2 p.options.length c2, .slice A3 p.tables.length c3, .slice A4 p.groups.length c4, .slice A5 p.lines.length c5, .slice A6 p.checks.length c6] _ rfl).2
  have HLL := Aside0.mk hl
  have HL := Aside0.mk (show (head ++ (encText p.name ++ (encInt p.year ++ (encList encOptions p.options ++ (encList encTable p.tables ++ (encList encGroup p.groups ++ (encList encLine p.lines ++ encList encCheck p.checks))))))).length ≤ LIM from Nat.le_trans (Nat.le_add_right _ 4) hl)
  have OK := Aside0.mk ok
  have G2 := Aside0.mk hC2
  have G3 := Aside0.mk hC3
  have G4 := Aside0.mk hC4
  have G5 := Aside0.mk hC5
  have G6 := Aside0.mk hC6
  clear hl ok hC2 hC3 hC4 hC5 hC6
  go_enter Try.func17, Try.ntmps17
  go_wp2_with fail
  go_at_call 42
  with_reducible refine (text_c S0.out (lim_left HL.out)).mono ?_
  intro e w1 hp
  obtain ⟨rfl, r1, hs, ht⟩ := S0.out.next hp
  have S1 := Aside0.mk ht
  have B1 := Aside0.mk (B0.out.st hs)
  have W1 := Aside0.mk (W0.out.st hs)
  clear hp hs ht kc
  have b1 := B1.out.cell 1 rfl
  have bl := B1.out.lt
  have wc := W1.out.cell 0 rfl
  have wl := W1.out.lt
  go_wp2_with fail
  go_at_call 43
  with_reducible refine (int_c S1.out OK.out.year (lim_left (lim_right HL.out))).mono ?_
  intro e w2 hp
  obtain ⟨rfl, r2, hs, ht⟩ := S1.out.next hp
  have S2 := Aside0.mk ht
  have B2 := Aside0.mk (B1.out.st hs)
  have W2 := Aside0.mk (W1.out.st hs)
  clear hp hs ht b1 bl wc wl
  have b2 := B2.out.cell 2 rfl
  have bl := B2.out.lt
  have wc := W2.out.cell 0 rfl
  have wl := W2.out.lt
  go_wp2_with fail
  go_at_call 44
  with_reducible refine (put44 w (w.heap.size + 1 + 1) r2 p.options.length c2 (w.heap.size + 1 + 1 + 1) A2 p.options _ _ _ (fun r1 w1 => Cap w1 (w.heap.size + 1 + 1) r1 (w.heap.size + 1 + 1 + 1) #[.pointer (some ⟨w.heap.size + 1 + 1, 0, none⟩)] 121) deepOptions encOptions rfl G2.out S2.out.wr W2.out (fun _ _ _ _ _ _ h s => h.st s) (lim_left (lim_right (lim_right HL.out))) (fun x ys d1 r1 w1 A1 c1 hx h1 hC1 hw hI hlim => options_calls w (w.heap.size + 1 + 1) r1 (w.heap.size + 1 + 1 + 1) ys d1 x A1 c1 w1 (okOpt x) h1 hC1 hw hI hlim)).mono ?_
  intro e w3 hp
  obtain ⟨rfl, r3, hs, ht⟩ := S2.out.next hp
  have S3 := Aside0.mk ht
  have B3 := Aside0.mk (B2.out.st hs)
  have W3 := Aside0.mk (W2.out.st hs)
  clear hp hs ht b2 bl wc wl
  have b3 := B3.out.cell 3 rfl
  have bl := B3.out.lt
  have wc := W3.out.cell 0 rfl
  have wl := W3.out.lt
  go_wp2_with fail
  go_at_call 47
  with_reducible refine (put47 w (w.heap.size + 1 + 1) r3 p.tables.length c3 (w.heap.size + 1 + 1 + 1) A3 p.tables _ _ _ (fun r1 w1 => Cap w1 (w.heap.size + 1 + 1) r1 (w.heap.size + 1 + 1 + 1) #[.pointer (some ⟨w.heap.size + 1 + 1, 0, none⟩)] 121) deepTable encTable rfl G3.out S3.out.wr W3.out (fun _ _ _ _ _ _ h s => h.st s) (lim_left (lim_right (lim_right (lim_right HL.out)))) (fun x ys d1 r1 w1 A1 c1 hx h1 hC1 hw hI hlim => table_calls w (w.heap.size + 1 + 1) r1 (w.heap.size + 1 + 1 + 1) ys d1 x A1 c1 w1 (OK.out.tables x hx) h1 hC1 hw hI hlim)).mono ?_
  intro e w4 hp
  obtain ⟨rfl, r4, hs, ht⟩ := S3.out.next hp
  have S4 := Aside0.mk ht
  have B4 := Aside0.mk (B3.out.st hs)
  have W4 := Aside0.mk (W3.out.st hs)
  clear hp hs ht b3 bl wc wl
  have b4 := B4.out.cell 4 rfl
  have bl := B4.out.lt
  have wc := W4.out.cell 0 rfl
  have wl := W4.out.lt
  go_wp2_with fail
  go_at_call 51
  with_reducible refine (put51 w (w.heap.size + 1 + 1) r4 p.groups.length c4 (w.heap.size + 1 + 1 + 1) A4 p.groups _ _ _ (fun r1 w1 => Cap w1 (w.heap.size + 1 + 1) r1 (w.heap.size + 1 + 1 + 1) #[.pointer (some ⟨w.heap.size + 1 + 1, 0, none⟩)] 121) deepGroup encGroup rfl G4.out S4.out.wr W4.out (fun _ _ _ _ _ _ h s => h.st s) (lim_left (lim_right (lim_right (lim_right (lim_right HL.out))))) (fun x ys d1 r1 w1 hx hw hI hlim => group_calls w (w.heap.size + 1 + 1) r1 (w.heap.size + 1 + 1 + 1) ys d1 x w1 (OK.out.groups x hx) hw hI hlim)).mono ?_
  intro e w5 hp
  obtain ⟨rfl, r5, hs, ht⟩ := S4.out.next hp
  have S5 := Aside0.mk ht
  have B5 := Aside0.mk (B4.out.st hs)
  have W5 := Aside0.mk (W4.out.st hs)
  clear hp hs ht b4 bl wc wl
  have b5 := B5.out.cell 5 rfl
  have bl := B5.out.lt
  have wc := W5.out.cell 0 rfl
  have wl := W5.out.lt
  go_wp2_with fail
  go_at_call 53
  with_reducible refine (put53 w (w.heap.size + 1 + 1) r5 p.lines.length c5 A5 p.lines _ _ _ (fun _ _ => True) deepLine encLine rfl G5.out S5.out.wr trivial (fun _ _ _ _ _ _ _ _ => trivial) (lim_left (lim_right (lim_right (lim_right (lim_right (lim_right HL.out)))))) (fun x ys d1 r1 w1 A6_ c6_ hx h1 hC1 hw hI hlim => line_calls w (w.heap.size + 1 + 1) r1 ys d1 x A6_ c6_ w1 (OK.out.lines x hx) h1 hC1 hw hlim)).mono ?_
  intro e w6 hp
  obtain ⟨rfl, r6, hs, ht⟩ := S5.out.next hp
  have S6 := Aside0.mk ht
  have B6 := Aside0.mk (B5.out.st hs)
  have W6 := Aside0.mk (W5.out.st hs)
  clear hp hs ht b5 bl wc wl
  have b6 := B6.out.cell 6 rfl
  have bl := B6.out.lt
  have wc := W6.out.cell 0 rfl
  have wl := W6.out.lt
  go_wp2_with fail
  go_at_call 55
  with_reducible refine (put55 w (w.heap.size + 1 + 1) r6 p.checks.length c6 A6 p.checks _ _ _ (fun _ _ => True) deepCheck encCheck rfl G6.out S6.out.wr trivial (fun _ _ _ _ _ _ _ _ => trivial) (lim_right (lim_right (lim_right (lim_right (lim_right (lim_right HL.out)))))) (fun x ys d1 r1 w1 A7_ c7_ hx h1 hC1 hw hI hlim => check_calls w (w.heap.size + 1 + 1) r1 ys d1 x A7_ c7_ w1 (OK.out.checks x hx) h1 hC1 hw hlim)).mono ?_
  intro e w7 hp
  obtain ⟨rfl, r7, hs, ht⟩ := S6.out.next hp
  have S7 := Aside0.mk ht
  have B7 := Aside0.mk (B6.out.st hs)
  have W7 := Aside0.mk (W6.out.st hs)
  clear hp hs ht b6 bl wc wl
  obtain ⟨xs, hxs⟩ : ∃ xs, xs = head ++ encText p.name ++ encInt p.year ++ encList encOptions p.options ++ encList encTable p.tables ++ encList encGroup p.groups ++ encList encLine p.lines ++ encList encCheck p.checks := ⟨_, rfl⟩
  obtain ⟨dd, hdd⟩ : ∃ dd, dd = (((((false || p.options.any deepOptions) || p.tables.any deepTable) || p.groups.any deepGroup) || p.lines.any deepLine) || p.checks.any deepCheck) := ⟨_, rfl⟩
  rw [← hxs, ← hdd] at S7
  have HXS := Aside0.mk hxs
  have HDD := Aside0.mk hdd
  clear hxs hdd
  obtain ⟨c0, hc0, hc1, hf0, hf1, ho⟩ := S7.out.wr.open
  have HX4 := Aside0.mk (show xs.length + 4 ≤ LIM by rw [HXS.out]; have := HLL.out; unfold encPk at this; simp only [List.length_append] at this ⊢; omega)
  have hmax : xs.length ≤ 9223372036854775806 := by have := HX4.out; unfold LIM at this; omega
  obtain ⟨k, hk⟩ := sum_any xs hmax
  have HK := Aside0.mk hk
  have HO := Aside0.mk ho
  have hcap : xs.length ≤ c0 := by obtain ⟨_, _, _, h, _⟩ := ho.is; exact h
  have HCAP := Aside0.mk hcap
  have wc := W7.out.cell 0 rfl
  have wl := W7.out.lt
  clear hk ho hcap
  go_wp2_with fail
  go_at_call 12
  with_reducible refine (pack_Sum.calls k (some ⟨r7, 0, none⟩) c0 xs (sumI 2166136261 xs) w7 (HO.out.C rfl (by omega)) HCAP.out HK.out).mono ?_
  rintro e w8 ⟨rfl, ⟨⟨nd, hw⟩⟩⟩
  subst hw
  have S8 := Aside0.mk (S7.out.drewN nd)
  have W8 := Aside0.mk (W7.out.drewN nd)
  clear hc0 hc1 hf0 hf1 HO HCAP HK wc wl
  generalize w7.drewN nd = w8 at S8 W8 ⊢
  obtain ⟨sn, hsn⟩ : ∃ sn, sumI 2166136261 xs = sn := ⟨_, rfl⟩
  rw [hsn]
  have HSN := Aside0.mk hsn
  obtain ⟨c1, hc0, hc1, hf0, hf1, ho⟩ := S8.out.wr.open
  obtain ⟨q, hq⟩ : ∃ q, xs.length = q := ⟨_, rfl⟩
  rw [hq] at hc0 ho
  have HO := Aside0.mk ho
  have HQ := Aside0.mk hq
  have HX5 := Aside0.mk (show q + 4 ≤ LIM by rw [← hq]; exact HX4.out)
  have a0 := W8.out.cell 0 rfl
  have l0 := W8.out.lt
  have lg := S8.out.wr.lt.1
  have NR := Aside0.mk W8.out.row
  clear hsn ho hq hmax
  go_upto_region 10 with (fail)
  go_cut [4] (fun s4 wd => s4 = .pointer (some ⟨w.heap.size + 1 + 1 + 1, 0, none⟩) ∧ Aside0 (∃ r9, PutEnd w w8 wd r7 r9 (xs ++ sum4 sn) dd))
  case first =>
    go_region_law (refine step_putC rfl _ _ rfl S8.out.wr (by repeat (first | exact Below.refl _ _ | apply below_alloc | apply pw_below_drewN | apply below_drew1)) HQ.out HO.out rfl ⟨w8.heap.size, 0, none⟩ 4 4 (sum4 sn) rfl rfl (four_new _ _ _) HX5.out (by decide) ?_; intro r' c' w3 HG HC; have ha3 := (World.cell?_of_block (a := ⟨w.heap.size + 1 + 1 + 1, 0, none⟩) (HG.far _ l0 NR.out)).trans a0; obtain ⟨u0, hu0⟩ := HG.c0; have hz0 := HG.f0)
    all_goals (go_wp2_with fail; go_meet; exact ⟨rfl, ⟨_, PutEnd.of HG HC⟩⟩)
  case rest =>
  obtain ⟨rfl, HE⟩ := hcut
  obtain ⟨r9, hE⟩ := HE.out
  have HT := Aside0.mk (S8.out.trans hE.st)
  have W9 := Aside0.mk (W8.out.st hE.st)
  obtain ⟨c9, hd0, hown⟩ := hE.is
  obtain ⟨ys, hys⟩ : ∃ ys, xs ++ sum4 sn = ys := ⟨_, rfl⟩
  rw [hys] at hd0 hown HT
  have hd1 : wc.cell? ⟨w.heap.size + 1 + 1, 1, none⟩ = some (.bool dd) := by obtain ⟨_, _, h, _⟩ := hE.st.wr.open; exact h
  have HYS := Aside0.mk hys
  have HOWN := Aside0.mk hown
  clear a0 l0 lg hc0 hc1 hf0 hf1 hE HE hys hown
  have a0 := W9.out.cell 0 rfl
  have l0 := W9.out.lt
  have HP := Aside0.mk (putS_of p xs ys dd sn HXS.out HDD.out HSN.out HYS.out)
  by_cases hd : dd = true
  · have HB := Aside0.mk (HP.out.1 (.inl hd))
    subst hd
    clear HP
    go_wp2_with fail
    go_ret2
    exact PutPost.bad HB.out HT.out.wr.dat
  · have hd2 : dd = false := by simpa using hd
    by_cases hl : 131072 < ys.length
    · have HB := Aside0.mk (HP.out.1 (.inr hl))
      subst hd2
      clear HP hd
      have hb : decide (131072 < ys.length) = true := decide_eq_true hl
      go_wp2_with fail
      go_ret2
      exact PutPost.bad HB.out HT.out.wr.dat
    · have HB := Aside0.mk (HP.out.2 (fun h => h.elim hd hl))
      subst hd2
      clear HP hd
      have hb : decide (131072 < ys.length) = false := decide_eq_false hl
      go_wp2_with fail
      go_ret2
      exact PutPost.good HB.out HOWN.out HT.out.wr.dat
end Go.Proofs.Ytpbdkkahodaloaa.U
end

section
set_option linter.unusedVariables false
set_option linter.unusedSimpArgs false
namespace Go.Proofs.Ytpbdkkahodaloaa.L
open Go.RowKit Go.Lib Go.Proofs.Ytpbdkkahodaloaa.U Go.Proofs.Ytpbdkkahodaloaa.V Go.Proofs.Ytpbdkkahodaloaa.PS Go.Proofs.YtpbdkkahodaloaaW.PrintWords Go.Proofs.YtpbdkkahodaloaaW.PrintMore
structure Rds {α : Type} (R : List Int → R3 → α × R3) (x : α) (enc : List Int) : Prop where
  whole : ∀ (pre suf : List Int), R (pre ++ (enc ++ suf)) ⟨pre.length, 0, 0⟩ = (x, ⟨(pre.length + enc.length : Nat), 0, 0⟩)
  cut : ∀ (pre c r : List Int), enc = c ++ r → r ≠ [] → (R (pre ++ c) ⟨pre.length, 0, 0⟩).2.err = 70 ∧ (R (pre ++ c) ⟨pre.length, 0, 0⟩).2.bad = (pre ++ c).length
def Sticky {α : Type} (R : List Int → R3 → α × R3) : Prop := ∀ b s, s.err ≠ 0 → (R b s).2.err = s.err ∧ (R b s).2.bad = s.bad
theorem failR_err (e a : Int) (s : R3) (h : s.err ≠ 0) : failR e a s = s := by unfold failR; rw [if_neg h]
def seqR {α β γ : Type} (R1 : List Int → R3 → α × R3) (R2 : List Int → R3 → β × R3) (f : α → β → γ) (b : List Int) (s : R3) : γ × R3 := (f (R1 b s).1 (R2 b (R1 b s).2).1, (R2 b (R1 b s).2).2)
theorem Sticky.seq {α β γ : Type} {R1 : List Int → R3 → α × R3} {R2 : List Int → R3 → β × R3} (h1 : Sticky R1) (h2 : Sticky R2) (f : α → β → γ) : Sticky (seqR R1 R2 f) := by
  intro b s hs
  obtain ⟨a1, a2⟩ := h1 b s hs
  obtain ⟨b1, b2⟩ := h2 b (R1 b s).2 (by rw [a1]; exact hs)
  exact ⟨b1.trans a1, b2.trans a2⟩
theorem Rds.seq {α β γ : Type} {R1 : List Int → R3 → α × R3} {R2 : List Int → R3 → β × R3} {x1 : α} {x2 : β} {e1 e2 : List Int} (h1 : Rds R1 x1 e1) (h2 : Rds R2 x2 e2) (hs : Sticky R2) (f : α → β → γ) : Rds (seqR R1 R2 f) (f x1 x2) (e1 ++ e2) := by
  constructor
  · intro pre suf
    have a := h1.whole pre (e2 ++ suf)
    have b := h2.whole (pre ++ e1) suf
    rw [List.append_assoc, List.length_append] at b
    unfold seqR
    rw [List.append_assoc, a]
    show (f x1 (R2 _ ⟨((pre.length + e1.length : Nat) : Int), 0, 0⟩).1, (R2 _ ⟨((pre.length + e1.length : Nat) : Int), 0, 0⟩).2) = _
    rw [b, List.length_append, Nat.add_assoc]
  · intro pre c r hc hr
    rcases List.append_eq_append_iff.1 hc with ⟨d, hd1, hd2⟩ | ⟨d, hd1, hd2⟩
    ·
      have a := h1.whole pre d
      have b := h2.cut (pre ++ e1) d r hd2 hr
      rw [List.append_assoc, List.length_append] at b
      unfold seqR
      rw [hd1, a]
      exact b
    · by_cases hd : d = []
      · subst hd
        rw [List.append_nil] at hd1
        rw [List.nil_append] at hd2
        have a := h1.whole pre []
        have b := h2.cut (pre ++ e1) [] r hd2.symm hr
        rw [List.append_nil] at a b
        have e : ((pre ++ e1).length : Int) = ((pre.length + e1.length : Nat) : Int) := by rw [List.length_append]
        unfold seqR
        rw [← hd1, a]
        show (R2 (pre ++ e1) ⟨((pre.length + e1.length : Nat) : Int), 0, 0⟩).2.err = 70 ∧ (R2 (pre ++ e1) ⟨((pre.length + e1.length : Nat) : Int), 0, 0⟩).2.bad = _
        rw [← e]
        exact b
      · have a := h1.cut pre c d hd1 hd
        have b := hs (pre ++ c) (R1 (pre ++ c) ⟨pre.length, 0, 0⟩).2 (by rw [a.1]; decide)
        exact ⟨b.1.trans a.1, b.2.trans a.2⟩
theorem rd_at (pre : List Int) (x : Int) (suf : List Int) : rd (pre ++ x :: suf) (pre.length : Nat) = x := by
  unfold rd
  rw [Int.toNat_natCast, List.getD_eq_getElem?_getD, List.getElem?_append_right (Nat.le_refl _)]
  simp
theorem len_ne (pre : List Int) (x : Int) (suf : List Int) : ¬ ((pre.length : Nat) : Int) = (((pre ++ x :: suf).length : Nat) : Int) := by rw [List.length_append, List.length_cons]; omega
theorem numL_step (pre : List Int) (x : Int) (suf : List Int) (fr : Int) (f : Nat) (n : Int) (i : Nat) : numL (pre ++ x :: suf) fr (f + 1) n i ⟨(pre.length : Nat), 0, 0⟩ =
    if (i = 9 ∧ x > 1) ∨ (0 < i ∧ x = 0) then (0, failR 71 fr ⟨(pre.length : Nat), 0, 0⟩) else
    if x < 128 then (n + x % 128 * 128 ^ i, ⟨((pre.length : Nat) : Int) + 1, 0, 0⟩) else numL (pre ++ x :: suf) fr f (n + x % 128 * 128 ^ i) (i + 1) ⟨((pre.length : Nat) : Int) + 1, 0, 0⟩ := by
  conv => lhs; unfold numL
  rw [if_pos rfl]
  show (if ((pre.length : Nat) : Int) = (((pre ++ x :: suf).length : Nat) : Int) then _ else if (i = 9 ∧ rd (pre ++ x :: suf) (pre.length : Nat) > 1) ∨ (0 < i ∧ rd (pre ++ x :: suf) (pre.length : Nat) = 0) then _ else
    if rd (pre ++ x :: suf) (pre.length : Nat) < 128 then (n + rd (pre ++ x :: suf) (pre.length : Nat) % 128 * 128 ^ i, _) else numL _ _ _ (n + rd (pre ++ x :: suf) (pre.length : Nat) % 128 * 128 ^ i) _ _) = _
  rw [if_neg (len_ne _ _ _), rd_at]
theorem numL_sticky (b : List Int) (fr : Int) (f : Nat) (n : Int) (i : Nat) (s : R3) (h : s.err ≠ 0) : numL b fr f n i s = (0, s) := by
  cases f with
  | zero => rfl
  | succ f => unfold numL; rw [if_neg h]
theorem numR_sticky : Sticky numR := fun b s h => by unfold numR; rw [numL_sticky _ _ _ _ _ _ h]; exact ⟨rfl, rfl⟩
theorem numL_whole (fr : Int) : ∀ (f i m n : Nat) (pre suf : List Int), f + i = 10 → m * 128 ^ i < 18446744073709551616 → (0 < i → 0 < m) →
    numL (pre ++ (seven m ++ suf)) fr f n i ⟨pre.length, 0, 0⟩ = (((n + m * 128 ^ i : Nat) : Int), ⟨((pre.length + (seven m).length : Nat) : Int), 0, 0⟩)
  | 0, i, m, n, pre, suf, hf, hm, hi => by
    exfalso
    obtain rfl : i = 10 := by omega
    have := hi (by omega)
    omega
  | f + 1, i, m, n, pre, suf, hf, hm, hi => by
    have hi9 : i = 9 → m ≤ 1 := by intro h; subst h; omega
    unfold seven
    by_cases hlt : m < 128
    · rw [if_pos hlt]
      show numL (pre ++ (m : Int) :: suf) fr (f + 1) n i ⟨pre.length, 0, 0⟩ = _
      rw [numL_step]
      rw [if_neg (by
        rintro (⟨h, h2⟩ | ⟨h, h2⟩)
        · have := hi9 h; omega
        · have := hi h; omega), if_pos (by omega)]
      rw [show (m : Int) % 128 = m by omega]
      refine Prod.ext ?_ rfl
      show (n : Int) + m * 128 ^ i = _
      push_cast; rfl
    · rw [if_neg hlt]
      have hlt9 : i < 9 := by
        by_cases h : i = 9
        · have := hi9 h; omega
        · omega
      show numL (pre ++ ((m % 128 + 128 : Nat) : Int) :: (seven (m / 128) ++ suf)) fr (f + 1) n i ⟨pre.length, 0, 0⟩ = _
      rw [numL_step]
      rw [if_neg (by
        rintro (⟨h, h2⟩ | ⟨h, h2⟩)
        · omega
        · omega), if_neg (by omega)]
      have e1 : (((m % 128 + 128 : Nat) : Int)) % 128 = ((m % 128 : Nat) : Int) := by omega
      rw [e1]
      have e2 : (n : Int) + ((m % 128 : Nat) : Int) * 128 ^ i = ((n + m % 128 * 128 ^ i : Nat) : Int) := by push_cast; rfl
      rw [e2]
      have hp : m / 128 * 128 ^ (i + 1) + m % 128 * 128 ^ i = m * 128 ^ i := by
        rw [Nat.pow_succ, Nat.mul_comm (128 ^ i) 128, ← Nat.mul_assoc, ← Nat.add_mul]
        congr 1
        omega
      have ih := numL_whole fr f (i + 1) (m / 128) (n + m % 128 * 128 ^ i) (pre ++ [((m % 128 + 128 : Nat) : Int)]) suf (by omega) (by omega) (by intro _; omega)
      rw [List.append_assoc, List.length_append] at ih
      have e3 : ((pre.length : Nat) : Int) + 1 = ((pre.length + [((m % 128 + 128 : Nat) : Int)].length : Nat) : Int) := by simp
      show numL (pre ++ ([((m % 128 + 128 : Nat) : Int)] ++ (seven (m / 128) ++ suf))) fr f _ (i + 1) ⟨((pre.length : Nat) : Int) + 1, 0, 0⟩ = _
      rw [e3, ih]
      refine Prod.ext ?_ ?_
      · show ((n + m % 128 * 128 ^ i + m / 128 * 128 ^ (i + 1) : Nat) : Int) = _
        congr 1
        omega
      · show (⟨_, 0, 0⟩ : R3) = ⟨_, 0, 0⟩
        congr 1
        simp only [List.length_append, List.length_cons, List.length_nil]
        omega
theorem numL_cut (fr : Int) : ∀ (f i m n : Nat) (pre c r : List Int), f + i = 10 → m * 128 ^ i < 18446744073709551616 → (0 < i → 0 < m) → seven m = c ++ r → r ≠ [] →
    (numL (pre ++ c) fr f n i ⟨pre.length, 0, 0⟩).2.err = 70 ∧ (numL (pre ++ c) fr f n i ⟨pre.length, 0, 0⟩).2.bad = (pre ++ c).length
  | 0, i, m, n, pre, c, r, hf, hm, hi, hc, hr => by
    exfalso
    obtain rfl : i = 10 := by omega
    have := hi (by omega)
    omega
  | f + 1, i, m, n, pre, [], r, hf, hm, hi, hc, hr => by
    unfold numL
    rw [if_pos rfl, if_pos (by simp)]
    exact ⟨rfl, rfl⟩
  | f + 1, i, m, n, pre, x :: c, r, hf, hm, hi, hc, hr => by
    have hi9 : i = 9 → m ≤ 1 := by intro h; subst h; omega
    unfold seven at hc
    by_cases hlt : m < 128
    · rw [if_pos hlt] at hc
      exfalso
      simp only [List.cons_append, List.cons.injEq] at hc
      exact hr (List.append_eq_nil_iff.1 hc.2.symm).2
    · rw [if_neg hlt] at hc
      simp only [List.cons_append, List.cons.injEq] at hc
      obtain ⟨hx, hc⟩ := hc
      subst hx
      have hlt9 : i < 9 := by
        by_cases h : i = 9
        · have := hi9 h; omega
        · omega
      have hp : m / 128 * 128 ^ (i + 1) + m % 128 * 128 ^ i = m * 128 ^ i := by
        rw [Nat.pow_succ, Nat.mul_comm (128 ^ i) 128, ← Nat.mul_assoc, ← Nat.add_mul]
        congr 1
        omega
      have ih := numL_cut fr f (i + 1) (m / 128) (n + m % 128 * 128 ^ i) (pre ++ [((m % 128 + 128 : Nat) : Int)]) c r (by omega) (by omega) (by intro _; omega) hc hr
      rw [List.append_assoc, List.length_append] at ih
      have e3 : ((pre.length : Nat) : Int) + 1 = ((pre.length + [((m % 128 + 128 : Nat) : Int)].length : Nat) : Int) := by simp
      have hstep : numL (pre ++ ((m % 128 + 128 : Nat) : Int) :: c) fr (f + 1) n i ⟨pre.length, 0, 0⟩ = numL (pre ++ ([((m % 128 + 128 : Nat) : Int)] ++ c)) fr f ((n + m % 128 * 128 ^ i : Nat) : Int) (i + 1) ⟨((pre.length : Nat) : Int) + 1, 0, 0⟩ := by
        rw [numL_step]
        rw [if_neg (by
          rintro (⟨h, h2⟩ | ⟨h, h2⟩)
          · omega
          · omega), if_neg (by omega)]
        have e1 : (((m % 128 + 128 : Nat) : Int)) % 128 = ((m % 128 : Nat) : Int) := by omega
        rw [e1]
        have e2 : (n : Int) + ((m % 128 : Nat) : Int) * 128 ^ i = ((n + m % 128 * 128 ^ i : Nat) : Int) := by push_cast; rfl
        rw [e2]
        rfl
      rw [hstep, e3]
      simpa using ih
theorem num_rds (m : Nat) (h : m < 18446744073709551616) : Rds numR (m : Int) (seven m) where
  whole := fun pre suf => by
    have := numL_whole pre.length 10 0 m 0 pre suf rfl (by simpa using h) (by intro h; omega)
    unfold numR
    simpa using this
  cut := fun pre c r hc hr => by
    have := numL_cut pre.length 10 0 m 0 pre c r rfl (by simpa using h) (by intro h; omega) hc hr
    unfold numR
    simpa using this
theorem Rds.map {α β : Type} {R : List Int → R3 → α × R3} {x : α} {enc : List Int} (h : Rds R x enc) (f : α → β) : Rds (fun b s => (f (R b s).1, (R b s).2)) (f x) enc where
  whole := fun pre suf => by show (f (R _ _).1, (R _ _).2) = _; rw [h.whole]
  cut := h.cut
theorem unz_zig (n : Int) (h : i64 n) : unz (zig n : Nat) = n := by
  have h1 := h.lo
  have h2 := h.hi
  unfold unz zig
  split <;> split <;> omega
theorem zig_lt (n : Int) (h : i64 n) : zig n < 18446744073709551616 := by
  have h1 := h.lo
  have h2 := h.hi
  unfold zig
  split <;> omega
theorem int_rds (n : Int) (h : i64 n) : Rds intR n (encInt n) := by
  have := (num_rds (zig n) (zig_lt n h)).map unz
  rw [unz_zig n h] at this
  exact this
theorem int_sticky : Sticky intR := numR_sticky
theorem byte_sticky : Sticky byteR := fun b s h => by unfold byteR; rw [if_neg h]; exact ⟨rfl, rfl⟩
theorem byte_rds (x : Int) : Rds byteR x [x] where
  whole := fun pre suf => by
    unfold byteR
    rw [if_pos rfl]
    show (if ((pre.length : Nat) : Int) = (((pre ++ x :: suf).length : Nat) : Int) then _ else (rd (pre ++ x :: suf) (pre.length : Nat), _)) = _
    rw [if_neg (len_ne _ _ _), rd_at]; rfl
  cut := fun pre c r hc hr => by
    cases c with
    | nil => unfold byteR; rw [if_pos rfl, if_pos (by simp)]; exact ⟨rfl, rfl⟩
    | cons y c =>
      exfalso
      simp only [List.cons_append, List.cons.injEq] at hc
      exact hr (List.append_eq_nil_iff.1 hc.2.symm).2
theorem flag_sticky : Sticky flagR := fun b s h => by
  obtain ⟨a1, a2⟩ := byte_sticky b s h
  unfold flagR
  show (if _ then _ else _ : R3).err = _ ∧ (if _ then _ else _ : R3).bad = _
  split
  · rw [failR_err _ _ _ (by rw [a1]; exact h)]; exact ⟨a1, a2⟩
  · exact ⟨a1, a2⟩
theorem flag_rds (x : Bool) : Rds flagR x (encFlag x) where
  whole := fun pre suf => by
    have := (byte_rds (if x = true then 1 else 0)).whole pre suf
    unfold flagR encFlag
    rw [this]
    cases x <;> rfl
  cut := fun pre c r hc hr => by
    have a := (byte_rds (if x = true then 1 else 0)).cut pre c r hc hr
    unfold flagR
    show (if _ then _ else _ : R3).err = _ ∧ (if _ then _ else _ : R3).bad = _
    split
    · rw [failR_err _ _ _ (by rw [a.1]; decide)]; exact a
    · exact a
end Go.Proofs.Ytpbdkkahodaloaa.L
end

section
set_option linter.unusedVariables false
set_option linter.unusedSimpArgs false
namespace Go.Proofs.Ytpbdkkahodaloaa.L
open Go.RowKit Go.Proofs.Ytpbdkkahodaloaa.U Go.Proofs.Ytpbdkkahodaloaa.V Go.Proofs.Ytpbdkkahodaloaa.PS Go.Proofs.YtpbdkkahodaloaaW.PrintWords Go.Proofs.YtpbdkkahodaloaaW.PrintMore
theorem short_sticky (b : List Int) (s : R3) (h : s.err ≠ 0) : shortR b s = s := failR_err _ _ _ h
theorem strOfNums_bytes (s : ByteArray) : strOfNums (U.bytesOf s) = s := by
  apply ByteArray.ext
  apply Array.ext'
  rw [strOfNums_data]
  unfold U.bytesOf
  rw [List.map_map]
  refine (List.map_congr_left (g := id) fun x hx => ?_).trans (List.map_id _)
  show UInt8.ofNat ((x.toNat : Int)).toNat = x
  rw [Int.toNat_natCast]
  exact UInt8.ofNat_toNat
theorem bytesOf_len (s : ByteArray) : (U.bytesOf s).length = s.size := by unfold U.bytesOf; rw [List.length_map]; exact Array.length_toList
theorem text_sticky : Sticky textR := fun b s h => by
  obtain ⟨a1, a2⟩ := numR_sticky b s h
  have e : (numR b s).2.err ≠ 0 := by rw [a1]; exact h
  unfold textR
  split
  · show (shortR b (numR b s).2).err = _ ∧ (shortR b (numR b s).2).bad = _
    rw [short_sticky _ _ e]; exact ⟨a1, a2⟩
  · exact ⟨a1, a2⟩
theorem text_rds (x : ByteArray) (h : x.size < 18446744073709551616) : Rds textR x (encText x) where
  whole := fun pre suf => by
    have a := (num_rds x.size h).whole pre (U.bytesOf x ++ suf)
    unfold textR encText
    rw [List.append_assoc, a]
    show (if (x.size : Int) > ((pre ++ (seven x.size ++ (U.bytesOf x ++ suf))).length : Nat) - ((pre.length + (seven x.size).length : Nat) : Int) then _ else _) = _
    have hl := bytesOf_len x
    rw [if_neg (by simp only [List.length_append]; omega)]
    show (strOfNums (((pre ++ (seven x.size ++ (U.bytesOf x ++ suf))).drop ((pre.length + (seven x.size).length : Nat) : Int).toNat).take (x.size : Int).toNat), _) = _
    rw [Int.toNat_natCast, Int.toNat_natCast, ← List.append_assoc, ← List.length_append, List.drop_left, ← hl, List.take_left, strOfNums_bytes]
    refine Prod.ext rfl ?_
    show (⟨((pre ++ seven (U.bytesOf x).length).length : Nat) + ((U.bytesOf x).length : Int), 0, 0⟩ : R3) = ⟨_, 0, 0⟩
    congr 1
    simp only [List.length_append, hl]
    push_cast
    omega
  cut := fun pre c r hc hr => by
    unfold encText at hc
    rcases List.append_eq_append_iff.1 hc with ⟨d, hd1, hd2⟩ | ⟨d, hd1, hd2⟩
    · have a := (num_rds x.size h).whole pre d
      have hl := bytesOf_len x
      have hlt : d.length < x.size := by
        rw [← hl, hd2, List.length_append]
        have := List.length_pos_iff.2 hr
        omega
      unfold textR
      rw [hd1, a]
      show (if (x.size : Int) > ((pre ++ (seven x.size ++ d)).length : Nat) - ((pre.length + (seven x.size).length : Nat) : Int) then _ else _ : _ × R3).2.err = 70 ∧ (if (x.size : Int) > ((pre ++ (seven x.size ++ d)).length : Nat) - ((pre.length + (seven x.size).length : Nat) : Int) then _ else _ : _ × R3).2.bad = _
      rw [if_pos (by simp only [List.length_append]; omega)]
      exact ⟨rfl, rfl⟩
    · by_cases hd : d = []
      · subst hd
        rw [List.append_nil] at hd1
        rw [List.nil_append] at hd2
        have a := (num_rds x.size h).whole pre []
        rw [List.append_nil] at a
        have hl := bytesOf_len x
        have hlt : 0 < x.size := by
          rw [← hl, ← hd2]
          exact List.length_pos_iff.2 hr
        unfold textR
        rw [← hd1, a]
        show (if (x.size : Int) > ((pre ++ seven x.size).length : Nat) - ((pre.length + (seven x.size).length : Nat) : Int) then _ else _ : _ × R3).2.err = 70 ∧ (if (x.size : Int) > ((pre ++ seven x.size).length : Nat) - ((pre.length + (seven x.size).length : Nat) : Int) then _ else _ : _ × R3).2.bad = _
        rw [if_pos (by simp only [List.length_append]; omega)]
        exact ⟨rfl, rfl⟩
      · have a := (num_rds x.size h).cut pre c d hd1 hd
        unfold textR
        split
        · show (shortR _ (numR _ _).2).err = _ ∧ (shortR _ (numR _ _).2).bad = _
          rw [short_sticky _ _ (by rw [a.1]; decide)]
          exact a
        · exact a
def lstR {α : Type} (R : List Int → R3 → α × R3) (b : List Int) (s : R3) : List α × R3 := listR b (R b) s
theorem head_sticky (b : List Int) (s : R3) (h : s.err ≠ 0) : (headR b s).2.err = s.err ∧ (headR b s).2.bad = s.bad := by
  obtain ⟨a1, a2⟩ := numR_sticky b s h
  have e : (numR b s).2.err ≠ 0 := by rw [a1]; exact h
  unfold headR
  show (if _ then _ else _ : R3).err = _ ∧ (if _ then _ else _ : R3).bad = _
  split
  · rw [short_sticky _ _ e]; exact ⟨a1, a2⟩
  · exact ⟨a1, a2⟩
theorem lst_sticky {α : Type} (R : List Int → R3 → α × R3) : Sticky (lstR R) := fun b s h => by
  obtain ⟨a1, a2⟩ := head_sticky b s h
  unfold lstR listR
  rw [listL_err _ _ _ (by rw [a1]; exact h)]
  exact ⟨a1, a2⟩
theorem listL_whole {α : Type} {R : List Int → R3 → α × R3} {enc : α → List Int} : ∀ (l : List α), (∀ x ∈ l, Rds R x (enc x)) → ∀ (pre suf : List Int),
    listL (R (pre ++ (l.flatMap enc ++ suf))) l.length ⟨pre.length, 0, 0⟩ = (l, ⟨(pre.length + (l.flatMap enc).length : Nat), 0, 0⟩)
  | [], h, pre, suf => rfl
  | x :: l, h, pre, suf => by
    have a := (h x (by simp)).whole pre (l.flatMap enc ++ suf)
    have ih := listL_whole l (fun y hy => h y (by simp [hy])) (pre ++ enc x) suf
    rw [List.append_assoc, List.length_append] at ih
    rw [List.flatMap_cons, List.append_assoc, List.length_cons]
    unfold listL
    rw [if_pos rfl, a]
    show (x :: (listL _ l.length ⟨((pre.length + (enc x).length : Nat) : Int), 0, 0⟩).1, (listL _ l.length ⟨((pre.length + (enc x).length : Nat) : Int), 0, 0⟩).2) = _
    rw [ih, List.length_append, Nat.add_assoc]
theorem listL_cut {α : Type} {R : List Int → R3 → α × R3} {enc : α → List Int} (hs : Sticky R) : ∀ (l : List α), (∀ x ∈ l, Rds R x (enc x)) → ∀ (pre c r : List Int), l.flatMap enc = c ++ r → r ≠ [] →
    (listL (R (pre ++ c)) l.length ⟨pre.length, 0, 0⟩).2.err = 70 ∧ (listL (R (pre ++ c)) l.length ⟨pre.length, 0, 0⟩).2.bad = (pre ++ c).length
  | [], h, pre, c, r, hc, hr => by
    exfalso
    exact hr (List.append_eq_nil_iff.1 hc.symm).2
  | x :: l, h, pre, c, r, hc, hr => by
    rw [List.flatMap_cons] at hc
    have hx := h x (by simp)
    have hstep : (listL (R (pre ++ c)) (x :: l).length ⟨pre.length, 0, 0⟩).2 = (listL (R (pre ++ c)) l.length (R (pre ++ c) ⟨pre.length, 0, 0⟩).2).2 := by
      rw [List.length_cons]
      conv => lhs; unfold listL
      rw [if_pos rfl]
    rw [hstep]
    rcases List.append_eq_append_iff.1 hc with ⟨d, hd1, hd2⟩ | ⟨d, hd1, hd2⟩
    · have a := hx.whole pre d
      have ih := listL_cut hs l (fun y hy => h y (by simp [hy])) (pre ++ enc x) d r hd2 hr
      rw [List.append_assoc, List.length_append] at ih
      rw [hd1, a]
      exact ih
    · by_cases hd : d = []
      · subst hd
        rw [List.append_nil] at hd1
        rw [List.nil_append] at hd2
        have a := hx.whole pre []
        have ih := listL_cut hs l (fun y hy => h y (by simp [hy])) (pre ++ enc x) [] r hd2.symm hr
        rw [List.append_nil] at a ih
        rw [← hd1, a]
        have e : ((pre ++ enc x).length : Int) = ((pre.length + (enc x).length : Nat) : Int) := by rw [List.length_append]
        show (listL _ l.length ⟨((pre.length + (enc x).length : Nat) : Int), 0, 0⟩).2.err = 70 ∧ (listL _ l.length ⟨((pre.length + (enc x).length : Nat) : Int), 0, 0⟩).2.bad = _
        rw [← e]
        exact ih
      · have a := hx.cut pre c d hd1 hd
        rw [listL_err _ _ _ (by rw [a.1]; decide)]
        exact a
theorem flat_len {α : Type} {enc : α → List Int} : ∀ (l : List α), (∀ x ∈ l, enc x ≠ []) → l.length ≤ (l.flatMap enc).length
  | [], h => Nat.le_refl _
  | x :: l, h => by
    have ih := flat_len l (fun y hy => h y (by simp [hy]))
    have := List.length_pos_iff.2 (h x (by simp))
    rw [List.flatMap_cons, List.length_append, List.length_cons]
    omega
theorem lst_rds {α : Type} {R : List Int → R3 → α × R3} {enc : α → List Int} (hs : Sticky R) (l : List α) (hl : l.length < 18446744073709551616) (h : ∀ x ∈ l, Rds R x (enc x)) (hne : ∀ x ∈ l, enc x ≠ []) : Rds (lstR R) l (encList enc l) where
  whole := fun pre suf => by
    have a := (num_rds l.length hl).whole pre (l.flatMap enc ++ suf)
    have hf := flat_len l hne
    have hh : headR (pre ++ (seven l.length ++ (l.flatMap enc ++ suf))) ⟨pre.length, 0, 0⟩ = (l.length, ⟨((pre ++ seven l.length).length : Nat), 0, 0⟩) := by
      unfold headR
      rw [a]
      show ((l.length : Int).toNat, if (l.length : Int) > ((pre ++ (seven l.length ++ (l.flatMap enc ++ suf))).length : Nat) - ((pre.length + (seven l.length).length : Nat) : Int) then _ else _) = _
      rw [if_neg (by simp only [List.length_append]; omega), Int.toNat_natCast, List.length_append]
    unfold lstR listR encList
    rw [List.append_assoc, hh]
    have b := listL_whole l h (pre ++ seven l.length) suf
    rw [List.append_assoc] at b
    show listL _ l.length ⟨((pre ++ seven l.length).length : Nat), 0, 0⟩ = _
    rw [b, List.length_append, List.length_append, Nat.add_assoc]
  cut := fun pre c r hc hr => by
    unfold encList at hc
    have key : ∀ d, c = seven l.length ++ d → l.flatMap enc = d ++ r → (lstR R (pre ++ c) ⟨pre.length, 0, 0⟩).2.err = 70 ∧ (lstR R (pre ++ c) ⟨pre.length, 0, 0⟩).2.bad = (pre ++ c).length := by
      intro d hd1 hd2
      have a := (num_rds l.length hl).whole pre d
      unfold lstR listR
      rw [hd1]
      by_cases hgt : (l.length : Int) > ((pre ++ (seven l.length ++ d)).length : Nat) - ((pre.length + (seven l.length).length : Nat) : Int)
      · have hh : headR (pre ++ (seven l.length ++ d)) ⟨pre.length, 0, 0⟩ = (l.length, ⟨((pre ++ seven l.length).length : Nat), 70, ((pre ++ (seven l.length ++ d)).length : Nat)⟩) := by
          unfold headR
          rw [a]
          show ((l.length : Int).toNat, if (l.length : Int) > ((pre ++ (seven l.length ++ d)).length : Nat) - ((pre.length + (seven l.length).length : Nat) : Int) then _ else _) = _
          rw [if_pos hgt, Int.toNat_natCast, show ((pre ++ seven l.length).length : Nat) = pre.length + (seven l.length).length from List.length_append]
          rfl
        rw [hh]
        show (listL _ l.length ⟨_, 70, _⟩).2.err = 70 ∧ (listL _ l.length ⟨_, 70, _⟩).2.bad = _
        rw [listL_err _ _ _ (show ¬ (70 : Int) = 0 by decide)]
        exact ⟨rfl, rfl⟩
      · have hh : headR (pre ++ (seven l.length ++ d)) ⟨pre.length, 0, 0⟩ = (l.length, ⟨((pre ++ seven l.length).length : Nat), 0, 0⟩) := by
          unfold headR
          rw [a]
          show ((l.length : Int).toNat, if (l.length : Int) > ((pre ++ (seven l.length ++ d)).length : Nat) - ((pre.length + (seven l.length).length : Nat) : Int) then _ else _) = _
          rw [if_neg hgt, Int.toNat_natCast, show ((pre ++ seven l.length).length : Nat) = pre.length + (seven l.length).length from List.length_append]
        rw [hh]
        have b := listL_cut hs l h (pre ++ seven l.length) d r hd2 hr
        rw [List.append_assoc] at b
        exact b
    rcases List.append_eq_append_iff.1 hc with ⟨d, hd1, hd2⟩ | ⟨d, hd1, hd2⟩
    · exact key d hd1 hd2
    · by_cases hd : d = []
      · subst hd
        rw [List.append_nil] at hd1
        exact key [] (by rw [List.append_nil]; exact hd1.symm) (by rw [List.nil_append]; exact hd2.symm)
      · have a := (num_rds l.length hl).cut pre c d hd1 hd
        have e : (headR (pre ++ c) ⟨pre.length, 0, 0⟩).2.err = 70 ∧ (headR (pre ++ c) ⟨pre.length, 0, 0⟩).2.bad = (pre ++ c).length := by
          unfold headR
          show (if _ then _ else _ : R3).err = _ ∧ (if _ then _ else _ : R3).bad = _
          split
          · rw [short_sticky _ _ (by rw [a.1]; decide)]; exact a
          · exact a
        unfold lstR listR
        rw [listL_err _ _ _ (by rw [e.1]; decide)]
        exact e
end Go.Proofs.Ytpbdkkahodaloaa.L
end

section
set_option linter.unusedVariables false
set_option linter.unusedSimpArgs false
namespace Go.Proofs.Ytpbdkkahodaloaa.L
open Go.RowKit Go.Proofs.Ytpbdkkahodaloaa.U Go.Proofs.Ytpbdkkahodaloaa.V Go.Proofs.Ytpbdkkahodaloaa.PS Go.Proofs.YtpbdkkahodaloaaW.PrintWords Go.Proofs.YtpbdkkahodaloaaW.PrintMore
def bindR {α β γ : Type} (R1 : List Int → R3 → α × R3) (R2 : α → List Int → R3 → β × R3) (f : α → β → γ) (b : List Int) (s : R3) : γ × R3 := (f (R1 b s).1 (R2 (R1 b s).1 b (R1 b s).2).1, (R2 (R1 b s).1 b (R1 b s).2).2)
theorem Sticky.bind {α β γ : Type} {R1 : List Int → R3 → α × R3} {R2 : α → List Int → R3 → β × R3} (h1 : Sticky R1) (h2 : ∀ a, Sticky (R2 a)) (f : α → β → γ) : Sticky (bindR R1 R2 f) := by
  intro b s hs
  obtain ⟨a1, a2⟩ := h1 b s hs
  obtain ⟨b1, b2⟩ := h2 (R1 b s).1 b (R1 b s).2 (by rw [a1]; exact hs)
  exact ⟨b1.trans a1, b2.trans a2⟩
theorem Rds.bind {α β γ : Type} {R1 : List Int → R3 → α × R3} {R2 : α → List Int → R3 → β × R3} {x1 : α} {x2 : β} {e1 e2 : List Int} (h1 : Rds R1 x1 e1) (h2 : Rds (R2 x1) x2 e2) (hs : ∀ a, Sticky (R2 a)) (f : α → β → γ) : Rds (bindR R1 R2 f) (f x1 x2) (e1 ++ e2) := by
  constructor
  · intro pre suf
    have a := h1.whole pre (e2 ++ suf)
    have b := h2.whole (pre ++ e1) suf
    rw [List.append_assoc, List.length_append] at b
    unfold bindR
    rw [List.append_assoc, a]
    show (f x1 (R2 x1 _ ⟨((pre.length + e1.length : Nat) : Int), 0, 0⟩).1, (R2 x1 _ ⟨((pre.length + e1.length : Nat) : Int), 0, 0⟩).2) = _
    rw [b, List.length_append, Nat.add_assoc]
  · intro pre c r hc hr
    rcases List.append_eq_append_iff.1 hc with ⟨d, hd1, hd2⟩ | ⟨d, hd1, hd2⟩
    · have a := h1.whole pre d
      have b := h2.cut (pre ++ e1) d r hd2 hr
      rw [List.append_assoc, List.length_append] at b
      unfold bindR
      rw [hd1, a]
      exact b
    · by_cases hd : d = []
      · subst hd
        rw [List.append_nil] at hd1
        rw [List.nil_append] at hd2
        have a := h1.whole pre []
        have b := h2.cut (pre ++ e1) [] r hd2.symm hr
        rw [List.append_nil] at a b
        have e : ((pre ++ e1).length : Int) = ((pre.length + e1.length : Nat) : Int) := by rw [List.length_append]
        unfold bindR
        rw [← hd1, a]
        show (R2 x1 (pre ++ e1) ⟨((pre.length + e1.length : Nat) : Int), 0, 0⟩).2.err = 70 ∧ (R2 x1 (pre ++ e1) ⟨((pre.length + e1.length : Nat) : Int), 0, 0⟩).2.bad = _
        rw [← e]
        exact b
      · have a := h1.cut pre c d hd1 hd
        have b := hs (R1 (pre ++ c) ⟨pre.length, 0, 0⟩).1 (pre ++ c) (R1 (pre ++ c) ⟨pre.length, 0, 0⟩).2 (by rw [a.1]; decide)
        exact ⟨b.1.trans a.1, b.2.trans a.2⟩
theorem bit_cond (n k : Int) : bit n k = cond (decide (n = 0)) 0 k := by
  unfold bit
  by_cases h : n = 0 <;> simp [h]
theorem says_bits : ∀ a b c d : Bool, (0 ≤ cond a (0 : Int) 1 + cond b 0 2 + cond c 0 4 + cond d 0 8 ∧ cond a (0 : Int) 1 + cond b 0 2 + cond c 0 4 + cond d 0 8 ≤ 15) ∧
    (bits .and .u8 (cond a (0 : Int) 1 + cond b 0 2 + cond c 0 4 + cond d 0 8) 1 = 0 ↔ a = true) ∧ (bits .and .u8 (cond a (0 : Int) 1 + cond b 0 2 + cond c 0 4 + cond d 0 8) 2 = 0 ↔ b = true) ∧
    (bits .and .u8 (cond a (0 : Int) 1 + cond b 0 2 + cond c 0 4 + cond d 0 8) 4 = 0 ↔ c = true) ∧ (bits .and .u8 (cond a (0 : Int) 1 + cond b 0 2 + cond c 0 4 + cond d 0 8) 8 = 0 ↔ d = true) := by decide +kernel
theorem says_is (e : S80) : saysOf e = cond (decide (e.f1 = 0)) (0 : Int) 1 + cond (decide (e.f2 = 0)) 0 2 + cond (decide (e.f3 = 0)) 0 4 + cond (decide ((e.f4.length : Int) = 0)) 0 8 := by
  unfold saysOf
  rw [bit_cond, bit_cond, bit_cond, bit_cond]
theorem says_all (e : S80) : (0 ≤ saysOf e ∧ saysOf e ≤ 15) ∧ (bits .and .u8 (saysOf e) 1 = 0 ↔ e.f1 = 0) ∧ (bits .and .u8 (saysOf e) 2 = 0 ↔ e.f2 = 0) ∧ (bits .and .u8 (saysOf e) 4 = 0 ↔ e.f3 = 0) ∧ (bits .and .u8 (saysOf e) 8 = 0 ↔ (e.f4.length : Int) = 0) := by
  have h := says_bits (decide (e.f1 = 0)) (decide (e.f2 = 0)) (decide (e.f3 = 0)) (decide ((e.f4.length : Int) = 0))
  rw [← says_is] at h
  simp only [decide_eq_true_eq] at h
  exact h
theorem given_sticky (y i : Int) : Sticky (fun b s => givenR b y i s) := fun b s h => by
  show (givenR b y i s).2.err = _ ∧ (givenR b y i s).2.bad = _
  unfold givenR
  rw [if_pos (.inr h)]
  exact ⟨rfl, rfl⟩
theorem given_rds (y i n : Int) (hy : bits .and .u8 y i = 0 ↔ n = 0) (h : i64 n) : Rds (fun b s => givenR b y i s) n (encOpt n) := by
  by_cases h0 : n = 0
  · constructor
    · intro pre suf
      show givenR _ y i _ = _
      unfold givenR encOpt
      rw [if_pos (.inl (hy.2 h0)), if_pos h0]
      exact Prod.ext h0.symm rfl
    · intro pre c r hc hr
      exfalso
      unfold encOpt at hc
      rw [if_pos h0] at hc
      exact hr (List.append_eq_nil_iff.1 hc.symm).2
  · have hI := int_rds n h
    have hno : ∀ p : Int, ¬ (bits .and .u8 y i = 0 ∨ ¬ (⟨p, 0, 0⟩ : R3).err = 0) := by
      rintro p (h1 | h1)
      · exact h0 (hy.1 h1)
      · exact h1 rfl
    constructor
    · intro pre suf
      show givenR _ y i _ = _
      unfold givenR encOpt
      rw [if_neg h0, if_neg (hno _), hI.whole]
      show (n, if n = 0 then _ else _) = _
      rw [if_neg h0]
    · intro pre c r hc hr
      unfold encOpt at hc
      rw [if_neg h0] at hc
      have a := hI.cut pre c r hc hr
      show (givenR _ y i _).2.err = _ ∧ (givenR _ y i _).2.bad = _
      unfold givenR
      rw [if_neg (hno _)]
      show (if _ then _ else _ : R3).err = _ ∧ (if _ then _ else _ : R3).bad = _
      split
      · rw [failR_err _ _ _ (by rw [a.1]; decide)]; exact a
      · exact a
theorem say_sticky : Sticky sayR := fun b s h => by
  obtain ⟨a1, a2⟩ := byte_sticky b s h
  unfold sayR
  show (if _ then _ else _ : R3).err = _ ∧ (if _ then _ else _ : R3).bad = _
  split
  · rw [failR_err _ _ _ (by rw [a1]; exact h)]; exact ⟨a1, a2⟩
  · exact ⟨a1, a2⟩
theorem say_rds (y : Int) (h : y ≤ 15) : Rds sayR y [y] where
  whole := fun pre suf => by
    unfold sayR
    rw [(byte_rds y).whole]
    show (y, if y > 15 then _ else _) = _
    rw [if_neg (by omega)]
  cut := fun pre c r hc hr => by
    have a := (byte_rds y).cut pre c r hc hr
    unfold sayR
    show (if _ then _ else _ : R3).err = _ ∧ (if _ then _ else _ : R3).bad = _
    split
    · rw [failR_err _ _ _ (by rw [a.1]; decide)]; exact a
    · exact a
def argR (f : Nat) (y : Int) (b : List Int) (s : R3) : List S80 × R3 := argsR b (exprR b f) y s
theorem arg_sticky (f : Nat) (y : Int) : Sticky (argR f y) := fun b s h => by
  unfold argR argsR
  rw [if_pos (.inr h)]
  exact ⟨rfl, rfl⟩
def expR (f : Nat) (b : List Int) (s : R3) : S80 × R3 := exprR b f s
theorem exp_sticky (f : Nat) : Sticky (expR f) := fun b s h => by
  unfold expR
  cases f with
  | zero => unfold exprR; rw [if_neg h]; exact ⟨rfl, rfl⟩
  | succ f => unfold exprR; rw [if_neg h]; exact ⟨rfl, rfl⟩
theorem encE_ne (f : Nat) (x : S80) (h : deepE f x = false) : encE f x ≠ [] := by
  cases f with
  | zero => cases h
  | succ f => unfold encE; simp
theorem arg_rds (f : Nat) (y : Int) (l : List S80) (hy : bits .and .u8 y 8 = 0 ↔ (l.length : Int) = 0) (hl : l.length < 18446744073709551616) (h : ∀ x ∈ l, Rds (expR f) x (encE f x)) (hd : ∀ x ∈ l, deepE f x = false) : Rds (argR f y) l (if l.length = 0 then [] else encList (encE f) l) := by
  by_cases h0 : l.length = 0
  · rw [if_pos h0]
    constructor
    · intro pre suf
      unfold argR argsR
      rw [if_pos (.inl (hy.2 (by omega)))]
      exact Prod.ext (List.eq_nil_of_length_eq_zero h0).symm rfl
    · intro pre c r hc hr
      exact absurd (List.append_eq_nil_iff.1 hc.symm).2 hr
  · rw [if_neg h0]
    have hL := lst_rds (R := expR f) (exp_sticky f) l hl h (fun x hx => encE_ne f x (hd x hx))
    have hno : ∀ p : Int, ¬ (bits .and .u8 y 8 = 0 ∨ ¬ (⟨p, 0, 0⟩ : R3).err = 0) := by
      rintro p (h1 | h1)
      · exact h0 (by have := hy.1 h1; omega)
      · exact h1 rfl
    constructor
    · intro pre suf
      have a := hL.whole pre suf
      unfold argR argsR
      rw [if_neg (hno _)]
      show ((lstR (expR f) _ _).1, if (lstR (expR f) _ _).1.length = 0 then failR 71 _ (lstR (expR f) _ _).2 else (lstR (expR f) _ _).2) = _
      rw [a]
      show (l, if l.length = 0 then _ else _) = _
      rw [if_neg h0]
    · intro pre c r hc hr
      have a := hL.cut pre c r hc hr
      unfold argR argsR
      rw [if_neg (hno _)]
      show (if (lstR (expR f) _ _).1.length = 0 then failR 71 _ (lstR (expR f) _ _).2 else (lstR (expR f) _ _).2 : R3).err = _ ∧ (if (lstR (expR f) _ _).1.length = 0 then failR 71 _ (lstR (expR f) _ _).2 else (lstR (expR f) _ _).2 : R3).bad = _
      split
      · rw [failR_err _ _ _ (by rw [a.1]; decide)]; exact a
      · exact a
theorem flat_mem {α : Type} {enc : α → List Int} : ∀ (l : List α), ∀ x ∈ l, (enc x).length ≤ (l.flatMap enc).length
  | y :: l, x, h => by
    rw [List.flatMap_cons, List.length_append]
    rcases List.mem_cons.1 h with rfl | h
    · omega
    · have := flat_mem (enc := enc) l x h
      omega
def restR (f : Nat) : List Int → R3 → (Int × Int × Int × List S80) × R3 :=
  bindR sayR (fun y => seqR (fun b s => givenR b y 1 s) (seqR (fun b s => givenR b y 2 s) (seqR (fun b s => givenR b y 4 s) (argR f y) Prod.mk) Prod.mk) Prod.mk) (fun _ p => p)
theorem rest_sticky (f : Nat) : Sticky (restR f) := say_sticky.bind (fun y => (given_sticky y 1).seq ((given_sticky y 2).seq ((given_sticky y 4).seq (arg_sticky f y) _) _) _) _
theorem exprR_succ (b : List Int) (f : Nat) (p : Int) : exprR b (f + 1) ⟨p, 0, 0⟩ = seqR intR (restR f) (fun o q => (⟨o, q.1, q.2.1, q.2.2.1, q.2.2.2⟩ : S80)) b ⟨p, 0, 0⟩ := by
  unfold exprR
  rw [if_pos rfl]
  rfl
theorem expr_rds : ∀ (f : Nat) (x : S80), okE f x → deepE f x = false → (encE f x).length < 18446744073709551616 → Rds (expR f) x (encE f x)
  | 0, x, ok, hd, hn => by cases hd
  | f + 1, x, ok, hd, hn => by
    obtain ⟨⟨o0, o1, o2, o3⟩, oa⟩ := ok
    obtain ⟨⟨y0, y1⟩, b1, b2, b4, b8⟩ := says_all x
    have hda : ∀ a ∈ x.f4, deepE f a = false := by
      intro a ha
      have hd : x.f4.any (deepE f) = false := hd
      exact (List.any_eq_false.1 hd a ha |> fun h => by simpa using h)
    have hlen : (x.f4.flatMap (encE f)).length < 18446744073709551616 := by
      by_cases h0 : x.f4.length = 0
      · rw [List.eq_nil_of_length_eq_zero h0]; show 0 < _; omega
      · unfold encE at hn
        rw [if_neg h0] at hn
        unfold encList at hn
        simp only [List.length_append] at hn
        omega
    have hl4 : x.f4.length < 18446744073709551616 := Nat.lt_of_le_of_lt (flat_len x.f4 (fun a ha => encE_ne f a (hda a ha))) hlen
    have hargs := arg_rds f (saysOf x) x.f4 b8 hl4 (fun a ha => expr_rds f a (oa a ha) (hda a ha) (Nat.lt_of_le_of_lt (flat_mem x.f4 a ha) hlen)) hda
    have hrest : Rds (restR f) (x.f1, x.f2, x.f3, x.f4) _ := (say_rds (saysOf x) y1).bind (R2 := fun y => seqR (fun b s => givenR b y 1 s) (seqR (fun b s => givenR b y 2 s) (seqR (fun b s => givenR b y 4 s) (argR f y) Prod.mk) Prod.mk) Prod.mk) ((given_rds _ 1 x.f1 b1 o1).seq ((given_rds _ 2 x.f2 b2 o2).seq ((given_rds _ 4 x.f3 b4 o3).seq hargs (arg_sticky f _) Prod.mk) ((given_sticky _ 4).seq (arg_sticky f _) _) Prod.mk) ((given_sticky _ 2).seq ((given_sticky _ 4).seq (arg_sticky f _) _) _) Prod.mk) (fun y => (given_sticky y 1).seq ((given_sticky y 2).seq ((given_sticky y 4).seq (arg_sticky f y) _) _) _) (fun _ p => p)
    have hall := (int_rds x.f0 o0).seq hrest (rest_sticky f) (fun o q => (⟨o, q.1, q.2.1, q.2.2.1, q.2.2.2⟩ : S80))
    have hen : encE (f + 1) x = encInt x.f0 ++ ([saysOf x] ++ (encOpt x.f1 ++ (encOpt x.f2 ++ (encOpt x.f3 ++ (if x.f4.length = 0 then [] else encList (encE f) x.f4))))) := by rw [encE]
    rw [hen]
    constructor
    · intro pre suf
      show exprR _ (f + 1) _ = _
      rw [exprR_succ]
      exact (hall.whole pre suf).trans (by cases x; rfl)
    · intro pre c r hc hr
      show (exprR _ (f + 1) _).2.err = _ ∧ (exprR _ (f + 1) _).2.bad = _
      rw [exprR_succ]
      exact hall.cut pre c r hc hr
end Go.Proofs.Ytpbdkkahodaloaa.L
end

section
set_option linter.unusedVariables false
set_option linter.unusedSimpArgs false
namespace Go.Proofs.Ytpbdkkahodaloaa.L
open Go.RowKit Go.Proofs.Ytpbdkkahodaloaa.U Go.Proofs.Ytpbdkkahodaloaa.V Go.Proofs.Ytpbdkkahodaloaa.PS Go.Proofs.YtpbdkkahodaloaaW.PrintWords Go.Proofs.YtpbdkkahodaloaaW.PrintMore
theorem seven_ne (n : Nat) : seven n ≠ [] := by unfold seven; split <;> simp
theorem text_of (x : ByteArray) (h : (encText x).length < (18446744073709551616 : Nat)) : Rds textR x (encText x) := text_rds x (by
  unfold encText at h
  rw [List.length_append, bytesOf_len] at h
  show x.size < (18446744073709551616 : Nat)
  omega)
theorem text_ne (x : ByteArray) : encText x ≠ [] := by
  unfold encText
  exact List.append_ne_nil_of_left_ne_nil (seven_ne _) _
theorem lst_of {α : Type} {R : List Int → R3 → α × R3} {enc : α → List Int} (hs : Sticky R) (l : List α) (hn : (encList enc l).length < (18446744073709551616 : Nat)) (h : ∀ x ∈ l, (enc x).length < (18446744073709551616 : Nat) → Rds R x (enc x)) (hne : ∀ x ∈ l, enc x ≠ []) : Rds (lstR R) l (encList enc l) := by
  have hf : (l.flatMap enc).length < (18446744073709551616 : Nat) := by
    unfold encList at hn
    rw [List.length_append] at hn
    omega
  exact lst_rds hs l (Nat.lt_of_le_of_lt (flat_len l hne) hf) (fun x hx => h x hx (Nat.lt_of_le_of_lt (flat_mem l x hx) hf)) hne
theorem int_ne (n : Int) : encInt n ≠ [] := seven_ne _
theorem band_sticky : Sticky bandR := int_sticky.seq int_sticky S74.mk
theorem band_rds (x : S74) (h : i64 x.f0 ∧ i64 x.f1) : Rds bandR x (encBand x) := (int_rds x.f0 h.1).seq (int_rds x.f1 h.2) int_sticky S74.mk
theorem band_ne (x : S74) : encBand x ≠ [] := List.append_ne_nil_of_left_ne_nil (int_ne _) _
theorem group_sticky : Sticky groupR := text_sticky.seq int_sticky S69.mk
theorem group_rds (x : S69) (ok : okGroup x) (hn : (encGroup x).length < (18446744073709551616 : Nat)) : Rds groupR x (encGroup x) := by
  unfold encGroup at hn
  rw [List.length_append] at hn
  exact (text_of x.f0 (by omega)).seq (int_rds x.f1 ok) int_sticky S69.mk
theorem group_ne (x : S69) : encGroup x ≠ [] := List.append_ne_nil_of_left_ne_nil (text_ne _) _
theorem options_sticky : Sticky optionsR := text_sticky.seq (lst_sticky textR) S97.mk
theorem options_rds (x : S97) (hn : (encOptions x).length < (18446744073709551616 : Nat)) : Rds optionsR x (encOptions x) := by
  unfold encOptions at hn
  rw [List.length_append] at hn
  exact (text_of x.f0 (by omega)).seq (lst_of text_sticky x.f1 (by omega) (fun y _ h => text_of y h) (fun y _ => text_ne y)) (lst_sticky textR) S97.mk
theorem options_ne (x : S97) : encOptions x ≠ [] := List.append_ne_nil_of_left_ne_nil (text_ne _) _
theorem table_sticky : Sticky tableR := text_sticky.seq (lst_sticky bandR) S72.mk
theorem table_rds (x : S72) (ok : okTable x) (hn : (encTable x).length < (18446744073709551616 : Nat)) : Rds tableR x (encTable x) := by
  unfold encTable at hn
  rw [List.length_append] at hn
  exact (text_of x.f0 (by omega)).seq (lst_of band_sticky x.f1 (by omega) (fun y hy _ => band_rds y (ok y hy)) (fun y _ => band_ne y)) (lst_sticky bandR) S72.mk
theorem table_ne (x : S72) : encTable x ≠ [] := List.append_ne_nil_of_left_ne_nil (text_ne _) _
theorem clause_sticky : Sticky clauseR := int_sticky.seq (flag_sticky.seq ((exp_sticky 64).seq (exp_sticky 64) Prod.mk) Prod.mk) (fun a p => S100.mk a p.1 p.2.1 p.2.2)
theorem clause_rds (x : S100) (ok : okClause x) (hd : deepClause x = false) (hn : (encClause x).length < (18446744073709551616 : Nat)) : Rds clauseR x (encClause x) := by
  unfold encClause at hn
  simp only [List.length_append] at hn
  obtain ⟨o0, o2, o3⟩ := ok
  obtain ⟨d2, d3⟩ : deepE 64 x.f2 = false ∧ deepE 64 x.f3 = false := by
    have hd : (deepE 64 x.f2 || deepE 64 x.f3) = false := hd
    simpa using hd
  exact (int_rds x.f0 o0).seq ((flag_rds x.f1).seq ((expr_rds 64 x.f2 o2 d2 (by omega)).seq (expr_rds 64 x.f3 o3 d3 (by omega)) (exp_sticky 64) Prod.mk) ((exp_sticky 64).seq (exp_sticky 64) _) Prod.mk) (flag_sticky.seq ((exp_sticky 64).seq (exp_sticky 64) _) _) (fun a p => S100.mk a p.1 p.2.1 p.2.2)
theorem clause_ne (x : S100) : encClause x ≠ [] := List.append_ne_nil_of_left_ne_nil (int_ne _) _
theorem line_sticky : Sticky lineR := text_sticky.seq (flag_sticky.seq (flag_sticky.seq (int_sticky.seq (int_sticky.seq (int_sticky.seq (lst_sticky clauseR) Prod.mk) Prod.mk) Prod.mk) Prod.mk) Prod.mk) (fun a p => S77.mk a p.1 p.2.1 p.2.2.1 p.2.2.2.1 p.2.2.2.2.1 p.2.2.2.2.2)
theorem line_rds (x : S77) (ok : okLine x) (hd : deepLine x = false) (hn : (encLine x).length < (18446744073709551616 : Nat)) : Rds lineR x (encLine x) := by
  unfold encLine at hn
  simp only [List.length_append] at hn
  obtain ⟨o3, o4, o5, o6⟩ := ok
  have hd : x.f6.any deepClause = false := hd
  have hc : ∀ y ∈ x.f6, deepClause y = false := fun y hy => by simpa using List.any_eq_false.1 hd y hy
  have h6 := lst_of clause_sticky x.f6 (by omega) (fun y hy h => clause_rds y (o6 y hy) (hc y hy) h) (fun y _ => clause_ne y)
  have s6 := lst_sticky clauseR
  exact (text_of x.f0 (by omega)).seq ((flag_rds x.f1).seq ((flag_rds x.f2).seq ((int_rds x.f3 o3).seq ((int_rds x.f4 o4).seq ((int_rds x.f5 o5).seq h6 s6 Prod.mk) (int_sticky.seq s6 _) Prod.mk) (int_sticky.seq (int_sticky.seq s6 _) _) Prod.mk) (int_sticky.seq (int_sticky.seq (int_sticky.seq s6 _) _) _) Prod.mk) (flag_sticky.seq (int_sticky.seq (int_sticky.seq (int_sticky.seq s6 _) _) _) _) Prod.mk) (flag_sticky.seq (flag_sticky.seq (int_sticky.seq (int_sticky.seq (int_sticky.seq s6 _) _) _) _) _) (fun a p => S77.mk a p.1 p.2.1 p.2.2.1 p.2.2.2.1 p.2.2.2.2.1 p.2.2.2.2.2)
theorem line_ne (x : S77) : encLine x ≠ [] := List.append_ne_nil_of_left_ne_nil (text_ne _) _
theorem check_sticky : Sticky checkR := text_sticky.seq (flag_sticky.seq (int_sticky.seq ((exp_sticky 64).seq text_sticky Prod.mk) Prod.mk) Prod.mk) (fun a p => S82.mk a p.1 p.2.1 p.2.2.1 p.2.2.2)
theorem check_rds (x : S82) (ok : okCheck x) (hd : deepCheck x = false) (hn : (encCheck x).length < (18446744073709551616 : Nat)) : Rds checkR x (encCheck x) := by
  unfold encCheck at hn
  simp only [List.length_append] at hn
  exact (text_of x.f0 (by omega)).seq ((flag_rds x.f1).seq ((int_rds x.f2 ok.1).seq ((expr_rds 64 x.f3 ok.2 hd (by omega)).seq (text_of x.f4 (by omega)) text_sticky Prod.mk) ((exp_sticky 64).seq text_sticky _) Prod.mk) (int_sticky.seq ((exp_sticky 64).seq text_sticky _) _) Prod.mk) (flag_sticky.seq (int_sticky.seq ((exp_sticky 64).seq text_sticky _) _) _) (fun a p => S82.mk a p.1 p.2.1 p.2.2.1 p.2.2.2)
theorem check_ne (x : S82) : encCheck x ≠ [] := List.append_ne_nil_of_left_ne_nil (text_ne _) _
end Go.Proofs.Ytpbdkkahodaloaa.L
end

section
set_option linter.unusedVariables false
set_option linter.unusedSimpArgs false
namespace Go.Proofs.Ytpbdkkahodaloaa.L
open Go.RowKit Go.Proofs.Ytpbdkkahodaloaa.U Go.Proofs.Ytpbdkkahodaloaa.V Go.Proofs.Ytpbdkkahodaloaa.PS Go.Proofs.YtpbdkkahodaloaaW.PrintWords Go.Proofs.YtpbdkkahodaloaaW.PrintMore
theorem pack_seq : packR = seqR textR (seqR intR (seqR (lstR optionsR) (seqR (lstR tableR) (seqR (lstR groupR) (seqR (lstR lineR) (lstR checkR) Prod.mk) Prod.mk) Prod.mk) Prod.mk) Prod.mk) (fun a p => Pk.mk a p.1 p.2.1 p.2.2.1 p.2.2.2.1 p.2.2.2.2.1 p.2.2.2.2.2) := by
  funext b s
  simp only [packR, seqR, lstR]
theorem pack_rds (p : Pk) (ok : okPk p) (hd : deepPk p = false) (hn : (encPk p).length < 18446744073709551616) : Rds packR p (encPk p) := by
  rw [pack_seq]
  unfold encPk at hn
  simp only [List.length_append] at hn
  obtain ⟨d1, d2⟩ : p.lines.any deepLine = false ∧ p.checks.any deepCheck = false := by
    have hd : (p.lines.any deepLine || p.checks.any deepCheck) = false := hd
    simpa using hd
  have hl : ∀ y ∈ p.lines, deepLine y = false := fun y hy => by simpa using List.any_eq_false.1 d1 y hy
  have hk : ∀ y ∈ p.checks, deepCheck y = false := fun y hy => by simpa using List.any_eq_false.1 d2 y hy
  have r2 := lst_of options_sticky p.options (by omega) (fun y hy h => options_rds y h) (fun y _ => options_ne y)
  have r3 := lst_of table_sticky p.tables (by omega) (fun y hy h => table_rds y (ok.tables y hy) h) (fun y _ => table_ne y)
  have r4 := lst_of group_sticky p.groups (by omega) (fun y hy h => group_rds y (ok.groups y hy) h) (fun y _ => group_ne y)
  have r5 := lst_of line_sticky p.lines (by omega) (fun y hy h => line_rds y (ok.lines y hy) (hl y hy) h) (fun y _ => line_ne y)
  have r6 := lst_of check_sticky p.checks (by omega) (fun y hy h => check_rds y (ok.checks y hy) (hk y hy) h) (fun y _ => check_ne y)
  have s6 := lst_sticky checkR
  have s5 : Sticky (seqR (lstR lineR) (lstR checkR) Prod.mk) := (lst_sticky lineR).seq s6 _
  have s4 : Sticky (seqR (lstR groupR) (seqR (lstR lineR) (lstR checkR) Prod.mk) Prod.mk) := (lst_sticky groupR).seq s5 _
  have s3 : Sticky (seqR (lstR tableR) (seqR (lstR groupR) (seqR (lstR lineR) (lstR checkR) Prod.mk) Prod.mk) Prod.mk) := (lst_sticky tableR).seq s4 _
  have s2 : Sticky (seqR (lstR optionsR) (seqR (lstR tableR) (seqR (lstR groupR) (seqR (lstR lineR) (lstR checkR) Prod.mk) Prod.mk) Prod.mk) Prod.mk) := (lst_sticky optionsR).seq s3 _
  exact (text_of p.name (by omega)).seq ((int_rds p.year ok.year).seq (r2.seq (r3.seq (r4.seq (r5.seq r6 s6 Prod.mk) s5 Prod.mk) s4 Prod.mk) s3 Prod.mk) s2 Prod.mk) (int_sticky.seq s2 _) (fun a p => Pk.mk a p.1 p.2.1 p.2.2.1 p.2.2.2.1 p.2.2.2.2.1 p.2.2.2.2.2)
theorem start_head (l : List Int) : startR (V.headBytes ++ l) = ⟨(V.headBytes.length : Nat), 0, 0⟩ := by
  have h4 : ¬ (((V.headBytes ++ l).length : Nat) : Int) < 4 := by rw [List.length_append]; show ¬ (((4 + l.length : Nat) : Int) < 4); omega
  have h5 : (V.headBytes ++ l).take 4 = V.headBytes := rfl
  unfold startR swR
  rw [if_neg h4, if_neg h4, if_pos h5]
  rfl
theorem sum4_byt (n : Int) : sum4 n = [byt4 n 0, byt4 n 1, byt4 n 2, byt4 n 3] := by
  unfold sum4
  simp only [IntKind.wrap_u8]
  rfl
theorem chk_ok (pre : List Int) (n : Int) (suf : List Int) (s : R3) : chkR (pre ++ ([byt4 n 0, byt4 n 1, byt4 n 2, byt4 n 3] ++ suf)) n (pre.length : Nat) 4 s = s := by
  have r0 : rd (pre ++ ([byt4 n 0, byt4 n 1, byt4 n 2, byt4 n 3] ++ suf)) ((pre.length : Nat) + ((0 : Nat) : Int)) = byt4 n 0 := by
    have := rd_at pre (byt4 n 0) ([byt4 n 1, byt4 n 2, byt4 n 3] ++ suf)
    simpa using this
  have r1 : rd (pre ++ ([byt4 n 0, byt4 n 1, byt4 n 2, byt4 n 3] ++ suf)) ((pre.length : Nat) + ((1 : Nat) : Int)) = byt4 n 1 := by
    have := rd_at (pre ++ [byt4 n 0]) (byt4 n 1) ([byt4 n 2, byt4 n 3] ++ suf)
    simpa using this
  have r2 : rd (pre ++ ([byt4 n 0, byt4 n 1, byt4 n 2, byt4 n 3] ++ suf)) ((pre.length : Nat) + ((2 : Nat) : Int)) = byt4 n 2 := by
    have := rd_at (pre ++ [byt4 n 0, byt4 n 1]) (byt4 n 2) ([byt4 n 3] ++ suf)
    simpa using this
  have r3 : rd (pre ++ ([byt4 n 0, byt4 n 1, byt4 n 2, byt4 n 3] ++ suf)) ((pre.length : Nat) + ((3 : Nat) : Int)) = byt4 n 3 := by
    have := rd_at (pre ++ [byt4 n 0, byt4 n 1, byt4 n 2]) (byt4 n 3) suf
    simpa using this
  unfold chkR
  rw [if_pos r3]
  unfold chkR
  rw [if_pos r2]
  unfold chkR
  rw [if_pos r1]
  unfold chkR
  rw [if_pos r0]
  rfl
theorem sum_ok (pre suf : List Int) : sumR (pre ++ (sum4 (sumI 2166136261 pre) ++ suf)) ⟨(pre.length : Nat), 0, 0⟩ = if suf = [] then ⟨(pre.length : Nat), 0, 0⟩ else ⟨(pre.length : Nat), 73, ((pre.length : Nat) : Int) + 4⟩ := by
  have hl : ((pre ++ (sum4 (sumI 2166136261 pre) ++ suf)).length : Nat) = pre.length + 4 + suf.length := by
    rw [List.length_append, List.length_append, Nat.add_assoc]; rfl
  unfold sumR
  show (if (((pre ++ (sum4 (sumI 2166136261 pre) ++ suf)).length : Nat) : Int) - (pre.length : Nat) < 4 then _ else if ((pre.length : Nat) : Int) + 4 < (((pre ++ (sum4 (sumI 2166136261 pre) ++ suf)).length : Nat) : Int) then failR 73 (((pre.length : Nat) : Int) + 4) (chkR _ (sumI 2166136261 ((pre ++ (sum4 (sumI 2166136261 pre) ++ suf)).take ((pre.length : Nat) : Int).toNat)) (pre.length : Nat) 4 _) else chkR _ (sumI 2166136261 ((pre ++ (sum4 (sumI 2166136261 pre) ++ suf)).take ((pre.length : Nat) : Int).toNat)) (pre.length : Nat) 4 _) = _
  rw [hl, if_neg (by omega), Int.toNat_natCast, List.take_left, sum4_byt, chk_ok]
  by_cases hs : suf = []
  · subst hs
    rw [if_neg (by simp), if_pos rfl]
  · have := List.length_pos_iff.2 hs
    rw [if_pos (by omega), if_neg hs]
    rfl
theorem get_put (p : Pk) (ok : okPk p) (hd : deepPk p = false) (suf : List Int) (hn : (bytesPk p ++ suf).length ≤ 131072) : getS (bytesPk p ++ suf) = (if suf = [] then (p, 0, 0) else (noPk, (((bytesPk p).length : Nat) : Int), 73) : Pk × Int × Int) := by
  have e : bytesPk p ++ suf = head ++ (encPk p ++ (sum4 (sumI 2166136261 (head ++ encPk p)) ++ suf)) := by
    unfold bytesPk
    simp only [List.append_assoc]
  have hlen : (encPk p).length < 18446744073709551616 := by
    rw [e] at hn
    simp only [List.length_append] at hn
    omega
  have hs := start_head (encPk p ++ (sum4 (sumI 2166136261 (head ++ encPk p)) ++ suf))
  have hp := (pack_rds p ok hd hlen).whole head (sum4 (sumI 2166136261 (head ++ encPk p)) ++ suf)
  have hu := sum_ok (head ++ encPk p) suf
  rw [List.length_append, List.append_assoc] at hu
  have hpk : (packR (bytesPk p ++ suf) (startR (bytesPk p ++ suf))) = (p, ⟨((head.length + (encPk p).length : Nat) : Int), 0, 0⟩) := by
    rw [e]
    exact (congrArg _ hs).trans hp
  unfold getS
  rw [if_neg (by omega), hpk]
  have hend : endR (bytesPk p ++ suf) ⟨((head.length + (encPk p).length : Nat) : Int), 0, 0⟩ = if suf = [] then ⟨((head.length + (encPk p).length : Nat) : Int), 0, 0⟩ else ⟨((head.length + (encPk p).length : Nat) : Int), 73, ((head.length + (encPk p).length : Nat) : Int) + 4⟩ := by
    unfold endR
    rw [if_pos rfl, e]
    exact hu
  show (if (endR (bytesPk p ++ suf) ⟨((head.length + (encPk p).length : Nat) : Int), 0, 0⟩).err = 0 then (p, 0, 0) else (noPk, (endR (bytesPk p ++ suf) ⟨((head.length + (encPk p).length : Nat) : Int), 0, 0⟩).bad, (endR (bytesPk p ++ suf) ⟨((head.length + (encPk p).length : Nat) : Int), 0, 0⟩).err)) = _
  rw [hend]
  by_cases h0 : suf = []
  · rw [if_pos h0, if_pos h0, if_pos rfl]
  · rw [if_neg h0, if_neg h0, if_neg (show ¬ (73 : Int) = 0 by decide)]
    have hb : (bytesPk p).length = head.length + (encPk p).length + 4 := by
      unfold bytesPk
      rw [List.length_append, List.length_append]; rfl
    rw [hb]
    rfl
end Go.Proofs.Ytpbdkkahodaloaa.L
end

section
set_option linter.unusedVariables false
set_option linter.unusedSimpArgs false
namespace Go.Proofs.Ytpbdkkahodaloaa.L
open Go.RowKit Go.Proofs.Ytpbdkkahodaloaa.U Go.Proofs.Ytpbdkkahodaloaa.V Go.Proofs.Ytpbdkkahodaloaa.PS Go.Proofs.YtpbdkkahodaloaaW.PrintWords Go.Proofs.YtpbdkkahodaloaaW.PrintMore
theorem by_nil : V.bytes [] := fun c h => by cases h
theorem by_app {a b : List Int} (ha : V.bytes a) (hb : V.bytes b) : V.bytes (a ++ b) := fun c h => (List.mem_append.1 h).elim (ha c) (hb c)
theorem by_one {x : Int} (h : 0 ≤ x ∧ x ≤ 255) : V.bytes [x] := fun c hc => by rw [List.mem_singleton.1 hc]; exact h
theorem by_flat {α : Type} {enc : α → List Int} (l : List α) (h : ∀ x ∈ l, V.bytes (enc x)) : V.bytes (l.flatMap enc) := fun c hc => by
  obtain ⟨x, hx, hc⟩ := List.mem_flatMap.1 hc
  exact h x hx c hc
theorem by_seven (n : Nat) : V.bytes (seven n) := by
  induction n using Nat.strongRecOn with
  | ind n ih =>
    unfold seven
    split
    · exact by_one (by omega)
    · exact by_app (a := [_]) (by_one (by omega)) (ih _ (by omega))
theorem by_text (s : ByteArray) : V.bytes (encText s) := by_app (by_seven _) (fun c hc => by
  unfold U.bytesOf at hc
  obtain ⟨x, _, rfl⟩ := List.mem_map.1 hc
  have := x.toNat_lt
  omega)
theorem by_int (n : Int) : V.bytes (encInt n) := by_seven _
theorem by_flag (b : Bool) : V.bytes (encFlag b) := by cases b <;> exact by_one (by decide)
theorem by_list {α : Type} {enc : α → List Int} (l : List α) (h : ∀ x ∈ l, V.bytes (enc x)) : V.bytes (encList enc l) := by_app (by_seven _) (by_flat l h)
theorem by_opt (n : Int) : V.bytes (encOpt n) := by
  unfold encOpt; split
  · exact by_nil
  · exact by_int n
theorem by_expr : ∀ (f : Nat) (x : S80), V.bytes (encE f x)
  | 0, x => by_nil
  | f + 1, x => by
    have h := (says_all x).1
    have hen : encE (f + 1) x = encInt x.f0 ++ ([saysOf x] ++ (encOpt x.f1 ++ (encOpt x.f2 ++ (encOpt x.f3 ++ (if x.f4.length = 0 then [] else encList (encE f) x.f4))))) := by rw [encE]
    rw [hen]
    refine by_app (by_int _) (by_app (by_one (by omega)) (by_app (by_opt _) (by_app (by_opt _) (by_app (by_opt _) ?_))))
    split
    · exact by_nil
    · exact by_list _ (fun y _ => by_expr f y)
theorem by_band (x : S74) : V.bytes (encBand x) := by_app (by_int _) (by_int _)
theorem by_clause (x : S100) : V.bytes (encClause x) := by_app (by_int _) (by_app (by_flag _) (by_app (by_expr _ _) (by_expr _ _)))
theorem by_pack (p : Pk) : V.bytes (encPk p) := by
  refine by_app (by_text _) (by_app (by_int _) (by_app (by_list _ fun x _ => ?_) (by_app (by_list _ fun x _ => ?_) (by_app (by_list _ fun x _ => ?_) (by_app (by_list _ fun x _ => ?_) (by_list _ fun x _ => ?_))))))
  · exact by_app (by_text _) (by_list _ fun y _ => by_text y)
  · exact by_app (by_text _) (by_list _ fun y _ => by_band y)
  · exact by_app (by_text _) (by_int _)
  · exact by_app (by_text _) (by_app (by_flag _) (by_app (by_flag _) (by_app (by_int _) (by_app (by_int _) (by_app (by_int _) (by_list _ fun y _ => by_clause y))))))
  · exact by_app (by_text _) (by_app (by_flag _) (by_app (by_int _) (by_app (by_expr _ _) (by_text _))))
theorem by_put (p : Pk) : V.bytes (bytesPk p) := by
  refine by_app (by_app ?_ (by_pack p)) ?_
  · intro c hc
    have : c = 76 ∨ c = 86 ∨ c = 89 ∨ c = 49 := by simpa [head] using hc
    omega
  · rw [sum4_byt]
    have h : ∀ (n : Int) (i : Nat), 0 ≤ byt4 n i ∧ byt4 n i ≤ 255 := by
      intro n i
      unfold byt4
      split <;> omega
    intro c hc
    simp only [List.mem_cons, List.not_mem_nil, or_false] at hc
    rcases hc with rfl | rfl | rfl | rfl <;> exact h _ _
theorem put_inj (p q : Pk) (op : okPk p) (oq : okPk q) (dp : deepPk p = false) (dq : deepPk q = false) (hn : (bytesPk p).length ≤ 131072) (h : bytesPk p = bytesPk q) : p = q := by
  have a := get_put p op dp [] (by rw [List.append_nil]; exact hn)
  have b := get_put q oq dq [] (by rw [List.append_nil, ← h]; exact hn)
  rw [h] at a
  rw [a, if_pos rfl, if_pos rfl] at b
  exact congrArg Prod.fst b
end Go.Proofs.Ytpbdkkahodaloaa.L
end

section
set_option linter.unusedVariables false
set_option linter.unusedSimpArgs false
namespace Go.Proofs.Ytpbdkkahodaloaa.L
open Go.RowKit Go.Proofs.Ytpbdkkahodaloaa.U Go.Proofs.Ytpbdkkahodaloaa.V Go.Proofs.Ytpbdkkahodaloaa.PS Go.Proofs.YtpbdkkahodaloaaW.PrintWords Go.Proofs.YtpbdkkahodaloaaW.PrintMore
def Wrt {α : Type} (R : List Int → R3 → α × R3) (enc : α → List Int) (P : α → Prop) : Prop :=
  ∀ (pre rest : List Int), V.bytes (pre ++ rest) → (R (pre ++ rest) ⟨pre.length, 0, 0⟩).2.err = 0 →
    ∃ suf, rest = enc (R (pre ++ rest) ⟨pre.length, 0, 0⟩).1 ++ suf ∧ (R (pre ++ rest) ⟨pre.length, 0, 0⟩).2 = ⟨((pre ++ enc (R (pre ++ rest) ⟨pre.length, 0, 0⟩).1).length : Nat), 0, 0⟩ ∧ P (R (pre ++ rest) ⟨pre.length, 0, 0⟩).1
theorem Wrt.bind {α β γ : Type} {R1 : List Int → R3 → α × R3} {R2 : α → List Int → R3 → β × R3} {f : α → β → γ} {e1 : α → List Int} {e2 : α → β → List Int} {P1 : α → Prop} {P2 : α → β → Prop} {e : γ → List Int} {P : γ → Prop}
    (h1 : Wrt R1 e1 P1) (h2 : ∀ a, P1 a → Wrt (R2 a) (e2 a) (P2 a)) (hs : ∀ a, Sticky (R2 a)) (he : ∀ a b, P1 a → P2 a b → e (f a b) = e1 a ++ e2 a b) (hP : ∀ a b, P1 a → P2 a b → P (f a b)) : Wrt (bindR R1 R2 f) e P := by
  intro pre rest hb h0
  have h01 : (R1 (pre ++ rest) ⟨pre.length, 0, 0⟩).2.err = 0 := by
    by_cases h : (R1 (pre ++ rest) ⟨pre.length, 0, 0⟩).2.err = 0
    · exact h
    · have := (hs (R1 (pre ++ rest) ⟨pre.length, 0, 0⟩).1 (pre ++ rest) (R1 (pre ++ rest) ⟨pre.length, 0, 0⟩).2 h).1
      have h0 : (R2 (R1 (pre ++ rest) ⟨pre.length, 0, 0⟩).1 (pre ++ rest) (R1 (pre ++ rest) ⟨pre.length, 0, 0⟩).2).2.err = 0 := h0
      rw [this] at h0
      exact absurd h0 h
  obtain ⟨suf, hr, hst, hp1⟩ := h1 pre rest hb h01
  obtain ⟨a, ha⟩ : ∃ a, (R1 (pre ++ rest) ⟨pre.length, 0, 0⟩).1 = a := ⟨_, rfl⟩
  rw [ha] at hr hst hp1
  have hR1 : R1 (pre ++ rest) ⟨pre.length, 0, 0⟩ = (a, ⟨((pre ++ e1 a).length : Nat), 0, 0⟩) := Prod.ext ha hst
  have hpr : pre ++ rest = (pre ++ e1 a) ++ suf := by rw [hr, List.append_assoc]
  have h02 : (R2 a ((pre ++ e1 a) ++ suf) ⟨((pre ++ e1 a).length : Nat), 0, 0⟩).2.err = 0 := by
    have h0 : (R2 (R1 (pre ++ rest) ⟨pre.length, 0, 0⟩).1 (pre ++ rest) (R1 (pre ++ rest) ⟨pre.length, 0, 0⟩).2).2.err = 0 := h0
    rw [hR1] at h0
    rw [← hpr]
    exact h0
  obtain ⟨suf2, hr2, hst2, hp2⟩ := h2 a hp1 (pre ++ e1 a) suf (by rw [← hpr]; exact hb) h02
  obtain ⟨c, hc⟩ : ∃ c, (R2 a ((pre ++ e1 a) ++ suf) ⟨((pre ++ e1 a).length : Nat), 0, 0⟩).1 = c := ⟨_, rfl⟩
  rw [hc] at hr2 hst2 hp2
  have hB : bindR R1 R2 f (pre ++ rest) ⟨pre.length, 0, 0⟩ = (f a c, ⟨(((pre ++ e1 a) ++ e2 a c).length : Nat), 0, 0⟩) := by
    unfold bindR
    rw [hR1]
    show (f a (R2 a (pre ++ rest) ⟨((pre ++ e1 a).length : Nat), 0, 0⟩).1, (R2 a (pre ++ rest) ⟨((pre ++ e1 a).length : Nat), 0, 0⟩).2) = _
    rw [hpr, hc, hst2]
  rw [hB]
  refine ⟨suf2, ?_, ?_, hP a c hp1 hp2⟩
  · show rest = e (f a c) ++ suf2
    rw [he a c hp1 hp2, hr, hr2, List.append_assoc]
  · show (⟨(((pre ++ e1 a) ++ e2 a c).length : Nat), 0, 0⟩ : R3) = ⟨((pre ++ e (f a c)).length : Nat), 0, 0⟩
    rw [he a c hp1 hp2, List.append_assoc]
end Go.Proofs.Ytpbdkkahodaloaa.L
end

section
set_option linter.unusedVariables false
set_option linter.unusedSimpArgs false
namespace Go.Proofs.Ytpbdkkahodaloaa.L
open Go.RowKit Go.Proofs.Ytpbdkkahodaloaa.U Go.Proofs.Ytpbdkkahodaloaa.V Go.Proofs.Ytpbdkkahodaloaa.PS Go.Proofs.YtpbdkkahodaloaaW.PrintWords Go.Proofs.YtpbdkkahodaloaaW.PrintMore
theorem Wrt.map {α β : Type} {R : List Int → R3 → α × R3} {enc : α → List Int} {P : α → Prop} {g : α → β} {enc' : β → List Int} {P' : β → Prop} (h : Wrt R enc P) (he : ∀ x, P x → enc' (g x) = enc x) (hP : ∀ x, P x → P' (g x)) : Wrt (fun b s => (g (R b s).1, (R b s).2)) enc' P' := by
  intro pre rest hb h0
  obtain ⟨suf, hr, hst, hp⟩ := h pre rest hb h0
  refine ⟨suf, ?_, ?_, hP _ hp⟩
  · show rest = enc' (g (R (pre ++ rest) ⟨pre.length, 0, 0⟩).1) ++ suf
    rw [he _ hp]; exact hr
  · show (R (pre ++ rest) ⟨pre.length, 0, 0⟩).2 = ⟨((pre ++ enc' (g (R (pre ++ rest) ⟨pre.length, 0, 0⟩).1)).length : Nat), 0, 0⟩
    rw [he _ hp]; exact hst
end Go.Proofs.Ytpbdkkahodaloaa.L
end

section
set_option linter.unusedVariables false
set_option linter.unusedSimpArgs false
namespace Go.Proofs.Ytpbdkkahodaloaa.L
open Go.RowKit Go.Proofs.Ytpbdkkahodaloaa.U Go.Proofs.Ytpbdkkahodaloaa.V Go.Proofs.Ytpbdkkahodaloaa.PS Go.Proofs.YtpbdkkahodaloaaW.PrintWords Go.Proofs.YtpbdkkahodaloaaW.PrintMore
theorem Wrt.seq {α β γ : Type} {R1 : List Int → R3 → α × R3} {R2 : List Int → R3 → β × R3} {f : α → β → γ} {e1 : α → List Int} {e2 : β → List Int} {P1 : α → Prop} {P2 : β → Prop} {e : γ → List Int} {P : γ → Prop}
    (h1 : Wrt R1 e1 P1) (h2 : Wrt R2 e2 P2) (hs : Sticky R2) (he : ∀ a b, P1 a → P2 b → e (f a b) = e1 a ++ e2 b) (hP : ∀ a b, P1 a → P2 b → P (f a b)) : Wrt (seqR R1 R2 f) e P :=
  Wrt.bind (R2 := fun _ => R2) (e2 := fun _ b => e2 b) (P2 := fun _ b => P2 b) h1 (fun _ _ => h2) (fun _ => hs) he hP
end Go.Proofs.Ytpbdkkahodaloaa.L
end

section
set_option linter.unusedVariables false
set_option linter.unusedSimpArgs false
namespace Go.Proofs.Ytpbdkkahodaloaa.L
open Go.RowKit Go.Proofs.Ytpbdkkahodaloaa.U Go.Proofs.Ytpbdkkahodaloaa.V Go.Proofs.Ytpbdkkahodaloaa.PS Go.Proofs.YtpbdkkahodaloaaW.PrintWords Go.Proofs.YtpbdkkahodaloaaW.PrintMore
abbrev Q4 : Type := Int × Int × Int × List S80
end Go.Proofs.Ytpbdkkahodaloaa.L
end

section
namespace Go.Proofs.Ytpbdkkahodaloaa.T
open Go.RowKit Go.Proofs.Ytpbdkkahodaloaa.PS Go.Proofs.Ytpbdkkahodaloaa.U Go.Proofs.Ytpbdkkahodaloaa.V Go.Proofs.Ytpbdkkahodaloaa.L Go.Proofs.YtpbdkkahodaloaaW.PrintWords Go.Proofs.YtpbdkkahodaloaaW.PrintMore
set_option linter.unusedVariables false
set_option maxRecDepth 100000
theorem put_c {w : World} {u : Value} {p : Pk} (hp : Lies w u p) (ok : okPk p) (hl : (head ++ encPk p).length + 4 ≤ LIM) : Calls Try.prog 17 #[u] w fun e w' => ∃ A c, e = .returned (.tuple #[.slice A (putS p).1.length c, .int .i64 (putS p).2]) ∧ (putS p).1.length ≤ c ∧ Kd.C (Kd.int .u8) w' A (putS p).1.length (putS p).1 ∧ Below w.heap.size w w' := by
  obtain ⟨A2, c2, A3, c3, A4, c4, A5, c5, A6, c6, rfl, h2, h3, h4, h5, h6, _⟩ := hp
  refine (put_walk p A2 c2 A3 c3 A4 c4 A5 c5 A6 c6 w h2 h3 h4 h5 h6 ok hl).mono ?_
  rintro e w' ⟨v, rfl, hv, hb⟩
  obtain ⟨A, c, rfl, hc, hC⟩ := Kd.R_reads hv
  exact ⟨A, c, rfl, hc, hC, hb⟩
theorem get_c {w : World} {A : Option Addr} {c : Nat} {b : List Int} (hC : Kd.C (Kd.int .u8) w A b.length b) (hc : b.length ≤ c) (hb : V.bytes b) : Calls Try.prog 24 #[.slice A b.length c] w fun e w' => ∃ u, e = .returned (.tuple #[u, .int .i64 (getS b).2.1, .int .i64 (getS b).2.2]) ∧ Lies w' u (getS b).1 ∧ Below w.heap.size w w' := by
  refine (get_walk b A c w hC hc hb).mono ?_
  rintro e w' ⟨v2, v3, v4, v5, v6, rfl, h2, h3, h4, h5, h6, hb⟩
  obtain ⟨A2, c2, rfl, l2, g2⟩ := Kd.R_reads h2
  obtain ⟨A3, c3, rfl, l3, g3⟩ := Kd.R_reads h3
  obtain ⟨A4, c4, rfl, l4, g4⟩ := Kd.R_reads h4
  obtain ⟨A5, c5, rfl, l5, g5⟩ := Kd.R_reads h5
  obtain ⟨A6, c6, rfl, l6, g6⟩ := Kd.R_reads h6
  exact ⟨_, rfl, ⟨A2, c2, A3, c3, A4, c4, A5, c5, A6, c6, rfl, g2, g3, g4, g5, g6, l2, l3, l4, l5, l6⟩, hb⟩
theorem put_as {w : World} {u : Value} {p : Pk} {ys : List Int} {er : Int} {n : Nat} (h : putS p = (ys, er)) (hn : ys.length = n) (hp : Lies w u p) (ok : okPk p) (hl : (head ++ encPk p).length + 4 ≤ LIM) : Calls Try.prog 17 #[u] w fun e w' => ∃ A c, e = .returned (.tuple #[.slice A n c, .int .i64 er]) ∧ n ≤ c ∧ Kd.C (Kd.int .u8) w' A n ys ∧ Below w.heap.size w w' := by
  have k := put_c hp ok hl
  rw [h] at k
  subst hn
  exact k
theorem get_as {w : World} {A : Option Addr} {n c : Nat} {b : List Int} {p : Pk} {at_ er : Int} (h : getS b = (p, at_, er)) (hn : b.length = n) (hC : Kd.C (Kd.int .u8) w A n b) (hc : n ≤ c) (hb : V.bytes b) : Calls Try.prog 24 #[.slice A n c] w fun e w' => ∃ A2 c2 A3 c3 A4 c4 A5 c5 A6 c6, e = .returned (.tuple #[.agg #[.string p.name, .int .i64 p.year, .slice A2 p.options.length c2, .slice A3 p.tables.length c3, .slice A4 p.groups.length c4, .slice A5 p.lines.length c5, .slice A6 p.checks.length c6], .int .i64 at_, .int .i64 er]) ∧
    Lies w' (.agg #[.string p.name, .int .i64 p.year, .slice A2 p.options.length c2, .slice A3 p.tables.length c3, .slice A4 p.groups.length c4, .slice A5 p.lines.length c5, .slice A6 p.checks.length c6]) p ∧ Below w.heap.size w w' := by
  subst hn
  refine (get_c hC hc hb).mono ?_
  rintro e w' ⟨u, rfl, hL, hB⟩
  rw [h] at hL ⊢
  have hL2 := hL
  obtain ⟨A2, c2, A3, c3, A4, c4, A5, c5, A6, c6, rfl, _⟩ := hL
  exact ⟨A2, c2, A3, c3, A4, c4, A5, c5, A6, c6, rfl, hL2, hB⟩
theorem get_no {w : World} {A : Option Addr} {n c : Nat} {b : List Int} {at_ er : Int} (h : getS b = (noPk, at_, er)) (hn : b.length = n) (hC : Kd.C (Kd.int .u8) w A n b) (hc : n ≤ c) (hb : V.bytes b) : Calls Try.prog 24 #[.slice A n c] w fun e w' => ∃ A2 c2 A3 c3 A4 c4 A5 c5 A6 c6, e = .returned (.tuple #[.agg #[.string ⟨#[]⟩, .int .i64 0, .slice A2 0 c2, .slice A3 0 c3, .slice A4 0 c4, .slice A5 0 c5, .slice A6 0 c6], .int .i64 at_, .int .i64 er]) ∧
    Lies w' (.agg #[.string ⟨#[]⟩, .int .i64 0, .slice A2 0 c2, .slice A3 0 c3, .slice A4 0 c4, .slice A5 0 c5, .slice A6 0 c6]) noPk ∧ Below w.heap.size w w' := get_as h hn hC hc hb
theorem num_c (n : Int) (w : World) : Calls Try.prog 18 #[.int .i64 n] w fun e w' => e = .returned (.int .i64 n) ∧ Drawn0 w w' := levylaw7_num.calls n n w rfl
theorem nums_text : ∀ {a b : List Int}, V.bytes a → V.bytes b → ((strOfNums a).toList == (strOfNums b).toList) = decide (a = b) := by
  intro a b ha hb
  have e1 : ∀ l : List Int, (strOfNums l).toList = l.map (fun n => UInt8.ofNat n.toNat) := fun l => (ByteArray.toList_eq _).trans rfl
  rw [e1, e1]
  have key : ∀ (a b : List Int), V.bytes a → V.bytes b → (a.map (fun n => UInt8.ofNat n.toNat) = b.map (fun n => UInt8.ofNat n.toNat) ↔ a = b) := by
    intro a
    induction a with
    | nil => intro b _ _; cases b <;> simp
    | cons x a ih =>
      intro b ha hb
      cases b with
      | nil => simp
      | cons y b =>
        have hx : 0 ≤ x ∧ x ≤ 255 := ha x (by simp)
        have hy : 0 ≤ y ∧ y ≤ 255 := hb y (by simp)
        rw [List.map_cons, List.map_cons, List.cons.injEq, List.cons.injEq, ih b (fun z hz => ha z (by simp [hz])) (fun z hz => hb z (by simp [hz]))]
        refine and_congr ?_ Iff.rfl
        constructor
        · intro h
          have := congrArg UInt8.toNat h
          simp only [UInt8.toNat_ofNat'] at this
          omega
        · rintro rfl; rfl
  by_cases h : a = b
  · subst h; simp
  · rw [decide_eq_false h]
    exact beq_eq_false_iff_ne.2 fun e => h ((key a b ha hb).1 e)
theorem same_bytes {w : World} {A B : Option Addr} {c d : Nat} {a b : List Int} (ha : Kd.C (Kd.int .u8) w A a.length a) (hc : a.length ≤ c) (hb : Kd.C (Kd.int .u8) w B b.length b) (hd : b.length ≤ d) (h1 : V.bytes a) (h2 : V.bytes b) :
    Calls Try.prog 19 #[.slice A a.length c, .slice B b.length d] w fun e w' => e = .returned (.bool (decide (a = b))) ∧ Drawn0 w w' :=
  levylaw7_same.calls A c a B d b (decide (a = b)) w ha hc hb hd (by unfold levylaw7_same.f; rw [nums_text h1 h2])
theorem okNo : okPk noPk := ⟨⟨by decide, by decide⟩, (fun _ h => by cases h), (fun _ h => by cases h), (fun _ h => by cases h), (fun _ h => by cases h)⟩
theorem lies_no (w : World) : Lies w (.agg #[.string ⟨#[]⟩, .int .i64 0, .slice none 0 0, .slice none 0 0, .slice none 0 0, .slice none 0 0, .slice none 0 0]) noPk :=
  ⟨none, 0, none, 0, none, 0, none, 0, none, 0, rfl, ⟨rfl, by decide, fun h => absurd h (by decide)⟩, ⟨rfl, by decide, fun h => absurd h (by decide)⟩, ⟨rfl, by decide, fun h => absurd h (by decide)⟩, ⟨rfl, by decide, fun h => absurd h (by decide)⟩, ⟨rfl, by decide, fun h => absurd h (by decide)⟩, by decide, by decide, by decide, by decide, by decide⟩
theorem encNo : encPk noPk = [0, 0, 0, 0, 0, 0, 0] := by
  have z : seven 0 = [0] := by rw [seven_low (by decide)]; rfl
  have e1 : encText (⟨#[]⟩ : ByteArray) = [0] := by unfold encText; rw [show (⟨#[]⟩ : ByteArray).size = 0 from rfl, z]; rfl
  have e2 : encInt 0 = [0] := by unfold encInt; rw [show zig 0 = 0 by decide, z]
  unfold encPk noPk
  simp only [e1, e2]
  unfold encList
  simp [z]
theorem bytesNo : bytesPk noPk = [76, 86, 89, 49, 0, 0, 0, 0, 0, 0, 0] ++ sum4 (sumI 2166136261 [76, 86, 89, 49, 0, 0, 0, 0, 0, 0, 0]) := by
  unfold bytesPk
  rw [encNo]; rfl
theorem lenNo : (bytesPk noPk).length = 15 := by rw [bytesNo, List.length_append]; rfl
theorem putNo : putS noPk = (bytesPk noPk, 0) := by
  unfold putS
  rw [if_neg]
  rw [lenNo]
  simp [deepPk, noPk]
theorem getNo : getS (bytesPk noPk) = (noPk, 0, 0) := by
  have h := get_put noPk okNo (by rfl) [] (by rw [List.append_nil, lenNo]; decide)
  rw [List.append_nil, if_pos rfl] at h
  exact h
theorem getOdd : getS [76, 86, 89, 49, 128, 0] = (noPk, 4, 71) := by kernel_rfl
end Go.Proofs.Ytpbdkkahodaloaa.T
end

section
namespace Go.Proofs.Ytpbdkkahodaloaa.T
open Go.RowKit Go.Proofs.Ytpbdkkahodaloaa.PS Go.Proofs.Ytpbdkkahodaloaa.U Go.Proofs.Ytpbdkkahodaloaa.V Go.Proofs.Ytpbdkkahodaloaa.L Go.Proofs.YtpbdkkahodaloaaW.PrintWords Go.Proofs.YtpbdkkahodaloaaW.PrintMore
set_option linter.unusedVariables false
set_option maxRecDepth 100000
def TruePost (w : World) (e : Ending) (w' : World) : Prop := e = .returned (.bool true) ∧ Below w.heap.size w w'
theorem lit_C (w : World) (cs : Array Value) (t : TypeId) (fr : Nat × Nat) (l : List Int) (h : cs.toList = nums .u8 l) (hl : l.length ≤ 9223372036854775807) : Kd.C (Kd.int .u8) (w.alloc (.cells cs t fr)) (some ⟨w.heap.size, 0, none⟩) l.length l := by
  refine ⟨rfl, hl, fun _ => ⟨_, rfl, fun j p hj => ⟨[.int .u8 p], rfl, rfl, fun i u hu => ?_⟩⟩⟩
  match i, hu with
  | 0, hu =>
    have hu : some (Value.int .u8 p) = some u := hu
    rw [← hu]
    show (w.alloc (.cells cs t fr)).cell? ((⟨w.heap.size, 0, none⟩ : Addr).add (j * 1 + 0)) = _
    rw [Nat.mul_one, Nat.add_zero]
    exact World.news_of_block (heap_alloc_new w _) j _ (by rw [h]; simp [nums, hj])
  | i + 1, hu => simp at hu
theorem cut_bytes {A : Option Addr} {n c : Nat} (m : Nat) (hm : m ≤ n) (hc : n ≤ c) : ∀ W, (Instr.slice 23 (.slice A n c) none (some (.int .i64 (m : Int))) none).run Try.prog W = .ok (.slice A m c) W := by
  obtain ⟨i0, hi0, hz0, hz1, hz2⟩ := info_parts U.info5'
  exact cut_to 23 5 .i64 Try.underlying23 hi0 A n c (m : Int) (by omega) (by omega) hc
def lit11 : List Int := [76, 86, 89, 49, 0, 0, 0, 0, 0, 0, 0]
theorem by_lit11 : V.bytes lit11 := by unfold V.bytes lit11; decide
def lit6 : List Int := [76, 86, 89, 49, 128, 0]
theorem by_lit6 : V.bytes lit6 := by unfold V.bytes lit6; decide
theorem c_lit11 {w : World} {A : Option Addr} {ys : List Int} (hC : Kd.C (Kd.int .u8) w A 15 ys) (hl : ys.length = 15) (ht : ys.take 11 = lit11) (o : Obj) : Kd.C (Kd.int .u8) (w.alloc o) A lit11.length lit11 := by
  have h := Kd.C_alloc (Kd.C_take (m := 11) (xs := ys) (by rw [hl]; exact hC) (by rw [hl]; omega)) o
  rwa [ht] at h
theorem c_lit6 (w : World) (o : Obj) : Kd.C (Kd.int .u8) ((w.alloc o).alloc (.cells #[.int .u8 76, .int .u8 86, .int .u8 89, .int .u8 49, .int .u8 128, .int .u8 0] 5)) (some ⟨w.heap.size + 1, 0, none⟩) lit6.length lit6 := by
  have h := lit_C (w.alloc o) #[.int .u8 76, .int .u8 86, .int .u8 89, .int .u8 49, .int .u8 128, .int .u8 0] 5 (0, 0) lit6 rfl (by decide)
  rwa [World.size_alloc] at h
theorem same_lit {w : World} {A B : Option Addr} {c d : Nat} (a : List Int) (ha : Kd.C (Kd.int .u8) w A a.length a) (hc : a.length ≤ c) (hb : Kd.C (Kd.int .u8) w B a.length a) (hd : a.length ≤ d) (h1 : V.bytes a) :
    Calls Try.prog 19 #[.slice A a.length c, .slice B a.length d] w fun e w' => e = .returned (.bool true) ∧ Drawn0 w w' := by
  have h := same_bytes ha hc hb hd h1 h1
  rwa [decide_eq_true rfl] at h
theorem cells7 {w : World} {g : Nat} {v0 v1 v2 v3 v4 v5 v6 : Value} {t : TypeId} (h : w.heap[g]? = some (.cells #[v0, v1, v2, v3, v4, v5, v6] t (0, 0))) :
    w.cell? ⟨g, 0, none⟩ = some v0 ∧ w.cell? ⟨g, 1, none⟩ = some v1 ∧ w.cell? ⟨g, 2, none⟩ = some v2 ∧ w.cell? ⟨g, 3, none⟩ = some v3 ∧ w.cell? ⟨g, 4, none⟩ = some v4 ∧ w.cell? ⟨g, 5, none⟩ = some v5 ∧ w.cell? ⟨g, 6, none⟩ = some v6 :=
  ⟨(blk_cell h 0).trans rfl, (blk_cell h 1).trans rfl, (blk_cell h 2).trans rfl, (blk_cell h 3).trans rfl, (blk_cell h 4).trans rfl, (blk_cell h 5).trans rfl, (blk_cell h 6).trans rfl⟩
structure Seen (w s : World) (gp gq : Nat) (cs ds : Array Value) (u v : Value) (p q : Pk) : Prop where
  below : Below w.heap.size w s
  bp : s.heap[gp]? = some (.cells cs 33 (0, 0))
  bq : s.heap[gq]? = some (.cells ds 33 (0, 0))
  lp : Lies s u p
  lq : Lies s v q
theorem Seen.next {w s s2 : World} {gp gq : Nat} {cs ds : Array Value} {u v : Value} {p q : Pk} (h : Seen w s gp gq cs ds u v p q) (hb : Below s.heap.size s s2) : Seen w s2 gp gq cs ds u v p q :=
  ⟨below_then h.below h.below.size hb, blk_below h.bp hb, blk_below h.bq hb, h.lp.below hb, h.lq.below hb⟩
set_option maxHeartbeats 8000000 in
theorem known_c (w : World) : Calls Try.prog 25 #[] w (TruePost w) := by
  obtain ⟨ys, hys⟩ : ∃ ys, ys = bytesPk noPk := ⟨_, rfl⟩
  have hp : putS noPk = (ys, 0) := by rw [putNo, hys]
  have hl : ys.length = 15 := by rw [hys, lenNo]
  have ht : ys.take 11 = [76, 86, 89, 49, 0, 0, 0, 0, 0, 0, 0] := by rw [hys, bytesNo]; rfl
  have hg : getS ys = (noPk, 0, 0) := by rw [hys, getNo]
  have hb : V.bytes ys := by rw [hys]; exact by_put noPk
  have HP := Aside0.mk hp
  have HL := Aside0.mk hl
  have HT := Aside0.mk ht
  have HG := Aside0.mk hg
  have HBY := Aside0.mk hb
  clear hys hp hl ht hg hb
  go_enter Try.func25, Try.ntmps25
  go_wp2_with fail
  with_reducible refine (put_c (lies_no _) okNo (by rw [encNo]; decide)).mono ?_
  rw [HP.out]
  rintro e w1 ⟨A, c, rfl, hc, hC, hb⟩
  have HB1 := Aside0.mk hb
  have HC1 := Aside0.mk hC
  have HCAP := Aside0.mk hc
  clear hb hC hc
  dsimp only at HC1 HCAP
  rw [HL.out] at HC1 HCAP
  dsimp only
  rw [HL.out]
  go_wp2_with fail
  with_reducible refine (num_c 0 w1).mono ?_
  rintro e w2 ⟨rfl, ⟨⟨n2, rfl⟩⟩⟩
  have HB2 := Aside0.mk (pw_below_drewN HB1.out n2)
  have HC2 := Aside0.mk (Kd.C_drewN HC1.out n2)
  generalize w1.drewN n2 = w2 at HB2 HC2 ⊢
  have hcut : ∀ W, (Instr.slice 23 (.slice A 15 c) none (some (.int .i64 11)) none).run Try.prog W = .ok (.slice A 11 c) W := cut_bytes (A := A) 11 (by omega) HCAP.out
  have hk := same_lit (w := w2.alloc (.cells #[.int .u8 76, .int .u8 86, .int .u8 89, .int .u8 49, .int .u8 0, .int .u8 0, .int .u8 0, .int .u8 0, .int .u8 0, .int .u8 0, .int .u8 0] 5)) (A := A) (B := some ⟨w2.heap.size, 0, none⟩) (c := c) (d := 11) lit11 (c_lit11 HC2.out HL.out HT.out _) (by have := HCAP.out; show 11 ≤ c; omega) (lit_C w2 _ 5 (0, 0) lit11 rfl (by decide)) (by decide) by_lit11
  have HK := Aside0.mk hk
  clear hk
  go_wp2_with fail
  refine HK.out.mono ?_
  rintro e w3 ⟨rfl, ⟨⟨n3, rfl⟩⟩⟩
  have HB3 := Aside0.mk (pw_below_drewN (below_alloc HB2.out (.cells #[.int .u8 76, .int .u8 86, .int .u8 89, .int .u8 49, .int .u8 0, .int .u8 0, .int .u8 0, .int .u8 0, .int .u8 0, .int .u8 0, .int .u8 0] 5)) n3)
  have HC3 := Aside0.mk (Kd.C_drewN (Kd.C_alloc HC2.out (.cells #[.int .u8 76, .int .u8 86, .int .u8 89, .int .u8 49, .int .u8 0, .int .u8 0, .int .u8 0, .int .u8 0, .int .u8 0, .int .u8 0, .int .u8 0] 5)) n3)
  clear HK hcut
  generalize World.drewN _ n3 = w3 at HB3 HC3 ⊢
  go_wp2_with fail
  refine (get_no HG.out HL.out HC3.out HCAP.out HBY.out).mono ?_
  rintro e w4 ⟨A2, c2, A3, c3, A4, c4, A5, c5, A6, c6, rfl, hL, hb⟩
  have HB4 := Aside0.mk (below_then HB3.out HB3.out.size hb)
  have HL4 := Aside0.mk hL
  clear hL hb
  have hk := get_no (w := (w4.alloc (.cells #[.string ⟨#[]⟩, .int .i64 0, .slice A2 0 c2, .slice A3 0 c3, .slice A4 0 c4, .slice A5 0 c5, .slice A6 0 c6] 33)).alloc (.cells #[.int .u8 76, .int .u8 86, .int .u8 89, .int .u8 49, .int .u8 128, .int .u8 0] 5)) (A := some ⟨w4.heap.size + 1, 0, none⟩) (n := 6) (c := 6) (b := lit6) getOdd rfl (c_lit6 _ _) (by decide) by_lit6
  have HK := Aside0.mk hk
  have BX := Aside0.mk (blk_alloc (blk_new w4 (.cells #[.string ⟨#[]⟩, .int .i64 0, .slice A2 0 c2, .slice A3 0 c3, .slice A4 0 c4, .slice A5 0 c5, .slice A6 0 c6] 33)) (.cells #[.int .u8 76, .int .u8 86, .int .u8 89, .int .u8 49, .int .u8 128, .int .u8 0] 5))
  clear hk
  go_wp2_with fail
  refine HK.out.mono ?_
  rintro e w5 ⟨B2, d2, B3, d3, B4, d4, B5, d5, B6, d6, rfl, hL, hb⟩
  have hb5 := below_then (below_alloc (below_alloc (Below.refl w4.heap.size w4) _) _) (by rw [World.size_alloc, World.size_alloc]; omega) hb
  have HB5 := Aside0.mk (below_then HB4.out HB4.out.size hb5)
  have HP5 := Aside0.mk (HL4.out.below hb5)
  have HQ5 := Aside0.mk hL
  have P5 := Aside0.mk (blk_below BX.out hb)
  clear HK BX hb hb5 hL HL4 HC3
  generalize w4.heap.size = gp at P5 ⊢
  obtain ⟨s, hs⟩ : ∃ s, s = World.alloc w5 (.cells #[.string ⟨#[]⟩, .int .i64 0, .slice B2 0 d2, .slice B3 0 d3, .slice B4 0 d4, .slice B5 0 d5, .slice B6 0 d6] 33) := ⟨_, rfl⟩
  have HS : Aside0 (Seen w s gp w5.heap.size #[.string ⟨#[]⟩, .int .i64 0, .slice A2 0 c2, .slice A3 0 c3, .slice A4 0 c4, .slice A5 0 c5, .slice A6 0 c6] #[.string ⟨#[]⟩, .int .i64 0, .slice B2 0 d2, .slice B3 0 d3, .slice B4 0 d4, .slice B5 0 d5, .slice B6 0 d6] (.agg #[.string ⟨#[]⟩, .int .i64 0, .slice A2 0 c2, .slice A3 0 c3, .slice A4 0 c4, .slice A5 0 c5, .slice A6 0 c6]) (.agg #[.string ⟨#[]⟩, .int .i64 0, .slice B2 0 d2, .slice B3 0 d3, .slice B4 0 d4, .slice B5 0 d5, .slice B6 0 d6]) noPk noPk) := ⟨by rw [hs]; exact ⟨below_alloc HB5.out _, blk_alloc P5.out _, blk_new w5 _, HP5.out.below (below_alloc (Below.refl _ _) _), HQ5.out.below (below_alloc (Below.refl _ _) _)⟩⟩
  go_wp2_with fail
  rw [← hs]
  clear hs
  clear HB5 HP5 HQ5 P5
  generalize w5.heap.size = gq at HS ⊢
  with_reducible refine (num_c 0 s).mono ?_
  rintro e s1 ⟨rfl, hd⟩
  have HS1 := Aside0.mk (HS.out.next hd.below)
  clear hd
  obtain ⟨p0, p1, p2, p3, p4, p5, p6⟩ := cells7 HS1.out.bp
  go_wp2_with fail
  with_reducible refine (pack_same s1 _ _ noPk noPk HS1.out.lp (lies_no _)).mono ?_
  rintro e s2 ⟨v, rfl, hv, hb⟩
  have HS2 := Aside0.mk (HS1.out.next hb)
  obtain rfl : v = true := hv.2 rfl
  clear hv hb p0 p1 p2 p3 p4 p5 p6
  go_wp2_with fail
  with_reducible refine (num_c 71 s2).mono ?_
  rintro e s3 ⟨rfl, hd⟩
  have HS3 := Aside0.mk (HS2.out.next hd.below)
  clear hd
  obtain ⟨p0, p1, p2, p3, p4, p5, p6⟩ := cells7 HS3.out.bq
  go_wp2_with fail
  with_reducible refine (pack_same s3 _ _ noPk noPk HS3.out.lq (lies_no _)).mono ?_
  rintro e s4 ⟨v, rfl, hv, hb⟩
  have HS4 := Aside0.mk (HS3.out.next hb)
  obtain rfl : v = true := hv.2 rfl
  clear hv hb p0 p1 p2 p3 p4 p5 p6
  go_wp2_with fail
  obtain ⟨k, hk⟩ := sum_any [] (by decide)
  refine (pack_Sum.calls k none 0 [] 2166136261 s4 ⟨rfl, by decide, fun h => absurd h (by decide)⟩ (by decide) hk).mono ?_
  rintro e s5 ⟨rfl, ⟨⟨nd, rfl⟩⟩⟩
  have HE := Aside0.mk (pw_below_drewN HS4.out.below nd)
  generalize s4.drewN nd = s5 at HE ⊢
  clear hk
  go_wp2_with fail
  go_ret
  exact ⟨rfl, HE.out⟩
end Go.Proofs.Ytpbdkkahodaloaa.T
end

section
namespace Go.Proofs.Ytpbdkkahodaloaa.T
open Go.RowKit Go.Proofs.Ytpbdkkahodaloaa.PS Go.Proofs.Ytpbdkkahodaloaa.U Go.Proofs.Ytpbdkkahodaloaa.V Go.Proofs.Ytpbdkkahodaloaa.L Go.Proofs.YtpbdkkahodaloaaW.PrintWords Go.Proofs.YtpbdkkahodaloaaW.PrintMore
set_option linter.unusedVariables false
set_option maxRecDepth 100000
structure One (w s : World) (gp : Nat) (cs : Array Value) (u : Value) (p : Pk) : Prop where
  below : Below w.heap.size w s
  bp : s.heap[gp]? = some (.cells cs 33 (0, 0))
  lp : Lies s u p
theorem One.next {w s s2 : World} {gp : Nat} {cs : Array Value} {u : Value} {p : Pk} (h : One w s gp cs u p) (hb : Below s.heap.size s s2) : One w s2 gp cs u p := ⟨below_then h.below h.below.size hb, blk_below h.bp hb, h.lp.below hb⟩
end Go.Proofs.Ytpbdkkahodaloaa.T
end

section
namespace Go.Proofs.Ytpbdkkahodaloaa.T
open Go.RowKit Go.Proofs.Ytpbdkkahodaloaa.PS Go.Proofs.Ytpbdkkahodaloaa.U Go.Proofs.Ytpbdkkahodaloaa.V Go.Proofs.Ytpbdkkahodaloaa.L Go.Proofs.YtpbdkkahodaloaaW.PrintWords Go.Proofs.YtpbdkkahodaloaaW.PrintMore
set_option linter.unusedVariables false
set_option maxRecDepth 100000
theorem put_cases (p : Pk) : putS p = ([], 72) ∨ (putS p = (bytesPk p, 0) ∧ deepPk p = false ∧ (bytesPk p).length ≤ 131072) := by
  unfold putS
  by_cases h : deepPk p = true ∨ 131072 < (bytesPk p).length
  · rw [if_pos h]; exact .inl rfl
  · rw [if_neg h]
    refine .inr ⟨rfl, ?_, ?_⟩
    · cases hd : deepPk p with
      | true => exact absurd (.inl hd) h
      | false => rfl
    · exact Nat.le_of_not_lt fun x => h (.inr x)
theorem One.new {w : World} {u : Value} {cs : Array Value} {p : Pk} (h : Lies w u p) (hu : u = .agg cs) : One w (w.alloc (.cells cs 33)) w.heap.size cs u p := ⟨below_alloc (Below.refl _ _) _, blk_new w _, h.below (below_alloc (Below.refl _ _) _)⟩
end Go.Proofs.Ytpbdkkahodaloaa.T
end

section
namespace Go.Proofs.Ytpbdkkahodaloaa.T
open Go.RowKit Go.Proofs.Ytpbdkkahodaloaa.PS Go.Proofs.Ytpbdkkahodaloaa.U Go.Proofs.Ytpbdkkahodaloaa.V Go.Proofs.Ytpbdkkahodaloaa.L Go.Proofs.YtpbdkkahodaloaaW.PrintWords Go.Proofs.YtpbdkkahodaloaaW.PrintMore
set_option linter.unusedVariables false
set_option maxRecDepth 100000
theorem Seen.new {w : World} {u v : Value} {cs ds : Array Value} {p q : Pk} (hp : Lies w u p) (hq : Lies w v q) : Seen w ((w.alloc (.cells cs 33)).alloc (.cells ds 33)) w.heap.size (w.heap.size + 1) cs ds u v p q := by
  have hb : Below w.heap.size w ((w.alloc (.cells cs 33)).alloc (.cells ds 33)) := below_alloc (below_alloc (Below.refl _ _) _) _
  have h2 := blk_new (w.alloc (.cells cs 33)) (.cells ds 33)
  rw [World.size_alloc] at h2
  exact ⟨hb, blk_alloc (blk_new w _) _, h2, hp.below hb, hq.below hb⟩
set_option maxHeartbeats 8000000 in
theorem law_unlike (p q : Pk) (u v : Value) (w : World) (hp : Lies w u p) (hq : Lies w v q) (okp : okPk p) (okq : okPk q) (hlp : (head ++ encPk p).length + 4 ≤ LIM) (hlq : (head ++ encPk q).length + 4 ≤ LIM) : Calls Try.prog 9 #[u, v] w (TruePost w) := by
  have HL0 := hp
  have HM0 := hq
  obtain ⟨A2, c2, A3, c3, A4, c4, A5, c5, A6, c6, rfl, hrest⟩ := hp
  clear hrest
  obtain ⟨B2, d2, B3, d3, B4, d4, B5, d5, B6, d6, rfl, hrest⟩ := hq
  clear hrest
  have HS0 := Aside0.mk (Seen.new (cs := #[.string p.name, .int .i64 p.year, .slice A2 p.options.length c2, .slice A3 p.tables.length c3, .slice A4 p.groups.length c4, .slice A5 p.lines.length c5, .slice A6 p.checks.length c6]) (ds := #[.string q.name, .int .i64 q.year, .slice B2 q.options.length d2, .slice B3 q.tables.length d3, .slice B4 q.groups.length d4, .slice B5 q.lines.length d5, .slice B6 q.checks.length d6]) HL0 HM0)
  have HOK := Aside0.mk (And.intro okp okq)
  have HLIM := Aside0.mk (And.intro hlp hlq)
  clear HL0 HM0 okp okq hlp hlq
  go_enter Try.func9, Try.ntmps9
  go_wp2_with fail
  generalize World.alloc (World.alloc w _) _ = s at HS0 ⊢
  generalize w.heap.size + 1 = gq at HS0 ⊢
  generalize w.heap.size = gp at HS0 ⊢
  with_reducible refine (known_c s).mono ?_
  rintro e s1 ⟨rfl, hb⟩
  have HS1 := Aside0.mk (HS0.out.next hb)
  clear hb HS0
  obtain ⟨p0, p1, p2, p3, p4, p5, p6⟩ := cells7 HS1.out.bp
  go_wp2_with fail
  with_reducible refine (small_c s1 _ p HS1.out.lp).mono ?_
  rintro e s2 ⟨v, rfl, hb⟩
  have HS2 := Aside0.mk (HS1.out.next hb)
  clear hb p0 p1 p2 p3 p4 p5 p6 HS1
  cases v with
  | false =>
    go_wp2_with fail
    go_ret
    exact ⟨rfl, HS2.out.below⟩
  | true =>
  obtain ⟨q0, q1, q2, q3, q4, q5, q6⟩ := cells7 HS2.out.bq
  go_wp2_with fail
  with_reducible refine (small_c s2 _ q HS2.out.lq).mono ?_
  rintro e s3 ⟨v, rfl, hb⟩
  have HS3 := Aside0.mk (HS2.out.next hb)
  clear hb q0 q1 q2 q3 q4 q5 q6 HS2
  cases v with
  | false =>
    go_wp2_with fail
    go_ret
    exact ⟨rfl, HS3.out.below⟩
  | true =>
  obtain ⟨p0, p1, p2, p3, p4, p5, p6⟩ := cells7 HS3.out.bp
  obtain ⟨ys, ep, hpp⟩ : ∃ ys ep, putS p = (ys, ep) := ⟨_, _, rfl⟩
  obtain ⟨zs, eq, hqq⟩ : ∃ ys ep, putS q = (ys, ep) := ⟨_, _, rfl⟩
  have HPP := Aside0.mk hpp
  have HQQ := Aside0.mk hqq
  have HEE := Aside0.mk (show p = q → ep = eq from fun e => by subst e; rw [hpp] at hqq; exact congrArg Prod.snd hqq)
  have HEP := Aside0.mk (show ep = 72 ∨ (ep = 0 ∧ ys = bytesPk p ∧ deepPk p = false ∧ (bytesPk p).length ≤ 131072) from by
    rcases put_cases p with h | ⟨h, a, b⟩
    · rw [hpp] at h; exact .inl (congrArg Prod.snd h)
    · rw [hpp] at h; exact .inr ⟨congrArg Prod.snd h, congrArg Prod.fst h, a, b⟩)
  have HEQ := Aside0.mk (show eq = 72 ∨ (eq = 0 ∧ zs = bytesPk q ∧ deepPk q = false ∧ (bytesPk q).length ≤ 131072) from by
    rcases put_cases q with h | ⟨h, a, b⟩
    · rw [hqq] at h; exact .inl (congrArg Prod.snd h)
    · rw [hqq] at h; exact .inr ⟨congrArg Prod.snd h, congrArg Prod.fst h, a, b⟩)
  clear hpp hqq
  go_wp2_with fail
  with_reducible refine (put_as HPP.out rfl HS3.out.lp HOK.out.1 HLIM.out.1).mono ?_
  rintro e s4 ⟨D, d, rfl, hdc, hD, hb⟩
  have HS4 := Aside0.mk (HS3.out.next hb)
  have HD4 := Aside0.mk hD
  have HDC := Aside0.mk hdc
  clear hb hD hdc p0 p1 p2 p3 p4 p5 p6 HS3
  obtain ⟨q0, q1, q2, q3, q4, q5, q6⟩ := cells7 HS4.out.bq
  go_wp2_with fail
  with_reducible refine (put_as HQQ.out rfl HS4.out.lq HOK.out.2 HLIM.out.2).mono ?_
  rintro e s5 ⟨E, f, rfl, hdc, hD, hb⟩
  have HS5 := Aside0.mk (HS4.out.next hb)
  have HD5 := Aside0.mk (Kd.C_below HD4.out hb)
  have HE5 := Aside0.mk hD
  have HEC := Aside0.mk hdc
  clear hb hD hdc q0 q1 q2 q3 q4 q5 q6 HS4 HD4
  go_wp2_with fail
  with_reducible refine (num_c ep s5).mono ?_
  rintro e s6 ⟨rfl, hd⟩
  have HS6 := Aside0.mk (HS5.out.next hd.below)
  have HD6 := Aside0.mk (Kd.C_below HD5.out hd.below)
  have HE6 := Aside0.mk (Kd.C_below HE5.out hd.below)
  clear hd HS5 HD5 HE5
  rcases HEP.out with h | ⟨h, hys, hdp, hlp⟩
  · subst h
    obtain ⟨p0, p1, p2, p3, p4, p5, p6⟩ := cells7 HS6.out.bp
    obtain ⟨q0, q1, q2, q3, q4, q5, q6⟩ := cells7 HS6.out.bq
    go_wp2_with fail
    with_reducible refine (pack_same s6 _ _ p q HS6.out.lp HS6.out.lq).mono ?_
    rintro e s7 ⟨v, rfl, hv, hb⟩
    have HS7 := Aside0.mk (HS6.out.next hb)
    have HV := Aside0.mk hv
    clear hv hb p0 p1 p2 p3 p4 p5 p6 q0 q1 q2 q3 q4 q5 q6
    cases v with
    | false =>
      go_wp2_with fail
      go_ret
      exact ⟨rfl, HS7.out.below⟩
    | true =>
      obtain rfl := HEE.out (HV.out.1 (by trivial))
      go_wp2_with fail
      with_reducible refine (num_c 72 s7).mono ?_
      rintro e s8 ⟨rfl, hd⟩
      have HS8 := Aside0.mk (HS7.out.next hd.below)
      clear hd
      go_wp2_with fail
      with_reducible refine (num_c 72 s8).mono ?_
      rintro e s9 ⟨rfl, hd⟩
      have HS9 := Aside0.mk (HS8.out.next hd.below)
      clear hd
      go_wp2_with fail
      go_ret
      exact ⟨rfl, HS9.out.below⟩
  · subst h
    have HYS := Aside0.mk (And.intro hys (And.intro hdp hlp))
    clear hys hdp hlp
    go_wp2_with fail
    with_reducible refine (num_c eq s6).mono ?_
    rintro e s7 ⟨rfl, hd⟩
    have HS7 := Aside0.mk (HS6.out.next hd.below)
    have HD7 := Aside0.mk (Kd.C_below HD6.out hd.below)
    have HE7 := Aside0.mk (Kd.C_below HE6.out hd.below)
    clear hd HS6 HD6 HE6
    obtain ⟨p0, p1, p2, p3, p4, p5, p6⟩ := cells7 HS7.out.bp
    obtain ⟨q0, q1, q2, q3, q4, q5, q6⟩ := cells7 HS7.out.bq
    rcases HEQ.out with h | ⟨h, hzs, hdq, hlq⟩
    · subst h
      go_wp2_with fail
      with_reducible refine (pack_same s7 _ _ p q HS7.out.lp HS7.out.lq).mono ?_
      rintro e s8 ⟨v, rfl, hv, hb⟩
      have HS8 := Aside0.mk (HS7.out.next hb)
      have HV := Aside0.mk hv
      clear hv hb p0 p1 p2 p3 p4 p5 p6 q0 q1 q2 q3 q4 q5 q6
      cases v with
      | false =>
        go_wp2_with fail
        go_ret
        exact ⟨rfl, HS8.out.below⟩
      | true => exact absurd (HEE.out (HV.out.1 (by trivial))) (by decide)
    · subst h
      have HIFF := Aside0.mk (show ys = zs ↔ p = q from ⟨fun e => put_inj p q HOK.out.1 HOK.out.2 HYS.out.2.1 hdq HYS.out.2.2 (by rw [← HYS.out.1, ← hzs, e]), fun e => by rw [HYS.out.1, hzs, e]⟩)
      have HBY := Aside0.mk (And.intro (show V.bytes ys by rw [HYS.out.1]; exact by_put p) (show V.bytes zs by rw [hzs]; exact by_put q))
      clear hzs hdq hlq
      have CW1 := Aside0.mk (fun (W : World) (hW : Below s7.heap.size s7 W) => same_bytes (w := W) (Kd.C_below HD7.out hW) HDC.out (Kd.C_below HE7.out hW) HEC.out HBY.out.1 HBY.out.2)
      have CW2 := Aside0.mk (fun (W : World) (hW : Below s7.heap.size s7 W) => pack_same W _ _ p q (HS7.out.lp.below hW) (HS7.out.lq.below hW))
      have hdr : Below s7.heap.size s7 s7 := Below.refl _ _
      go_upto_region 9 with (fail)
      go_region_held3 (fun w' => w'.cell? ⟨gp, 0, none⟩ = some (.string p.name) ∧ w'.cell? ⟨gp, 1, none⟩ = some (.int .i64 p.year) ∧ w'.cell? ⟨gp, 2, none⟩ = some (.slice A2 p.options.length c2) ∧ w'.cell? ⟨gp, 3, none⟩ = some (.slice A3 p.tables.length c3) ∧ w'.cell? ⟨gp, 4, none⟩ = some (.slice A4 p.groups.length c4) ∧ w'.cell? ⟨gp, 5, none⟩ = some (.slice A5 p.lines.length c5) ∧ w'.cell? ⟨gp, 6, none⟩ = some (.slice A6 p.checks.length c6) ∧ w'.cell? ⟨gq, 0, none⟩ = some (.string q.name) ∧ w'.cell? ⟨gq, 1, none⟩ = some (.int .i64 q.year) ∧ w'.cell? ⟨gq, 2, none⟩ = some (.slice B2 q.options.length d2) ∧ w'.cell? ⟨gq, 3, none⟩ = some (.slice B3 q.tables.length d3) ∧ w'.cell? ⟨gq, 4, none⟩ = some (.slice B4 q.groups.length d4) ∧ w'.cell? ⟨gq, 5, none⟩ = some (.slice B5 q.lines.length d5) ∧ w'.cell? ⟨gq, 6, none⟩ = some (.slice B6 q.checks.length d6) ∧ Below s7.heap.size s7 w')
        (first | ((try go_split_ands); refine ⟨?_, ?_, ?_, ?_, ?_, ?_, ?_, ?_, ?_, ?_, ?_, ?_, ?_, ?_, ?_⟩ <;> (first | assumption | exact Below.refl _ _ | exact below_drew1 (by assumption) | exact below_drew (by assumption) | exact old_cell (by assumption) (by assumption) | exact below_then (by assumption) (Below.size (by assumption)) (by assumption) | go_keep)))
        (first | (go_at_call 19; refine (CW1.out _ (by first | assumption | exact below_drew (Below.refl _ _) | exact below_drew (by assumption) | exact below_then (below_drew (Below.refl _ _)) (Nat.le_refl _) (by assumption) | exact below_drew (below_then (below_drew (Below.refl _ _)) (Nat.le_refl _) (by assumption)))).mono ?_; rintro e w' ⟨rfl, hdn⟩; have hbn := hdn.below) | (go_at_call 20; refine (CW2.out _ (by first | assumption | exact below_drew (Below.refl _ _) | exact below_drew (by assumption) | exact below_then (below_drew (Below.refl _ _)) (Nat.le_refl _) (by assumption) | exact below_drew (below_then (below_drew (Below.refl _ _)) (Nat.le_refl _) (by assumption)))).mono ?_; rintro e w' ⟨v, rfl, hv, hbv⟩))
      have hm := below_then (below_drew (Below.refl s7.heap.size s7)) (Nat.le_refl _) hbn
      have HB9 := Aside0.mk (below_then HS7.out.below HS7.out.below.size (below_then hm hm.size hbv))
      have hE : (decide (ys = zs) == v) = true := by
        cases v with
        | true => rw [decide_eq_true (HIFF.out.2 (hv.1 rfl))]; rfl
        | false => rw [decide_eq_false (fun e => by have := hv.2 (HIFF.out.1 e); cases this)]; rfl
      clear hm hv hbv hbn hdn hdr
      go_wp2_with fail
      go_ret
      exact ⟨congrArg (fun b => Ending.returned (.bool b)) hE, HB9.out⟩
end Go.Proofs.Ytpbdkkahodaloaa.T
end

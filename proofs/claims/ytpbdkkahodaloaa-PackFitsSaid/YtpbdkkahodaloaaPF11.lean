-- Part 11 of the texts of the claim PF (wrote by programs: words of the kit's print.sh, printed functions; and my own texts; joined by wip/tools/pack.py).
import Derived.Test.YtpbdkkahodaloaaPF10
import Derived.Lib.SlBytesConst

section
namespace Go.Proofs.Ytpbdkkahodaloaa.U
open Go.RowKit Go.Lib Go.Proofs.Ytpbdkkahodaloaa.PS Go.Proofs.YtpbdkkahodaloaaW.PrintWords Go.Proofs.YtpbdkkahodaloaaW.PrintMore
set_option linter.unusedVariables false
set_option linter.unusedSimpArgs false
set_option maxRecDepth 100000
def encPk (p : Pk) : List Int := encText p.name ++ (encInt p.year ++ (encList encOptions p.options ++ (encList encTable p.tables ++ (encList encGroup p.groups ++ (encList encLine p.lines ++ encList encCheck p.checks)))))
def deepPk (p : Pk) : Bool := p.lines.any deepLine || p.checks.any deepCheck
def head : List Int := [76, 86, 89, 49]
structure okPk (p : Pk) : Prop where
  year : i64 p.year
  tables : ∀ x ∈ p.tables, okTable x
  groups : ∀ x ∈ p.groups, okGroup x
  lines : ∀ x ∈ p.lines, okLine x
  checks : ∀ x ∈ p.checks, okCheck x
theorem wr_start (w : World) (cs : Array Value) : Wr ((((w.alloc (.cells cs 33)).alloc (.cells #[.int .u8 76, .int .u8 86, .int .u8 89, .int .u8 49] 5 (4, 5))).alloc (.cells #[.slice (some ⟨w.heap.size + 1, 0, none⟩) 4 4, .bool false] 123)).alloc (.cells #[.pointer (some ⟨w.heap.size + 1 + 1, 0, none⟩)] 121)) w (w.heap.size + 1 + 1) (w.heap.size + 1) head false := by
  have b1 : ((((w.alloc (.cells cs 33)).alloc (.cells #[.int .u8 76, .int .u8 86, .int .u8 89, .int .u8 49] 5 (4, 5))).alloc (.cells #[.slice (some ⟨w.heap.size + 1, 0, none⟩) 4 4, .bool false] 123)).alloc (.cells #[.pointer (some ⟨w.heap.size + 1 + 1, 0, none⟩)] 121)).heap[w.heap.size + 1]? = some (.cells #[.int .u8 76, .int .u8 86, .int .u8 89, .int .u8 49] 5 (4, 5)) := by
    have := blk_alloc (blk_alloc (blk_new (w.alloc (.cells cs 33)) (.cells #[.int .u8 76, .int .u8 86, .int .u8 89, .int .u8 49] 5 (4, 5))) (.cells #[.slice (some ⟨w.heap.size + 1, 0, none⟩) 4 4, .bool false] 123)) (.cells #[.pointer (some ⟨w.heap.size + 1 + 1, 0, none⟩)] 121)
    rwa [World.size_alloc] at this
  have b2 : ((((w.alloc (.cells cs 33)).alloc (.cells #[.int .u8 76, .int .u8 86, .int .u8 89, .int .u8 49] 5 (4, 5))).alloc (.cells #[.slice (some ⟨w.heap.size + 1, 0, none⟩) 4 4, .bool false] 123)).alloc (.cells #[.pointer (some ⟨w.heap.size + 1 + 1, 0, none⟩)] 121)).heap[w.heap.size + 1 + 1]? = some (.cells #[.slice (some ⟨w.heap.size + 1, 0, none⟩) 4 4, .bool false] 123 (0, 0)) := by
    have := blk_alloc (blk_new ((w.alloc (.cells cs 33)).alloc (.cells #[.int .u8 76, .int .u8 86, .int .u8 89, .int .u8 49] 5 (4, 5))) (.cells #[.slice (some ⟨w.heap.size + 1, 0, none⟩) 4 4, .bool false] 123)) (.cells #[.pointer (some ⟨w.heap.size + 1 + 1, 0, none⟩)] 121)
    rwa [World.size_alloc, World.size_alloc] at this
  refine ⟨?_, by omega, by unfold LIM; decide, by omega, 4, b2, ⟨rfl, by omega, _, _, b1, by decide, by unfold maxLen; decide, rfl, rfl, .inr rfl⟩⟩
  have s1 : w.heap.size ≤ (w.alloc (.cells cs 33)).heap.size := by simp
  exact ((((Below.refl _ w).alloc (Nat.le_refl _) _).alloc s1 _).alloc (Nat.le_trans s1 (by simp)) _).alloc (Nat.le_trans s1 (by simp)) _
theorem caps_start (w : World) (cs : Array Value) (g : Nat) : w.heap.size + 1 + 1 = g → Cap ((((w.alloc (.cells cs 33)).alloc (.cells #[.int .u8 76, .int .u8 86, .int .u8 89, .int .u8 49] 5 (4, 5))).alloc (.cells #[.slice (some ⟨w.heap.size + 1, 0, none⟩) 4 4, .bool false] 123)).alloc (.cells #[.pointer (some ⟨w.heap.size + 1 + 1, 0, none⟩)] 121)) g (w.heap.size + 1) w.heap.size cs 33 ∧ Cap ((((w.alloc (.cells cs 33)).alloc (.cells #[.int .u8 76, .int .u8 86, .int .u8 89, .int .u8 49] 5 (4, 5))).alloc (.cells #[.slice (some ⟨w.heap.size + 1, 0, none⟩) 4 4, .bool false] 123)).alloc (.cells #[.pointer (some ⟨w.heap.size + 1 + 1, 0, none⟩)] 121)) g (w.heap.size + 1) (w.heap.size + 1 + 1 + 1) #[.pointer (some ⟨w.heap.size + 1 + 1, 0, none⟩)] 121 := by
  rintro rfl
  refine ⟨⟨blk_alloc (blk_alloc (blk_alloc (blk_new w _) _) _) _, by omega, by omega⟩, ⟨?_, by omega, by omega⟩⟩
  have := blk_new (((w.alloc (.cells cs 33)).alloc (.cells #[.int .u8 76, .int .u8 86, .int .u8 89, .int .u8 49] 5 (4, 5))).alloc (.cells #[.slice (some ⟨w.heap.size + 1, 0, none⟩) 4 4, .bool false] 123)) (.cells #[.pointer (some ⟨w.heap.size + 1 + 1, 0, none⟩)] 121)
  rwa [World.size_alloc, World.size_alloc, World.size_alloc] at this
theorem Own.C {w : World} {base r n c : Nat} {xs : List Int} (h : Own w base r n c (nums .u8 xs)) (hn : xs.length = n) (hmax : n ≤ 9223372036854775807) : Kd.C (Kd.int .u8) w (some ⟨r, 0, none⟩) xs.length xs := by
  refine ⟨rfl, by omega, fun _ => ⟨_, rfl, fun j p hj => ⟨[.int .u8 p], rfl, rfl, fun i u hu => ?_⟩⟩⟩
  match i, hu with
  | 0, hu =>
    have hu : some (Value.int .u8 p) = some u := hu
    have := h.cells j (.int .u8 p) (by simp [nums, hj])
    rw [← hu]
    show w.cell? ((⟨r, 0, none⟩ : Addr).add (j * 1 + 0)) = _
    rw [Nat.mul_one, Nat.add_zero]
    exact this
  | i + 1, hu => simp at hu
theorem okOpt (x : S97) : okOptions x := trivial
theorem Cap.drewN {g r b : Nat} {w : World} {cs : Array Value} {t : TypeId} (h : Cap w g r b cs t) (n : Nat) : Cap (w.drewN n) g r b cs t := ⟨h.blk, h.ne, h.row⟩
def sum4 (n : Int) : List Int := [IntKind.u8.wrap n, IntKind.u8.wrap (n / 256), IntKind.u8.wrap (n / 65536), IntKind.u8.wrap (n / 16777216)]
theorem four_new (w : World) (n : Int) (t : TypeId) : ∀ j u, (nums .u8 (sum4 n))[j]? = some u → (w.alloc (.cells #[.int .u8 (IntKind.u8.wrap n), .int .u8 (IntKind.u8.wrap (n / 256)), .int .u8 (IntKind.u8.wrap (n / 65536)), .int .u8 (IntKind.u8.wrap (n / 16777216))] t)).cell? ((⟨w.heap.size, 0, none⟩ : Addr).add j) = some u :=
  World.news_of_block (cs := #[.int .u8 (IntKind.u8.wrap n), .int .u8 (IntKind.u8.wrap (n / 256)), .int .u8 (IntKind.u8.wrap (n / 65536)), .int .u8 (IntKind.u8.wrap (n / 16777216))]) (t := t) (fr := (0, 0)) (heap_alloc_new w _)
def bytesPk (p : Pk) : List Int := head ++ encPk p ++ sum4 (sumI 2166136261 (head ++ encPk p))
def putS (p : Pk) : List Int × Int := if deepPk p = true ∨ 131072 < (bytesPk p).length then ([], 72) else (bytesPk p, 0)
def PutPost (p : Pk) (w : World) (e : Ending) (w' : World) : Prop := ∃ v, e = .returned (.tuple #[v, .int .i64 (putS p).2]) ∧ Kd.R (Kd.int .u8) 5 w' w.heap.size (fun _ => True) v (putS p).1 ∧ Below w.heap.size w w'
structure PutEnd (w w8 wd : World) (r r' : Nat) (xs : List Int) (d : Bool) : Prop where
  st : St w (w.heap.size + 1 + 1) r w8 xs d r' wd
  is : ∃ c, wd.cell? ⟨w.heap.size + 1 + 1, 0, none⟩ = some (.slice (some ⟨r', 0, none⟩) xs.length c) ∧ wd.ownsRow w.heap.size 5 1 (.slice (some ⟨r', 0, none⟩) xs.length c) xs.length (nums .u8 xs)
theorem PutEnd.of {w w8 w3 : World} {r r' n c : Nat} {xs : List Int} {d : Bool} (hg : Grew w8 w3 w (w.heap.size + 1 + 1) r r' n c xs d) (hc : w3.ownsRow w.heap.size 5 1 (.slice (some ⟨r', 0, none⟩) n c) n (nums .u8 xs)) :
    PutEnd w w8 (w3.setCell ⟨w.heap.size + 1 + 1, 0, none⟩ (.slice (some ⟨r', 0, none⟩) n c)) r r' xs d := by
  have hn : xs.length = n := by have := hc.1; simpa [nums] using this
  subst hn
  refine ⟨hg.st, c, ?_, own_move hc (fun k hk => ?_)⟩
  · obtain ⟨c2, hb, ho⟩ := hg.wr.is
    obtain ⟨u, hu⟩ := hg.c0
    rw [World.cell?_setCell_same' _ _ _ (by rw [hu]; rfl)]
  · have : k = r' := by simpa [Value.ownBlock, eq_comm] using hk
    subst this
    exact Below.heap_setCell w3 ⟨_, 0, none⟩ _ _ (fun e => hg.wr.ne e.symm)
theorem PutPost.bad {p : Pk} {w w' : World} (h : putS p = ([], 72)) (hb : Below w.heap.size w w') : PutPost p w (.returned (.tuple #[.slice none 0 0, .int .i64 72])) w' := ⟨_, by rw [h], by rw [h]; exact Kd.R_nil _ _ _ _ _, hb⟩
theorem PutPost.good {p : Pk} {w w' : World} {ys : List Int} {v : Value} (h : putS p = (ys, 0)) (ho : w'.ownsRow w.heap.size 5 1 v ys.length (nums .u8 ys)) (hb : Below w.heap.size w w') : PutPost p w (.returned (.tuple #[v, .int .i64 0])) w' := ⟨_, by rw [h], by rw [h]; exact Kd.R_of_own ho (fun _ _ => trivial), hb⟩
theorem putS_of (p : Pk) (xs ys : List Int) (dd : Bool) (sn : Int) (hxs : xs = head ++ encText p.name ++ encInt p.year ++ encList encOptions p.options ++ encList encTable p.tables ++ encList encGroup p.groups ++ encList encLine p.lines ++ encList encCheck p.checks)
    (hdd : dd = (((((false || p.options.any deepOptions) || p.tables.any deepTable) || p.groups.any deepGroup) || p.lines.any deepLine) || p.checks.any deepCheck)) (hsn : sumI 2166136261 xs = sn) (hys : xs ++ sum4 sn = ys) :
    ((dd = true ∨ 131072 < ys.length) → putS p = ([], 72)) ∧ (¬ (dd = true ∨ 131072 < ys.length) → putS p = (ys, 0)) := by
  have e1 : xs = head ++ encPk p := by rw [hxs]; unfold encPk; simp only [List.append_assoc]
  have z1 : ∀ l : List S97, l.any deepOptions = false := fun l => by induction l with | nil => rfl | cons a l ih => simp [List.any_cons, ih, deepOptions]
  have z2 : ∀ l : List S72, l.any deepTable = false := fun l => by induction l with | nil => rfl | cons a l ih => simp [List.any_cons, ih, deepTable]
  have z3 : ∀ l : List S69, l.any deepGroup = false := fun l => by induction l with | nil => rfl | cons a l ih => simp [List.any_cons, ih, deepGroup]
  have e2 : dd = deepPk p := by rw [hdd, z1, z2, z3]; unfold deepPk; simp
  have e3 : ys = bytesPk p := by unfold bytesPk; rw [← hys, ← hsn, e1]
  rw [e2, e3]
  unfold putS
  exact ⟨fun h => if_pos h, fun h => if_neg h⟩
set_option maxHeartbeats 8000000 in
theorem put_walk (p : Pk) (A2 : Option Addr) (c2 : Nat) (A3 : Option Addr) (c3 : Nat) (A4 : Option Addr) (c4 : Nat) (A5 : Option Addr) (c5 : Nat) (A6 : Option Addr) (c6 : Nat) (w : World) (hC2 : k97.C w A2 p.options.length p.options) (hC3 : k72.C w A3 p.tables.length p.tables) (hC4 : k69.C w A4 p.groups.length p.groups) (hC5 : k77.C w A5 p.lines.length p.lines) (hC6 : k82.C w A6 p.checks.length p.checks)
    (ok : okPk p) (hl : (head ++ encPk p).length + 4 ≤ LIM) :
    Calls Try.prog 17 #[.agg #[.string p.name, .int .i64 p.year, .slice A2 p.options.length c2, .slice A3 p.tables.length c3, .slice A4 p.groups.length c4, .slice A5 p.lines.length c5, .slice A6 p.checks.length c6]] w (PutPost p w) := by
  have kc := Lib.run_convert_bytes_const (P := Try.prog) (w.alloc (.cells #[.string p.name, .int .i64 p.year, .slice A2 p.options.length c2, .slice A3 p.tables.length c3, .slice A4 p.groups.length c4, .slice A5 p.lines.length c5, .slice A6 p.checks.length c6] 33)) 23 5 #[.int .u8 76, .int .u8 86, .int .u8 89, .int .u8 49] 4 4 Try.underlying23 Try.underlying5
  rw [World.size_alloc] at kc
  have S0 := Aside0.mk (St.refl (wr_start w #[.string p.name, .int .i64 p.year, .slice A2 p.options.length c2, .slice A3 p.tables.length c3, .slice A4 p.groups.length c4, .slice A5 p.lines.length c5, .slice A6 p.checks.length c6]))
  have B0 := Aside0.mk (caps_start w #[.string p.name, .int .i64 p.year, .slice A2 p.options.length c2, .slice A3 p.tables.length c3, .slice A4 p.groups.length c4, .slice A5 p.lines.length c5, .slice A6 p.checks.length c6] _ rfl).1
  have W0 := Aside0.mk (caps_start w #[.string p.name, .int .i64 p.year, .slice A2 p.options.length c2, .slice A3 p.tables.length c3, .slice A4 p.groups.length c4, .slice A5 p.lines.length c5, .slice A6 p.checks.length c6] _ rfl).2
  have HLL := Aside0.mk hl
  have HL := Aside0.mk (show (head ++ (encText p.name ++ (encInt p.year ++ (encList encOptions p.options ++ (encList encTable p.tables ++ (encList encGroup p.groups ++ (encList encLine p.lines ++ encList encCheck p.checks))))))).length ≤ LIM from Nat.le_trans (Nat.le_add_right _ 4) hl)
  have OK := Aside0.mk ok
  have G2 := Aside0.mk hC2
  have G3 := Aside0.mk hC3
  have G4 := Aside0.mk hC4
  have G5 := Aside0.mk hC5
  have G6 := Aside0.mk hC6
  clear hl ok hC2 hC3 hC4 hC5 hC6
  go_enter Try.func17, Try.ntmps17
  go_wp2_with fail
  go_at_call 42
  with_reducible refine (text_c S0.out (lim_left HL.out)).mono ?_
  intro e w1 hp
  obtain ⟨rfl, r1, hs, ht⟩ := S0.out.next hp
  have S1 := Aside0.mk ht
  have B1 := Aside0.mk (B0.out.st hs)
  have W1 := Aside0.mk (W0.out.st hs)
  clear hp hs ht kc
  have b1 := B1.out.cell 1 rfl
  have bl := B1.out.lt
  have wc := W1.out.cell 0 rfl
  have wl := W1.out.lt
  go_wp2_with fail
  go_at_call 43
  with_reducible refine (int_c S1.out OK.out.year (lim_left (lim_right HL.out))).mono ?_
  intro e w2 hp
  obtain ⟨rfl, r2, hs, ht⟩ := S1.out.next hp
  have S2 := Aside0.mk ht
  have B2 := Aside0.mk (B1.out.st hs)
  have W2 := Aside0.mk (W1.out.st hs)
  clear hp hs ht b1 bl wc wl
  have b2 := B2.out.cell 2 rfl
  have bl := B2.out.lt
  have wc := W2.out.cell 0 rfl
  have wl := W2.out.lt
  go_wp2_with fail
  go_at_call 44
  with_reducible refine (put44 w (w.heap.size + 1 + 1) r2 p.options.length c2 (w.heap.size + 1 + 1 + 1) A2 p.options _ _ _ (fun r1 w1 => Cap w1 (w.heap.size + 1 + 1) r1 (w.heap.size + 1 + 1 + 1) #[.pointer (some ⟨w.heap.size + 1 + 1, 0, none⟩)] 121) deepOptions encOptions rfl G2.out S2.out.wr W2.out (fun _ _ _ _ _ _ h s => h.st s) (lim_left (lim_right (lim_right HL.out))) (fun x ys d1 r1 w1 A1 c1 hx h1 hC1 hw hI hlim => options_calls w (w.heap.size + 1 + 1) r1 (w.heap.size + 1 + 1 + 1) ys d1 x A1 c1 w1 (okOpt x) h1 hC1 hw hI hlim)).mono ?_
  intro e w3 hp
  obtain ⟨rfl, r3, hs, ht⟩ := S2.out.next hp
  have S3 := Aside0.mk ht
  have B3 := Aside0.mk (B2.out.st hs)
  have W3 := Aside0.mk (W2.out.st hs)
  clear hp hs ht b2 bl wc wl
  have b3 := B3.out.cell 3 rfl
  have bl := B3.out.lt
  have wc := W3.out.cell 0 rfl
  have wl := W3.out.lt
  go_wp2_with fail
  go_at_call 47
  with_reducible refine (put47 w (w.heap.size + 1 + 1) r3 p.tables.length c3 (w.heap.size + 1 + 1 + 1) A3 p.tables _ _ _ (fun r1 w1 => Cap w1 (w.heap.size + 1 + 1) r1 (w.heap.size + 1 + 1 + 1) #[.pointer (some ⟨w.heap.size + 1 + 1, 0, none⟩)] 121) deepTable encTable rfl G3.out S3.out.wr W3.out (fun _ _ _ _ _ _ h s => h.st s) (lim_left (lim_right (lim_right (lim_right HL.out)))) (fun x ys d1 r1 w1 A1 c1 hx h1 hC1 hw hI hlim => table_calls w (w.heap.size + 1 + 1) r1 (w.heap.size + 1 + 1 + 1) ys d1 x A1 c1 w1 (OK.out.tables x hx) h1 hC1 hw hI hlim)).mono ?_
  intro e w4 hp
  obtain ⟨rfl, r4, hs, ht⟩ := S3.out.next hp
  have S4 := Aside0.mk ht
  have B4 := Aside0.mk (B3.out.st hs)
  have W4 := Aside0.mk (W3.out.st hs)
  clear hp hs ht b3 bl wc wl
  have b4 := B4.out.cell 4 rfl
  have bl := B4.out.lt
  have wc := W4.out.cell 0 rfl
  have wl := W4.out.lt
  go_wp2_with fail
  go_at_call 51
  with_reducible refine (put51 w (w.heap.size + 1 + 1) r4 p.groups.length c4 (w.heap.size + 1 + 1 + 1) A4 p.groups _ _ _ (fun r1 w1 => Cap w1 (w.heap.size + 1 + 1) r1 (w.heap.size + 1 + 1 + 1) #[.pointer (some ⟨w.heap.size + 1 + 1, 0, none⟩)] 121) deepGroup encGroup rfl G4.out S4.out.wr W4.out (fun _ _ _ _ _ _ h s => h.st s) (lim_left (lim_right (lim_right (lim_right (lim_right HL.out))))) (fun x ys d1 r1 w1 hx hw hI hlim => group_calls w (w.heap.size + 1 + 1) r1 (w.heap.size + 1 + 1 + 1) ys d1 x w1 (OK.out.groups x hx) hw hI hlim)).mono ?_
  intro e w5 hp
  obtain ⟨rfl, r5, hs, ht⟩ := S4.out.next hp
  have S5 := Aside0.mk ht
  have B5 := Aside0.mk (B4.out.st hs)
  have W5 := Aside0.mk (W4.out.st hs)
  clear hp hs ht b4 bl wc wl
  have b5 := B5.out.cell 5 rfl
  have bl := B5.out.lt
  have wc := W5.out.cell 0 rfl
  have wl := W5.out.lt
  go_wp2_with fail
  go_at_call 53
  with_reducible refine (put53 w (w.heap.size + 1 + 1) r5 p.lines.length c5 A5 p.lines _ _ _ (fun _ _ => True) deepLine encLine rfl G5.out S5.out.wr trivial (fun _ _ _ _ _ _ _ _ => trivial) (lim_left (lim_right (lim_right (lim_right (lim_right (lim_right HL.out)))))) (fun x ys d1 r1 w1 A6_ c6_ hx h1 hC1 hw hI hlim => line_calls w (w.heap.size + 1 + 1) r1 ys d1 x A6_ c6_ w1 (OK.out.lines x hx) h1 hC1 hw hlim)).mono ?_
  intro e w6 hp
  obtain ⟨rfl, r6, hs, ht⟩ := S5.out.next hp
  have S6 := Aside0.mk ht
  have B6 := Aside0.mk (B5.out.st hs)
  have W6 := Aside0.mk (W5.out.st hs)
  clear hp hs ht b5 bl wc wl
  have b6 := B6.out.cell 6 rfl
  have bl := B6.out.lt
  have wc := W6.out.cell 0 rfl
  have wl := W6.out.lt
  go_wp2_with fail
  go_at_call 55
  with_reducible refine (put55 w (w.heap.size + 1 + 1) r6 p.checks.length c6 A6 p.checks _ _ _ (fun _ _ => True) deepCheck encCheck rfl G6.out S6.out.wr trivial (fun _ _ _ _ _ _ _ _ => trivial) (lim_right (lim_right (lim_right (lim_right (lim_right (lim_right HL.out)))))) (fun x ys d1 r1 w1 A7_ c7_ hx h1 hC1 hw hI hlim => check_calls w (w.heap.size + 1 + 1) r1 ys d1 x A7_ c7_ w1 (OK.out.checks x hx) h1 hC1 hw hlim)).mono ?_
  intro e w7 hp
  obtain ⟨rfl, r7, hs, ht⟩ := S6.out.next hp
  have S7 := Aside0.mk ht
  have B7 := Aside0.mk (B6.out.st hs)
  have W7 := Aside0.mk (W6.out.st hs)
  clear hp hs ht b6 bl wc wl
  obtain ⟨xs, hxs⟩ : ∃ xs, xs = head ++ encText p.name ++ encInt p.year ++ encList encOptions p.options ++ encList encTable p.tables ++ encList encGroup p.groups ++ encList encLine p.lines ++ encList encCheck p.checks := ⟨_, rfl⟩
  obtain ⟨dd, hdd⟩ : ∃ dd, dd = (((((false || p.options.any deepOptions) || p.tables.any deepTable) || p.groups.any deepGroup) || p.lines.any deepLine) || p.checks.any deepCheck) := ⟨_, rfl⟩
  rw [← hxs, ← hdd] at S7
  have HXS := Aside0.mk hxs
  have HDD := Aside0.mk hdd
  clear hxs hdd
  obtain ⟨c0, hc0, hc1, hf0, hf1, ho⟩ := S7.out.wr.open
  have HX4 := Aside0.mk (show xs.length + 4 ≤ LIM by rw [HXS.out]; have := HLL.out; unfold encPk at this; simp only [List.length_append] at this ⊢; omega)
  have hmax : xs.length ≤ 9223372036854775806 := by have := HX4.out; unfold LIM at this; omega
  obtain ⟨k, hk⟩ := sum_any xs hmax
  have HK := Aside0.mk hk
  have HO := Aside0.mk ho
  have hcap : xs.length ≤ c0 := by obtain ⟨_, _, _, h, _⟩ := ho.is; exact h
  have HCAP := Aside0.mk hcap
  have wc := W7.out.cell 0 rfl
  have wl := W7.out.lt
  clear hk ho hcap
  go_wp2_with fail
  go_at_call 12
  with_reducible refine (pack_Sum.calls k (some ⟨r7, 0, none⟩) c0 xs (sumI 2166136261 xs) w7 (HO.out.C rfl (by omega)) HCAP.out HK.out).mono ?_
  rintro e w8 ⟨rfl, ⟨⟨nd, hw⟩⟩⟩
  subst hw
  have S8 := Aside0.mk (S7.out.drewN nd)
  have W8 := Aside0.mk (W7.out.drewN nd)
  clear hc0 hc1 hf0 hf1 HO HCAP HK wc wl
  generalize w7.drewN nd = w8 at S8 W8 ⊢
  obtain ⟨sn, hsn⟩ : ∃ sn, sumI 2166136261 xs = sn := ⟨_, rfl⟩
  rw [hsn]
  have HSN := Aside0.mk hsn
  obtain ⟨c1, hc0, hc1, hf0, hf1, ho⟩ := S8.out.wr.open
  obtain ⟨q, hq⟩ : ∃ q, xs.length = q := ⟨_, rfl⟩
  rw [hq] at hc0 ho
  have HO := Aside0.mk ho
  have HQ := Aside0.mk hq
  have HX5 := Aside0.mk (show q + 4 ≤ LIM by rw [← hq]; exact HX4.out)
  have a0 := W8.out.cell 0 rfl
  have l0 := W8.out.lt
  have lg := S8.out.wr.lt.1
  have NR := Aside0.mk W8.out.row
  clear hsn ho hq hmax
  go_upto_region 10 with (fail)
  go_cut [4] (fun s4 wd => s4 = .pointer (some ⟨w.heap.size + 1 + 1 + 1, 0, none⟩) ∧ Aside0 (∃ r9, PutEnd w w8 wd r7 r9 (xs ++ sum4 sn) dd))
  case first =>
    go_region_law (refine step_putC rfl _ _ rfl S8.out.wr (by repeat (first | exact Below.refl _ _ | apply below_alloc | apply pw_below_drewN | apply below_drew1)) HQ.out HO.out rfl ⟨w8.heap.size, 0, none⟩ 4 4 (sum4 sn) rfl rfl (four_new _ _ _) HX5.out (by decide) ?_; intro r' c' w3 HG HC; have ha3 := (World.cell?_of_block (a := ⟨w.heap.size + 1 + 1 + 1, 0, none⟩) (HG.far _ l0 NR.out)).trans a0; obtain ⟨u0, hu0⟩ := HG.c0; have hz0 := HG.f0)
    all_goals (go_wp2_with fail; go_meet; exact ⟨rfl, ⟨_, PutEnd.of HG HC⟩⟩)
  case rest =>
  obtain ⟨rfl, HE⟩ := hcut
  obtain ⟨r9, hE⟩ := HE.out
  have HT := Aside0.mk (S8.out.trans hE.st)
  have W9 := Aside0.mk (W8.out.st hE.st)
  obtain ⟨c9, hd0, hown⟩ := hE.is
  obtain ⟨ys, hys⟩ : ∃ ys, xs ++ sum4 sn = ys := ⟨_, rfl⟩
  rw [hys] at hd0 hown HT
  have hd1 : wc.cell? ⟨w.heap.size + 1 + 1, 1, none⟩ = some (.bool dd) := by obtain ⟨_, _, h, _⟩ := hE.st.wr.open; exact h
  have HYS := Aside0.mk hys
  have HOWN := Aside0.mk hown
  clear a0 l0 lg hc0 hc1 hf0 hf1 hE HE hys hown
  have a0 := W9.out.cell 0 rfl
  have l0 := W9.out.lt
  have HP := Aside0.mk (putS_of p xs ys dd sn HXS.out HDD.out HSN.out HYS.out)
  by_cases hd : dd = true
  · have HB := Aside0.mk (HP.out.1 (.inl hd))
    subst hd
    clear HP
    go_wp2_with fail
    go_ret2
    exact PutPost.bad HB.out HT.out.wr.dat
  · have hd2 : dd = false := by simpa using hd
    by_cases hl : 131072 < ys.length
    · have HB := Aside0.mk (HP.out.1 (.inr hl))
      subst hd2
      clear HP hd
      have hb : decide (131072 < ys.length) = true := decide_eq_true hl
      go_wp2_with fail
      go_ret2
      exact PutPost.bad HB.out HT.out.wr.dat
    · have HB := Aside0.mk (HP.out.2 (fun h => h.elim hd hl))
      subst hd2
      clear HP hd
      have hb : decide (131072 < ys.length) = false := decide_eq_false hl
      go_wp2_with fail
      go_ret2
      exact PutPost.good HB.out HOWN.out HT.out.wr.dat
end Go.Proofs.Ytpbdkkahodaloaa.U
end

section
namespace Go.Proofs.Ytpbdkkahodaloaa.J
open Go.RowKit Go.Proofs.Ytpbdkkahodaloaa.PS Go.Proofs.Ytpbdkkahodaloaa.U Go.Proofs.Ytpbdkkahodaloaa.T Go.Proofs.YtpbdkkahodaloaaW.PrintWords Go.Proofs.YtpbdkkahodaloaaW.PrintMore
set_option linter.unusedVariables false
set_option maxRecDepth 100000
def fmE : Nat → S80 → Prop
  | 0, _ => False
  | f + 1, e => Fm e ∧ ∀ a ∈ e.f4, fmE f a
def cntE : Nat → S80 → Nat
  | 0, _ => 0
  | f + 1, e => 1 + (e.f4.map (cntE f)).sum
theorem int_ten {n : Int} (h : i64 n) : (encInt n).length ≤ 10 := seven_ten (zig_lt h.lo h.hi)
theorem int_one {n : Int} (h : 0 ≤ n ∧ n ≤ 63) : (encInt n).length = 1 := by
  unfold encInt
  have : zig n < 128 := by unfold zig; split <;> omega
  rw [seven_low this]
  rfl
theorem opt_ten {n : Int} (h : i64 n) : (encOpt n).length ≤ 10 := by
  unfold encOpt
  split
  · simp
  · exact int_ten h
theorem opt_one {n : Int} (h : 0 ≤ n ∧ n ≤ 63) : (encOpt n).length ≤ 1 := by
  unfold encOpt
  split
  · simp
  · exact Nat.le_of_eq (int_one h)
theorem sum_le {α : Type} {l : List α} {f g : α → Nat} (h : ∀ a ∈ l, f a ≤ g a) : (l.map f).sum ≤ (l.map g).sum := by
  induction l with
  | nil => simp
  | cons a l ih =>
    simp only [List.map_cons, List.sum_cons]
    have h1 := h a (List.mem_cons_self ..)
    have h2 := ih fun x hx => h x (List.mem_cons_of_mem _ hx)
    omega
theorem sum_times {α : Type} {l : List α} {f : α → Nat} (k : Nat) : (l.map fun a => k * f a).sum = k * (l.map f).sum := by
  induction l with
  | nil => simp
  | cons a l ih => simp only [List.map_cons, List.sum_cons, ih, Nat.mul_add]
theorem sum_most {α : Type} {l : List α} {f : α → Nat} {k : Nat} (h : ∀ a ∈ l, f a ≤ k) : (l.map f).sum ≤ k * l.length := by
  induction l with
  | nil => simp
  | cons a l ih =>
    simp only [List.map_cons, List.sum_cons, List.length_cons]
    have h1 := h a (List.mem_cons_self ..)
    have h2 := ih fun x hx => h x (List.mem_cons_of_mem _ hx)
    rw [Nat.mul_add]
    omega
theorem len_encList {α : Type} (enc : α → List Int) (l : List α) (h : l.length < 128) : (encList enc l).length = 1 + (l.map fun x => (enc x).length).sum := by
  unfold encList
  rw [List.length_append, List.length_flatMap, seven_low h]
  rfl
theorem encE_fits : ∀ (f g : Nat) (e : S80), f ≤ g → fmE f e → okE g e → (encE g e).length ≤ 24 * cntE g e ∧ deepE g e = false
  | 0, _, _, _, h, _ => h.elim
  | f + 1, 0, _, hg, _, _ => absurd hg (by omega)
  | f + 1, g + 1, e, hg, h, ho => by
    have ih : ∀ a ∈ e.f4, (encE g a).length ≤ 24 * cntE g a ∧ deepE g a = false := fun a ha => encE_fits f g a (by omega) (h.2 a ha) (ho.2 a ha)
    obtain ⟨⟨h0, h1, h2, h3⟩, _⟩ := ho
    constructor
    · show (encInt e.f0 ++ ([saysOf e] ++ (encOpt e.f1 ++ (encOpt e.f2 ++ (encOpt e.f3 ++ (if e.f4.length = 0 then [] else encList (encE g) e.f4)))))).length ≤ 24 * (1 + (e.f4.map (cntE g)).sum)
      have k0 := int_one (n := e.f0) ⟨by have := h.1.one; omega, by have := h.1.last; omega⟩
      have k1 := opt_ten h1
      have k2 := opt_ten h2
      have k3 := opt_one (n := e.f3) ⟨h.1.mode.1, by have := h.1.mode.2; omega⟩
      have k4 : (if e.f4.length = 0 then [] else encList (encE g) e.f4).length ≤ 1 + 24 * (e.f4.map (cntE g)).sum := by
        split
        · simp
        · rw [len_encList _ _ (by have := h.1.six; omega), ← sum_times]
          have := sum_le (l := e.f4) (f := fun a => (encE g a).length) (g := fun a => 24 * cntE g a) fun a ha => (ih a ha).1
          omega
      simp only [List.length_append, List.length_singleton]
      omega
    · show e.f4.any (deepE g) = false
      rw [List.any_eq_false]
      intro a ha
      rw [(ih a ha).2]
      exact Bool.false_ne_true
theorem enc_zero {e : S80} (h : ZeroE e) : (encE 64 e).length = 2 ∧ deepE 64 e = false := by
  obtain ⟨h0, h1, h2, h3, h4⟩ := h
  constructor
  · show (encInt e.f0 ++ ([saysOf e] ++ (encOpt e.f1 ++ (encOpt e.f2 ++ (encOpt e.f3 ++ (if e.f4.length = 0 then [] else encList (encE 63) e.f4)))))).length = 2
    rw [h0, h1, h2, h3, h4, encOpt_no rfl, if_pos (show ([] : List S80).length = 0 from rfl)]
    have := int_one (n := 0) ⟨by omega, by omega⟩
    simp only [List.length_append, List.length_singleton, List.length_nil, this]
  · show e.f4.any (deepE 63) = false
    rw [h4]
    rfl
def wtC (b : S100) : Nat := (encE 64 b.f2).length + (encE 64 b.f3).length
structure LX (x : S77) : Prop where
  most : (x.f6.map wtC).sum ≤ 1442
  flat : ∀ b ∈ x.f6, deepClause b = false
structure CX (x : S82) : Prop where
  most : (encE 64 x.f3).length ≤ 1440
  flat : deepE 64 x.f3 = false
theorem text_len {s : ByteArray} (h : s.size < 128) : (encText s).length = 1 + s.size := by
  unfold encText
  rw [List.length_append, U.bytesOf_length, seven_low h]
  rfl
theorem flag_len (b : Bool) : (encFlag b).length = 1 := rfl
theorem clause_len {b : S100} (h : okClause b) : (encClause b).length ≤ 11 + wtC b := by
  unfold encClause wtC
  have := int_ten h.1
  simp only [List.length_append, flag_len]
  omega
theorem line_len {x : S77} (h : okLine x) (hl : OkL x) (hx : LX x) : (encLine x).length ≤ 1554 := by
  unfold encLine
  have h3 := int_ten h.1
  have h4 := int_ten h.2.1
  have h5 := int_ten h.2.2.1
  have h0 := text_len (s := x.f0) (by have := hl.name; omega)
  have h6 : (encList encClause x.f6).length ≤ 1 + (66 + 1442) := by
    rw [len_encList _ _ (by have := hl.len; omega)]
    have k1 := sum_le (l := x.f6) (f := fun b => (encClause b).length) (g := fun b => 11 + wtC b) fun b hb => clause_len (h.2.2.2 b hb)
    have k2 : ∀ l : List S100, (l.map fun b => 11 + wtC b).sum = 11 * l.length + (l.map wtC).sum := by
      intro l
      induction l with
      | nil => rfl
      | cons a l ih => simp only [List.map_cons, List.sum_cons, List.length_cons, ih]; omega
    rw [k2] at k1
    have k3 := hx.most
    have k4 := hl.len
    omega
  have := hl.name
  simp only [List.length_append, flag_len]
  omega
theorem check_len {x : S82} (h : okCheck x) (hl : OkC x) (hx : CX x) : (encCheck x).length ≤ 1505 := by
  unfold encCheck
  have h2 := int_ten h.1
  have h0 := text_len (s := x.f0) (by have := hl.name; omega)
  have h4 := text_len (s := x.f4) (by have := hl.text; omega)
  have := hl.name
  have := hl.text
  have := hx.most
  simp only [List.length_append, flag_len]
  omega
theorem options_len {x : S97} (hl : OkO x) : (encOptions x).length ≤ 118 := by
  unfold encOptions
  have h0 := text_len (s := x.f0) (by have := hl.name; omega)
  have h1 : (encList encText x.f1).length ≤ 1 + 13 * x.f1.length := by
    rw [len_encList _ _ (by have := hl.len; omega)]
    have := sum_most (l := x.f1) (f := fun s => (encText s).length) (k := 13) fun s hs => by
      have h := hl.all s hs
      rw [text_len (by omega)]
      omega
    omega
  have := hl.name
  have := hl.len
  simp only [List.length_append]
  omega
theorem table_len {x : S72} (h : okTable x) (hl : OkT x) : (encTable x).length ≤ 174 := by
  unfold encTable
  have h0 := text_len (s := x.f0) (by have := hl.name; omega)
  have h1 : (encList encBand x.f1).length ≤ 1 + 20 * x.f1.length := by
    rw [len_encList _ _ (by have := hl.len; omega)]
    have := sum_most (l := x.f1) (f := fun s => (encBand s).length) (k := 20) fun b hb => by
      have h1 := int_ten (h b hb).1
      have h2 := int_ten (h b hb).2
      unfold encBand
      rw [List.length_append]
      omega
    omega
  have := hl.name
  have := hl.len
  simp only [List.length_append]
  omega
theorem group_len {x : S69} (h : okGroup x) (hl : OkG x) : (encGroup x).length ≤ 23 := by
  unfold encGroup
  have h0 := text_len (s := x.f0) (by have := hl.name; omega)
  have h1 := int_ten h
  have := hl.name
  simp only [List.length_append]
  omega
theorem pack_fits {p : Pk} (ok : okPk p) (hf : Few p) (hp : OkP p) (hl : ∀ x ∈ p.lines, LX x) (hc : ∀ x ∈ p.checks, CX x) : deepPk p = false ∧ (bytesPk p).length ≤ 131072 ∧ 15 < (bytesPk p).length := by
  refine ⟨?_, ?_⟩
  · unfold deepPk
    rw [Bool.or_eq_false_iff, List.any_eq_false, List.any_eq_false]
    refine ⟨fun x hx => ?_, fun x hx => ?_⟩
    · unfold deepLine
      rw [Bool.not_eq_true, List.any_eq_false]
      intro b hb
      rw [(hl x hx).flat b hb]
      exact Bool.false_ne_true
    · unfold deepCheck
      rw [(hc x hx).flat]
      exact Bool.false_ne_true
  · have e0 := text_len (s := p.name) (by have := hp.name; omega)
    have n0 := hp.name
    have e1 := int_ten ok.year
    have e2 := len_encList encOptions p.options (by have := hf.o; omega)
    have m2 := sum_most (l := p.options) (f := fun x => (encOptions x).length) (k := 118) fun x hx => options_len (hp.options x hx)
    have e3 := len_encList encTable p.tables (by have := hf.t; omega)
    have m3 := sum_most (l := p.tables) (f := fun x => (encTable x).length) (k := 174) fun x hx => table_len (ok.tables x hx) (hp.tables x hx)
    have e4 := len_encList encGroup p.groups (by have := hf.g; omega)
    have m4 := sum_most (l := p.groups) (f := fun x => (encGroup x).length) (k := 23) fun x hx => group_len (ok.groups x hx) (hp.groups x hx)
    have e5 := len_encList encLine p.lines (by have := hf.l; omega)
    have m5 := sum_most (l := p.lines) (f := fun x => (encLine x).length) (k := 1554) fun x hx => line_len (ok.lines x hx) (hp.lines x hx) (hl x hx)
    have e6 := len_encList encCheck p.checks (by have := hf.c; omega)
    have m6 := sum_most (l := p.checks) (f := fun x => (encCheck x).length) (k := 1505) fun x hx => check_len (ok.checks x hx) (hp.checks x hx) (hc x hx)
    have o := hf.o
    have t := hf.t
    have g := hf.g
    have l := hf.l
    have l1 := hf.l1
    have c := hf.c
    have s4 : ∀ n, (sum4 n).length = 4 := fun _ => rfl
    have hh : head.length = 4 := rfl
    have m7 : 7 ≤ (p.lines.map fun x => (encLine x).length).sum := by
      cases hln : p.lines with
      | nil => rw [hln] at l1; simp at l1
      | cons a ls =>
        simp only [List.map_cons, List.sum_cons]
        have := seven_len
        have : 7 ≤ (encLine a).length := by
          have k : ∀ n : Nat, 1 ≤ (seven n).length := fun n => by unfold seven; split <;> simp
          unfold encLine encText encInt encList
          have := k a.f0.size
          have := k (zig a.f3)
          have := k (zig a.f4)
          have := k (zig a.f5)
          have := k a.f6.length
          simp only [List.length_append, flag_len]
          omega
        omega
    have i1 : 1 ≤ (encInt p.year).length := by unfold encInt seven; split <;> simp
    unfold bytesPk encPk
    simp only [List.length_append, s4, hh]
    omega
end Go.Proofs.Ytpbdkkahodaloaa.J
end

section
namespace Go.Proofs.Ytpbdkkahodaloaa.J
open Go.RowKit Go.Proofs.Ytpbdkkahodaloaa.PS Go.Proofs.Ytpbdkkahodaloaa.U Go.Proofs.Ytpbdkkahodaloaa.T Go.Proofs.YtpbdkkahodaloaaW.PrintWords Go.Proofs.YtpbdkkahodaloaaW.PrintMore
set_option linter.unusedVariables false
set_option maxRecDepth 100000
structure PathR (m B : Nat) (w : World) (A : Option Addr) (n : Nat) : Prop where
  most : n ≤ m
  reads : ∃ ys, ReadsInt w .i64 A n ys
  new : ∀ ad, A = some ad → 0 < n → B ≤ ad.block
theorem PathR.below {m B : Nat} {w w' : World} {A : Option Addr} {n : Nat} (h : PathR m B w A n) (hb : Below w.heap.size w w') : PathR m B w' A n := ⟨h.1, h.2.imp fun _ h => h.below hb, h.3⟩
theorem PathR.keep {m B g : Nat} {w w' : World} {A : Option Addr} {n : Nat} (h : PathR m B w A n) (hk : KeepBut w w' g none) (hg : g < B) : PathR m B w' A n := ⟨h.1, h.2.imp fun _ h2 => h2.keep hk (fun ad e hn => by have := h.3 ad e hn; omega), h.3⟩
theorem PathR.more {m k B C : Nat} {w : World} {A : Option Addr} {n : Nat} (h : PathR m B w A n) (hk : m ≤ k) (hB : C ≤ B) : PathR k C w A n := ⟨Nat.le_trans h.1 hk, h.2, fun ad e hn => Nat.le_trans hB (h.3 ad e hn)⟩
theorem path_nil (m B : Nat) (w : World) : PathR m B w none 0 := ⟨Nat.zero_le _, ⟨[], ReadsInt.nil w .i64⟩, fun _ h => by cases h⟩
theorem path_one (m : Nat) (hm : 1 ≤ m) (w : World) (n : Int) : PathR m w.heap.size (w.alloc (.cells #[.int .i64 n] 3)) (some ⟨w.heap.size, 0, none⟩) 1 := by
  obtain ⟨A, c, e, hr⟩ := own_reads (own_lit w _ 3 .i64 [n] (Nat.le_refl _) (by simp))
  cases e
  exact ⟨hm, ⟨_, hr⟩, fun ad e _ => by cases e; exact Nat.le_refl _⟩
def AheadPost (m : Nat) (w : World) (e : Ending) (w' : World) : Prop := ∃ A n c, e = .returned (.slice A n c) ∧ PathR (m + 1) w.heap.size w' A n ∧ Below w.heap.size w w'
theorem ahead_c (m B : Nat) (hm : m ≤ 1000) (n : Int) (P : Option Addr) (k c : Nat) (w : World) (h : PathR m B w P k) : Calls Try.prog 137 #[.int .i64 n, .slice P k c] w (AheadPost m w) := by
  obtain ⟨hk, ⟨ys, hR⟩, _⟩ := h
  have HR := Aside0.mk hR
  have HK := Aside0.mk hk
  clear hR hk
  go_enter Try.func137, Try.ntmps137
  go_wp2_with (at_builtin; refine print_append_row w.heap.size rfl _ _ 89 3 .i64 8 rfl Try.underlying89 (by kernel_rfl) (by decide) _ [n] ys P k c rfl rfl (own_lit w _ 3 .i64 [n] (Nat.le_refl _) (by simp)) (HR.out.allocS _) (below_alloc (Below.refl _ _) _) (by rw [World.size_alloc]; omega) (by have := HK.out; simp; omega) ?_; intro v1 w1 ho hb hg hat)
  go_ret
  obtain ⟨A, c', rfl, hr⟩ := own_reads ho
  exact ⟨A, _, c', rfl, ⟨by have := HK.out; have := HR.out.1; simp; omega, ⟨_, hr⟩, fun ad e _ => by subst e; exact own_base ho _ rfl⟩, hb⟩
theorem cnt_fuel : ∀ (f g : Nat) (e : S80), fmE f e → f ≤ g → cntE g e = cntE f e
  | 0, _, _, h, _ => h.elim
  | f + 1, 0, _, _, hg => absurd hg (by omega)
  | f + 1, g + 1, e, h, hg => by
    show 1 + _ = 1 + _
    congr 2
    exact List.map_congr_left fun a ha => cnt_fuel f g a (h.2 a ha) (by omega)
theorem cnt_most : ∀ (f : Nat) (e : S80), fmE f e → cntE f e ≤ 7 ^ f
  | 0, _, h => h.elim
  | f + 1, e, h => by
    show 1 + (e.f4.map (cntE f)).sum ≤ _
    have h1 := sum_most (l := e.f4) (f := cntE f) (k := 7 ^ f) fun a ha => cnt_most f a (h.2 a ha)
    have h2 : 7 ^ f * e.f4.length ≤ 7 ^ f * 6 := Nat.mul_le_mul_left _ h.1.six
    have h3 : 1 ≤ 7 ^ f := Nat.one_le_pow _ _ (by omega)
    rw [Nat.pow_succ]
    omega
theorem rd80 {l : List S80} {i : Nat} (h : i < l.length) : rd_T80 l (i : Int) = l[i] := by unfold rd_T80; rw [Int.toNat_natCast, List.getD_eq_getElem?_getD, List.getElem?_eq_getElem h]; rfl
def NodesC (f : Nat) : Prop := ∀ (e : S80) (A : Option Addr) (c : Nat) (w : World), f ≤ 8 → fmE f e → k80.C w A e.f4.length e.f4 →
  Calls Try.prog 153 #[.agg #[.int .i64 e.f0, .int .i64 e.f1, .int .i64 e.f2, .int .i64 e.f3, .slice A e.f4.length c]] w (fun x w' => x = .returned (.int .i64 (cntE f e : Nat)) ∧ Below w.heap.size w w')
theorem sum_next {α : Type} {l : List α} {f : α → Nat} {i : Nat} (h : i < l.length) : ((l.take (i + 1)).map f).sum = ((l.take i).map f).sum + f l[i] := by
  rw [List.take_add_one, List.getElem?_eq_getElem h, List.map_append, List.sum_append]
  show _ + (f l[i] + 0) = _
  omega
set_option maxHeartbeats 4000000 in
theorem nodes_c : ∀ f, NodesC f
  | 0 => fun e A c w _ h _ => h.elim
  | f + 1 => by
    intro e A c w hf h hC
    have IH := Aside0.mk (nodes_c f)
    have HF := Aside0.mk h
    have HC := Aside0.mk hC
    have HM := Aside0.mk (show f + 1 ≤ 8 from hf)
    have hmax : e.f4.length ≤ 6 := h.1.six
    obtain ⟨e0, e1, e2, e3, l⟩ := e
    replace hmax : l.length ≤ 6 := hmax
    have B0 := Aside0.mk (Bx.new w #[.int .i64 e0, .int .i64 e1, .int .i64 e2, .int .i64 e3, .slice A l.length c] 80)
    have HB := Aside0.mk (show ∀ i, i ≤ l.length → ((l.take i).map (cntE f)).sum ≤ 10000000 from fun i hi => by
      have h1 := sum_most (l := l.take i) (f := cntE f) (k := 823543) fun a ha => Nat.le_trans (cnt_most f a (HF.out.2 a (List.mem_of_mem_take ha))) (Nat.le_trans (Nat.pow_le_pow_right (by omega) (show f ≤ 7 by omega)) (by decide))
      rw [List.length_take] at h1
      have : min i l.length ≤ 6 := by omega
      have : 823543 * min i l.length ≤ 823543 * 6 := Nat.mul_le_mul_left _ this
      omega)
    clear h hC hf
    go_enter Try.func153, Try.ntmps153
    go_wp2_with fail
    go_loopg [3, 4] (l.length + 1) (fun kq v3 v4 w' => ∃ i : Nat, v3 = .int .i64 ((1 + ((l.take i).map (cntE f)).sum : Nat) : Int) ∧ v4 = .int .i64 (i : Int) ∧ Aside0 (kq + i = l.length + 1) ∧ Aside0 (i ≤ l.length) ∧ Aside0 (Bx w #[.int .i64 e0, .int .i64 e1, .int .i64 e2, .int .i64 e3, .slice A l.length c] 80 w'))
    case atStart => exact ⟨0, rfl, rfl, ⟨by omega⟩, ⟨by omega⟩, B0⟩
    case round =>
      obtain ⟨i, rfl, rfl, HK, HI, HW⟩ := hrel
      cases gk with
      | zero => exact absurd HK.out (by have := HI.out; omega)
      | succ k2 =>
        obtain ⟨z0, z1, z2, z3, z4⟩ := cells5 HW.out.one
        by_cases hlt : i < l.length
        · obtain ⟨ad, A4, c4, hA, a0, a1, a2, a3, a4, l4, g4⟩ := at_T80 (Kd.C_below HC.out HW.out.below) (i : Int) (by omega) (by first | omega | (dsimp only; omega))
          subst hA
          rw [rd80 hlt, Int.toNat_natCast] at *
          have HX := Aside0.mk (IH.out l[i] A4 c4 wr (by have := HM.out; omega) (HF.out.2 _ (List.getElem_mem hlt)) g4)
          have hs := sum_next (l := l) (f := cntE f) hlt
          have hs1 := HB.out i (by omega)
          have hs2 := HB.out (i + 1) (by omega)
          have p0 : (0 : Int) ≤ (i : Int) := by omega
          have p1 : (i : Int) < (l.length : Int) := by omega
          clear l4 g4
          go_wp2_with fail
          with_reducible refine HX.out.mono ?_
          rintro e w2 ⟨rfl, hb⟩
          have HW2 := Aside0.mk (HW.out.next hb)
          clear hb z0 z1 z2 z3 z4 a0 a1 a2 a3 a4
          go_wp2_with fail
          go_roundg k2
          case measure => omega
          case rel => exact ⟨i + 1, by rw [hs]; refine congrArg (Value.int .i64) ?_; rw [← List.map_take]; unfold wrap64; omega, by simp, ⟨by have := HK.out; omega⟩, ⟨by omega⟩, HW2⟩
        · go_wp2_with fail
          go_ret
          refine ⟨?_, HW.out.below⟩
          have : l.take i = l := List.take_of_length_le (by omega)
          rw [this]
          rfl
end Go.Proofs.Ytpbdkkahodaloaa.J
end

section
namespace Go.Proofs.Ytpbdkkahodaloaa.J
open Go.RowKit Go.Proofs.Ytpbdkkahodaloaa.PS Go.Proofs.Ytpbdkkahodaloaa.U Go.Proofs.Ytpbdkkahodaloaa.T Go.Proofs.YtpbdkkahodaloaaW.PrintWords Go.Proofs.YtpbdkkahodaloaaW.PrintMore
set_option linter.unusedVariables false
set_option maxRecDepth 100000
structure Mv (q : Nat) (w w' : World) : Prop where
  os : w'.os = w.os
  tape : w'.tape = w.tape
  output : w'.output = w.output
  size : w.heap.size ≤ w'.heap.size
  block : ∀ k, k < w.heap.size → k ≠ q → w'.heap[k]? = w.heap[k]?
theorem Mv.of {q : Nat} {w w' : World} (h : Below w.heap.size w w') : Mv q w w' := ⟨h.os, h.tape, h.output, h.size, fun k hk _ => h.block k hk⟩
theorem Mv.trans {q : Nat} {w w1 w2 : World} (h : Mv q w w1) (k : Mv q w1 w2) : Mv q w w2 :=
  ⟨k.os.trans h.os, k.tape.trans h.tape, k.output.trans h.output, Nat.le_trans h.size k.size, fun j hj hq => (k.block j (Nat.lt_of_lt_of_le hj h.size) hq).trans (h.block j hj hq)⟩
theorem Mv.set (q : Nat) (w : World) (i : Nat) (v : Value) : Mv q w (w.setCell ⟨q, i, none⟩ v) :=
  ⟨rfl, rfl, rfl, by simp [World.setCell], fun k _ hk => Below.heap_setCell w ⟨q, i, none⟩ v k hk⟩
theorem Mv.below {q : Nat} {w0 w w' : World} (h : Mv q w w') (hb : Below w0.heap.size w0 w) (hq : w0.heap.size ≤ q) : Below w0.heap.size w0 w' :=
  ⟨h.os.trans hb.os, h.tape.trans hb.tape, h.output.trans hb.output, Nat.le_trans hb.size h.size, fun k hk => (h.block k (Nat.lt_of_lt_of_le hk hb.size) (by omega)).trans (hb.block k hk)⟩
structure KB (w0 : World) (u : Value) (q : Nat) (w : World) (E : Array Value) (l : List S74) (v : Value) (w' : World) : Prop where
  mv : Mv q w w'
  wk : Wk w0 u q w'
  ebox : w'.heap[w.heap.size]? = some (.cells E 80 (0, 0))
  rbox : w'.heap[w.heap.size + 1]? = some (.cells #[.int .i64 0, .int .i64 0] 218 (0, 0))
  row : Kd.R k74 218 w' (w.heap.size + 2) (fun _ => True) v l
  big : w.heap.size + 2 ≤ w'.heap.size
theorem KB.next {w0 : World} {u : Value} {q : Nat} {w w' w2 : World} {E : Array Value} {l : List S74} {v : Value} (h : KB w0 u q w E l v w') (hb : Below w'.heap.size w' w2) : KB w0 u q w E l v w2 :=
  ⟨h.mv.trans (Mv.of hb), h.wk.next hb, blk_below h.ebox hb, blk_below h.rbox hb, Kd.R_below h.row hb, Nat.le_trans h.big hb.size⟩
theorem KB.move {w0 : World} {u : Value} {q : Nat} {w w' w2 : World} {E : Array Value} {l : List S74} {v : Value} (h : KB w0 u q w E l v w') (hq : q < w.heap.size) (hm : Mv q w' w2) (hk : Wk w0 u q w2) : KB w0 u q w E l v w2 := by
  refine ⟨h.mv.trans hm, hk, (hm.block _ (blk_lt h.ebox) (by omega)).trans h.ebox, (hm.block _ (blk_lt h.rbox) (by omega)).trans h.rbox, ?_, Nat.le_trans h.big hm.size⟩
  exact Kd.R_mono (Kd.R_step (Kd.R_bound h.row) fun k hk hlt => hm.block k hlt (by have := hk.2.1; omega)) fun _ _ => trivial
theorem KB.push {w0 : World} {u : Value} {q : Nat} {w w' w2 : World} {E : Array Value} {l l2 : List S74} {v v2 : Value} (h : KB w0 u q w E l v w') (hq : q < w.heap.size) (ho : Kd.R k74 218 w2 (w.heap.size + 2) (fun _ => True) v2 l2) (hb : Below (w.heap.size + 2) w' w2) : KB w0 u q w E l2 v2 w2 := by
  have hm : ∀ k, k < w.heap.size + 2 → w2.heap[k]? = w'.heap[k]? := fun k hk => hb.block k hk
  have hs : w'.heap.size ≤ w2.heap.size := hb.size
  refine ⟨⟨hb.os.trans h.mv.os, hb.tape.trans h.mv.tape, hb.output.trans h.mv.output, Nat.le_trans h.mv.size hs, fun k hk hq => (hm k (by omega)).trans (h.mv.block k hk hq)⟩, ⟨?_, h.wk.low, ?_⟩, (hm _ (by omega)).trans h.ebox, (hm _ (by omega)).trans h.rbox, ho, Nat.le_trans h.big hs⟩
  · have hl : w0.heap.size ≤ w.heap.size := Nat.le_trans h.wk.low (Nat.le_of_lt hq)
    exact ⟨hb.os.trans h.wk.below.os, hb.tape.trans h.wk.below.tape, hb.output.trans h.wk.below.output, Nat.le_trans h.wk.below.size hs, fun k hk => (hm k (by omega)).trans (h.wk.below.block k hk)⟩
  · obtain ⟨grp, nd, hb2⟩ := h.wk.box
    exact ⟨grp, nd, (hm q (by omega)).trans hb2⟩
def KindR (d : Nat) (w0 : World) (u : Value) (q : Nat) (x : S80) (w : World) (e : Ending) (w' : World) : Prop :=
  ∃ k t A n c bad, e = .returned (.tuple #[.agg #[.int .i64 k, .int .i64 t], .slice A n c, .int .i64 bad]) ∧ Mv q w w' ∧ Wk w0 u q w' ∧ PathR d w.heap.size w' A n ∧ (bad = 0 → fmE d x)
def KindC (d : Nat) (w0 : World) (u : Value) (q : Nat) : Prop := ∀ (x : S80) (A : Option Addr) (c : Nat) (deep : Int) (w : World), 1 ≤ deep → deep + d = 9 → k80.C w0 A x.f4.length x.f4 → Wk w0 u q w →
  Calls Try.prog 155 #[.pointer (some ⟨q, 0, none⟩), .agg #[.int .i64 x.f0, .int .i64 x.f1, .int .i64 x.f2, .int .i64 x.f3, .slice A x.f4.length c], .int .i64 deep] w (KindR d w0 u q x w)
theorem kind_ret {d : Nat} {w0 : World} {u : Value} {q : Nat} {x : S80} {w w' : World} {E : Array Value} {l : List S74} {v : Value} {k t bad : Int} {A : Option Addr} {n c : Nat} (h : KB w0 u q w E l v w') (hq : q < w.heap.size) (hp : PathR d (w.heap.size + 2) w' A n) (hb : bad = 0 → fmE d x) :
    KindR d w0 u q x w (.returned (.tuple #[.agg #[.int .i64 k, .int .i64 t], .slice A n c, .int .i64 bad])) ((w'.setCell ⟨w.heap.size + 1, 0, none⟩ (.int .i64 k)).setCell ⟨w.heap.size + 1, 1, none⟩ (.int .i64 t)) := by
  have hne : ∀ j, j ≠ w.heap.size + 1 → ((w'.setCell ⟨w.heap.size + 1, 0, none⟩ (.int .i64 k)).setCell ⟨w.heap.size + 1, 1, none⟩ (.int .i64 t)).heap[j]? = w'.heap[j]? := fun j hj => by
    rw [Below.heap_setCell _ ⟨w.heap.size + 1, 1, none⟩ _ j hj, Below.heap_setCell _ ⟨w.heap.size + 1, 0, none⟩ _ j hj]
  have hs : ((w'.setCell ⟨w.heap.size + 1, 0, none⟩ (.int .i64 k)).setCell ⟨w.heap.size + 1, 1, none⟩ (.int .i64 t)).heap.size = w'.heap.size := by simp [World.setCell]
  have hl : w0.heap.size ≤ w.heap.size := Nat.le_trans h.wk.low (Nat.le_of_lt hq)
  refine ⟨k, t, A, n, c, bad, rfl, ⟨h.mv.os, h.mv.tape, h.mv.output, by rw [hs]; exact h.mv.size, fun j hj hq => (hne j (by omega)).trans (h.mv.block j hj hq)⟩, ⟨⟨h.wk.below.os, h.wk.below.tape, h.wk.below.output, by rw [hs]; exact h.wk.below.size, fun j hj => (hne j (by omega)).trans (h.wk.below.block j hj)⟩, h.wk.low, ?_⟩, ?_, hb⟩
  · obtain ⟨grp, nd, hb2⟩ := h.wk.box
    exact ⟨grp, nd, (hne q (by omega)).trans hb2⟩
  · exact (hp.keep (((KeepBut.refl w' (w.heap.size + 1) none).set_ 0 _).set_ 1 _) (by omega)).more (Nat.le_refl _) (by omega)
theorem Wk.set {w0 : World} {p : Pk} {u : Value} {q : Nat} {w : World} (hp : Lies w0 u p) (hk : Wk w0 u q w) (n : Int) : Wk w0 u q (w.setCell ⟨q, 8, none⟩ (.int .i64 n)) := by
  obtain ⟨A2, c2, A3, c3, A4, c4, A5, c5, A6, c6, rfl, _⟩ := hp
  obtain ⟨grp, nd, hb⟩ := hk.box
  exact ⟨(Mv.set q w 8 _).below hk.below hk.low, hk.low, grp, n, blk_set hb 8 _⟩
theorem kb_new {w0 : World} {p : Pk} {u : Value} {q : Nat} {w : World} (hp : Lies w0 u p) (hk : Wk w0 u q w) (E : Array Value) (n : Int) : KB w0 u q w E [] (.slice none 0 0) (((w.setCell ⟨q, 8, none⟩ (.int .i64 n)).alloc (.cells E 80)).alloc (.cells #[.int .i64 0, .int .i64 0] 218)) := by
  have hs : (w.setCell ⟨q, 8, none⟩ (.int .i64 n)).heap.size = w.heap.size := by simp [World.setCell]
  have hm := Mv.set q w 8 (.int .i64 n)
  have hw := hk.set hp n
  generalize w.setCell ⟨q, 8, none⟩ (.int .i64 n) = w1 at hs hm hw ⊢
  have hb : Below w1.heap.size w1 ((w1.alloc (.cells E 80)).alloc (.cells #[.int .i64 0, .int .i64 0] 218)) := bel
  refine ⟨hm.trans (Mv.of hb), hw.next hb, ?_, ?_, Kd.R_nil _ _ _ _ _, ?_⟩
  · rw [← hs]; exact blk_alloc (blk_new w1 _) _
  · rw [← hs]; exact blk_two w1 _ _
  · rw [World.size_alloc, World.size_alloc, hs]; omega
abbrev kargs (q : Nat) (x : S80) (A : Option Addr) (c : Nat) : Array Value := #[.int .i64 x.f0, .int .i64 x.f1, .int .i64 x.f2, .int .i64 x.f3, .slice A x.f4.length c]
set_option maxHeartbeats 8000000 in
theorem kind_zero (w0 : World) (u : Value) (p : Pk) (hp : Lies w0 u p) (q : Nat) : KindC 0 w0 u q := by
  intro x A c deep w h1 hd hC hk
  obtain rfl : deep = 9 := by omega
  obtain ⟨e0, e1, e2, e3, l⟩ := x
  have HP := Aside0.mk hp
  have HK := Aside0.mk hk
  obtain ⟨A2, c2, A3, c3, A4, c4, A5, c5, A6, c6, rfl, hrest⟩ := hp
  obtain ⟨grp, nd, hbox⟩ := hk.box
  obtain ⟨⟨a0, a1, a2, a3, a4, a5, a6⟩, a7, a8, a9⟩ := cellsW hbox
  have hq := hk.lt
  have HB := Aside0.mk (kb_new HP.out HK.out #[.int .i64 e0, .int .i64 e1, .int .i64 e2, .int .i64 e3, .slice A l.length c] (wrap64 (nd + 1)))
  clear hrest hk hC hbox a0 a1 a2 a3 a4 a5 a6 a7
  go_enter Try.func155, Try.ntmps155
  go_upto_region 2 with (fail)
  generalize World.alloc _ _ = wb at HB ⊢
  have hg := HB.out.rbox
  obtain ⟨z0, z1, f0, f1⟩ := cells2 hg
  have zl := blk_lt hg
  clear a8 a9
  go_wp2_with fail
  refine bodyPost_ret (results_three rfl rfl rfl rfl (agg_218 (set2 hg) rfl)) rfl ?_
  exact kind_ret HB.out hq (path_nil _ _ _) (fun h => absurd h (by decide))
theorem info218' : (Try.prog.info? 218).map (fun i => (i.zero, i.size, i.bytes)) = some (some (.agg #[.int .i64 0, .int .i64 0]), 2, 16) := by kernel_rfl
set_option maxHeartbeats 16000000 in
theorem kind_succ (w0 : World) (u : Value) (p : Pk) (hp : Lies w0 u p) (hty : ∀ x ∈ p.lines, 1 ≤ x.f3) (q d : Nat) (ih : KindC d w0 u q) : KindC (d + 1) w0 u q := by
  intro x A c deep w h1 hd hC hk
  have HP := Aside0.mk hp
  have HK := Aside0.mk hk
  have HC := Aside0.mk hC
  have IH := Aside0.mk ih
  have CF := Aside0.mk (fun (W : World) (h : Below w0.heap.size w0 W) => formed_c x A c W (Kd.C_below HC.out h))
  have CT := Aside0.mk (fun (W : World) (h : Wk w0 u q W) => there_c x A c w0 W u p HP.out hty q h)
  have CL := Aside0.mk (fun (W : World) (h : Wk w0 u q W) (ho : 1 ≤ x.f0 ∧ x.f0 ≤ 12) => leaf_c x.f0 x.f1 x.f2 x.f3 x.f4 ho A c w0 W u p HP.out hty q h)
  obtain ⟨e0, e1, e2, e3, l⟩ := x
  have hmax : l.length ≤ 9223372036854775807 := hC.2.1
  obtain ⟨A2, c2, A3, c3, A4, c4, A5, c5, A6, c6, rfl, hrest⟩ := hp
  obtain ⟨grp, nd, hbox⟩ := hk.box
  obtain ⟨⟨a0, a1, a2, a3, a4, a5, a6⟩, a7, a8, a9⟩ := cellsW hbox
  have hq := hk.lt
  have HQ := Aside0.mk hq
  have HD := Aside0.mk (And.intro h1 hd)
  clear h1
  have HB := Aside0.mk (kb_new HP.out HK.out #[.int .i64 e0, .int .i64 e1, .int .i64 e2, .int .i64 e3, .slice A l.length c] (wrap64 (nd + 1)))
  have h8 : ¬ 8 < deep := by omega
  clear hrest hk hC hbox a0 a1 a2 a3 a4 a5 a6 a7 hty ih
  go_enter Try.func155, Try.ntmps155
  go_upto_region 2 with (fail)
  generalize World.alloc _ _ = wb at HB ⊢
  clear a8 a9 hd
  obtain ⟨grp2, nd2, hbox2⟩ := HB.out.wk.box
  obtain ⟨_, _, b8, _⟩ := cellsW hbox2
  have hq2 := HB.out.wk.lt
  have hg := HB.out.rbox
  obtain ⟨z0, z1, f0, f1⟩ := cells2 hg
  have zl := blk_lt hg
  obtain ⟨y0, y1, y2, y3, y4⟩ := cells5 HB.out.ebox
  clear hbox2
  by_cases hn : 60 < nd2
  · go_wp2_with fail
    refine bodyPost_ret (results_three rfl rfl rfl rfl (agg_218 (set2 hg) rfl)) rfl ?_
    exact kind_ret HB.out HQ.out (path_nil _ _ _) (fun h => absurd h (by decide))
  go_wp2_with fail
  with_reducible refine (CF.out _ HB.out.wk.below).mono ?_
  rintro e w1 ⟨v, rfl, hv, hb⟩
  have HB1 := Aside0.mk (HB.out.next hb)
  have HV := Aside0.mk hv
  clear hv hb z0 z1 f0 f1 zl y0 y1 y2 y3 y4 b8 hn
  have hg := HB1.out.rbox
  obtain ⟨z0, z1, f0, f1⟩ := cells2 hg
  have zl := blk_lt hg
  cases v with
  | false =>
    go_wp2_with fail
    refine bodyPost_ret (results_three rfl rfl rfl rfl (agg_218 (set2 hg) rfl)) rfl ?_
    exact kind_ret HB1.out HQ.out (path_nil _ _ _) (fun h => absurd h (by decide))
  | true =>
  have HF := Aside0.mk (HV.out rfl)
  clear HV
  obtain ⟨y0, y1, y2, y3, y4⟩ := cells5 HB1.out.ebox
  go_wp2_with fail
  with_reducible refine (CT.out _ HB1.out.wk).mono ?_
  rintro e w2 ⟨v, rfl, _, hb⟩
  have HB2 := Aside0.mk (HB1.out.next hb)
  clear hb z0 z1 f0 f1 zl y0 y1 y2 y3 y4
  have hg := HB2.out.rbox
  obtain ⟨z0, z1, f0, f1⟩ := cells2 hg
  have zl := blk_lt hg
  cases v with
  | false =>
    go_wp2_with fail
    refine bodyPost_ret (results_three rfl rfl rfl rfl (agg_218 (set2 hg) rfl)) rfl ?_
    exact kind_ret HB2.out HQ.out (path_nil _ _ _) (fun h => absurd h (by decide))
  | true =>
  clear z0 z1 f0 f1 zl
  go_wp2_with fail
  go_loopg [9, 10] (l.length + 1) (fun kq v9 v10 w' => ∃ (i : Nat) (V : Value) (ks : List S74), v9 = V ∧ v10 = .int .i64 (i : Int) ∧ Aside0 (kq + i = l.length + 1) ∧ Aside0 (i ≤ l.length) ∧ Aside0 (ks.length = i) ∧ Aside0 (∀ y ∈ l.take i, fmE d y) ∧ Aside0 (KB w0 _ q w #[.int .i64 e0, .int .i64 e1, .int .i64 e2, .int .i64 e3, .slice A l.length c] ks V w'))
  case atStart => exact ⟨0, _, [], rfl, rfl, ⟨by omega⟩, ⟨by omega⟩, ⟨rfl⟩, ⟨by simp⟩, HB2⟩
  case round =>
    obtain ⟨i, V, ks, rfl, rfl, HKQ, HI, HL, HT, HW⟩ := hrel
    obtain ⟨A9, c9, rfl, hlc9, hC9⟩ := Kd.R_reads HW.out.row
    have HC9 := Aside0.mk hC9
    clear hC9
    cases gk with
    | zero => exact absurd HKQ.out (by have := HI.out; omega)
    | succ k2 =>
      obtain ⟨y0, y1, y2, y3, y4⟩ := cells5 HW.out.ebox
      have hg := HW.out.rbox
      obtain ⟨z0, z1, f0, f1⟩ := cells2 hg
      have zl := blk_lt hg
      have hq3 := HW.out.wk.lt
      by_cases hlt : i < l.length
      · obtain ⟨ad, A4', c4', hA, g0, g1, g2, g3, g4, l4, hC4⟩ := at_T80 HC.out (i : Int) (by omega) (by first | omega | (dsimp only; omega))
        subst hA
        rw [rd80 hlt, Int.toNat_natCast] at *
        have hw1 : wrap64 (deep + 1) = deep + 1 := by have := HD.out; unfold wrap64; omega
        have CK := Aside0.mk (fun (W : World) (h : Wk w0 _ q W) => IH.out l[i] A4' c4' (wrap64 (deep + 1)) W (by have := HD.out; rw [hw1]; omega) (by have := HD.out; rw [hw1]; omega) hC4 h)
        have a0 := old_cell HW.out.wk.below g0
        have a1 := old_cell HW.out.wk.below g1
        have a2 := old_cell HW.out.wk.below g2
        have a3 := old_cell HW.out.wk.below g3
        have a4 := old_cell HW.out.wk.below g4
        have p0 : (0 : Int) ≤ (i : Int) := by omega
        have p1 : (i : Int) < (l.length : Int) := by omega
        have HX := Aside0.mk (show l[i]? = some l[i] from List.getElem?_eq_getElem hlt)
        generalize l[i] = x at *
        clear g0 g1 g2 g3 g4 l4 hC4 z0 z1 f0 f1 zl hg hw1
        go_wp2_with fail
        with_reducible refine (CK.out _ HW.out.wk).mono ?_
        rintro e w3 ⟨kk, kt, PA, pn, pc, bad, rfl, hm, hk3, hpath, hbad⟩
        have HW3 := Aside0.mk (HW.out.move HQ.out hm hk3)
        have HPA := Aside0.mk hpath
        have HBD := Aside0.mk hbad
        clear hm hk3 hpath hbad y0 y1 y2 y3 y4 a0 a1 a2 a3 a4 CK
        by_cases hb0 : bad = 0
        · subst hb0
          have HFX := Aside0.mk (HBD.out rfl)
          have HLN := Aside0.mk (show (ks.length + 1) * 16 ≤ 140737488355328 by have h6 := HF.out.six; have h7 := HL.out; have h8 : l.length ≤ 6 := h6; omega)
          have HW4 := Aside0.mk (HW3.out.next (bel (w' := w3.alloc (.cells #[.int .i64 kk, .int .i64 kt] 218))))
          clear HBD
          go_wp2_with (at_builtin; go_loud (refine Kd.R_append k74 (w.heap.size + 2) rfl _ _ 244 218 (.agg #[.int .i64 0, .int .i64 0]) 16 rfl Try.underlying244 info218' rfl (by decide) (by decide) (.slice A9 ks.length c9) ks ⟨kk, kt⟩ [.int .i64 kk, .int .i64 kt] (fun _ => True) (fun _ => False) rfl (by rw [World.size_alloc]; rfl) (k74_mkM _ _ _ ⟨kk, kt⟩) (fun _ h => h.elim) (fun _ _ => trivial) HW4.out.row (Below.refl _ _) HW4.out.big HLN.out ?_); intro v9 w4 ho9 hb9 _ _)
          obtain ⟨A10, c10, rfl, _, _⟩ := Kd.R_reads ho9
          have HN := Aside0.mk (HW4.out.push HQ.out ho9 hb9)
          clear ho9 hb9
          try go_wp2_with fail
          go_roundg k2
          case measure => omega
          case rel => exact ⟨i + 1, _, ks ++ [⟨kk, kt⟩], rfl, by simp, ⟨by have := HKQ.out; omega⟩, ⟨by omega⟩, ⟨by rw [List.length_append, HL.out]; rfl⟩, ⟨take_next HX.out HT.out HFX.out⟩, HN⟩
        · have hg := HW3.out.rbox
          obtain ⟨z0, z1, f0, f1⟩ := cells2 hg
          have zl := blk_lt hg
          have HPB := Aside0.mk (HPA.out.below (bel (w' := w3.alloc (.cells #[.int .i64 kk, .int .i64 kt] 218))))
          have HW4 := Aside0.mk (HW3.out.next (bel (w' := w3.alloc (.cells #[.int .i64 kk, .int .i64 kt] 218))))
          have hd8 : d ≤ 8 := by have := HD.out; omega
          clear HPA z0 z1 f0 f1 zl hg
          go_wp2_with fail
          with_reducible refine (ahead_c d wr.heap.size (by omega) _ PA pn pc _ HPB.out).mono ?_
          rintro e w5 ⟨PB, qn, qc, rfl, hpb, hb⟩
          have HW5 := Aside0.mk (HW4.out.next hb)
          have HPC := Aside0.mk (hpb.more (Nat.le_refl _) (show w.heap.size + 2 ≤ _ by have := HW4.out.big; omega))
          clear hpb hb
          have hg := HW5.out.rbox
          obtain ⟨z0, z1, f0, f1⟩ := cells2 hg
          have zl := blk_lt hg
          go_wp2_with fail
          refine bodyPost_ret (results_three rfl rfl rfl rfl (agg_218 (set2 hg) rfl)) rfl ?_
          exact kind_ret HW5.out HQ.out HPC.out (fun h => absurd h hb0)
      · have HFE := Aside0.mk (show fmE (d + 1) ⟨e0, e1, e2, e3, l⟩ from ⟨HF.out, fun y hy => HT.out y (by rw [List.take_of_length_le (by omega)]; exact hy)⟩)
        have HLL := Aside0.mk (show ks.length = l.length by have := HL.out; have := HI.out; omega)
        clear HKQ HI HL HT z0 z1 f0 f1 zl hg
        by_cases h0 : ks.length = 0
        · have HO := Aside0.mk (show 1 ≤ e0 ∧ e0 ≤ 12 from ⟨HF.out.one, by
            by_cases h : 13 ≤ e0
            · have h5 := HF.out.some h
              have h6 : 1 ≤ l.length := h5
              have := HLL.out
              omega
            · omega⟩)
          go_wp2_with fail
          with_reducible refine (CL.out _ HW.out.wk HO.out).mono ?_
          rintro e w3 ⟨kk, kt, b, rfl, hb⟩
          have HW3 := Aside0.mk (HW.out.next hb)
          have HW4 := Aside0.mk (HW3.out.next (bel (w' := w3.alloc (.cells #[.int .i64 kk, .int .i64 kt] 218))))
          clear hb y0 y1 y2 y3 y4
          have hg := HW4.out.rbox
          obtain ⟨z0, z1, f0, f1⟩ := cells2 hg
          have zl := blk_lt hg
          cases b with
          | false =>
            go_wp2_with fail
            refine bodyPost_ret (results_three rfl rfl rfl rfl (agg_218 (set2 hg) rfl)) rfl ?_
            exact kind_ret HW4.out HQ.out (path_nil _ _ _) (fun h => absurd h (by decide))
          | true =>
            go_wp2_with fail
            refine bodyPost_ret (results_three rfl rfl rfl rfl (agg_218 (set2 hg) rfl)) rfl ?_
            exact kind_ret HW4.out HQ.out (path_nil _ _ _) (fun _ => HFE.out)
        · have HNO := Aside0.mk (show 13 ≤ e0 ∧ e0 ≤ 41 ∧ 1 ≤ ks.length ∧ (e0 = 25 ∨ e0 = 26 ∨ e0 = 36 → 2 ≤ ks.length) ∧ (e0 = 34 → 3 ≤ ks.length) from by
            have h1 := HF.out.none
            have h2 := HF.out.last
            have h3 := HF.out.two
            have h4 := HF.out.three
            have h5 := HLL.out
            replace h1 : e0 ≤ 12 → l.length = 0 := h1
            replace h2 : e0 ≤ 41 := h2
            replace h3 : e0 = 25 ∨ e0 = 26 ∨ e0 = 36 → 2 ≤ l.length := h3
            replace h4 : e0 = 34 → 3 ≤ l.length := h4
            refine ⟨?_, h2, by omega, fun h => by have := h3 h; omega, fun h => by have := h4 h; omega⟩
            by_cases h : e0 ≤ 12
            · have := h1 h; omega
            · omega)
          have h0b : ((ks.length : Int) == 0) = false := by rw [beq_eq_false_iff_ne]; omega
          go_wp2_with fail
          with_reducible refine (node_c e0 ks A9 c9 _ HC9.out HNO.out).mono ?_
          rintro e w3 ⟨kk, kt, b, rfl, hb⟩
          have HW3 := Aside0.mk (HW.out.next hb)
          have HW4 := Aside0.mk (HW3.out.next (bel (w' := w3.alloc (.cells #[.int .i64 kk, .int .i64 kt] 218))))
          clear hb y0 y1 y2 y3 y4
          by_cases hb0 : 0 ≤ b
          · have HW5 := Aside0.mk (HW4.out.next (bel (w' := (w3.alloc (.cells #[.int .i64 kk, .int .i64 kt] 218)).alloc (.cells #[.int .i64 b] 3))))
            have hg := HW5.out.rbox
            obtain ⟨z0, z1, f0, f1⟩ := cells2 hg
            have zl := blk_lt hg
            have HPO := Aside0.mk (show PathR (d + 1) (w.heap.size + 2) ((w3.alloc (.cells #[.int .i64 kk, .int .i64 kt] 218)).alloc (.cells #[.int .i64 b] 3)) (some ⟨w3.heap.size + 1, 0, none⟩) 1 from by
              have h := path_one (d + 1) (by omega) (w3.alloc (.cells #[.int .i64 kk, .int .i64 kt] 218)) b
              rw [World.size_alloc] at h
              exact h.more (Nat.le_refl _) (by have := HW3.out.big; omega))
            go_wp2_with fail
            refine bodyPost_ret (results_three rfl rfl rfl rfl (agg_218 (set2 hg) rfl)) rfl ?_
            exact kind_ret HW5.out HQ.out HPO.out (fun h => absurd h (by decide))
          · have hg := HW4.out.rbox
            obtain ⟨z0, z1, f0, f1⟩ := cells2 hg
            have zl := blk_lt hg
            go_wp2_with fail
            refine bodyPost_ret (results_three rfl rfl rfl rfl (agg_218 (set2 hg) rfl)) rfl ?_
            exact kind_ret HW4.out HQ.out (path_nil _ _ _) (fun _ => HFE.out)
end Go.Proofs.Ytpbdkkahodaloaa.J
end

section
namespace Go.Proofs.Ytpbdkkahodaloaa.J
open Go.RowKit Go.Proofs.Ytpbdkkahodaloaa.PS Go.Proofs.Ytpbdkkahodaloaa.U Go.Proofs.Ytpbdkkahodaloaa.T Go.Proofs.YtpbdkkahodaloaaW.PrintWords Go.Proofs.YtpbdkkahodaloaaW.PrintMore
set_option linter.unusedVariables false
set_option maxRecDepth 100000
theorem kind_c (w0 : World) (u : Value) (p : Pk) (hp : Lies w0 u p) (hty : ∀ x ∈ p.lines, 1 ≤ x.f3) (q : Nat) : ∀ d, KindC d w0 u q
  | 0 => kind_zero w0 u p hp q
  | d + 1 => kind_succ w0 u p hp hty q d (kind_c w0 u p hp hty q d)
theorem results_four {fn : Func} {a b c d : Tmp} (h : fn.results = #[.tmp a, .tmp b, .tmp c, .tmp d]) (tmps : Array Value) (w : World) :
    (results fn tmps).run Try.prog w = .ok (.tuple #[tmps.getD a undef, tmps.getD b undef, tmps.getD c undef, tmps.getD d undef]) w := by
  simp [results, h]
def TypeR (x : S80) (w : World) (e : Ending) (w' : World) : Prop := ∃ k t A n c bad, e = .returned (.tuple #[.int .i64 k, .int .i64 t, .slice A n c, .int .i64 bad]) ∧ Below w.heap.size w w' ∧ PathR 8 w.heap.size w' A n ∧ (bad = 0 → fmE 8 x)
set_option maxHeartbeats 4000000 in
theorem type_c (w : World) (u : Value) (p : Pk) (hp : Lies w u p) (hty : ∀ x ∈ p.lines, 1 ≤ x.f3) (grp : Int) (x : S80) (A : Option Addr) (c : Nat) (hC : k80.C w A x.f4.length x.f4) :
    Calls Try.prog 152 #[u, .int .i64 grp, .agg (kargs 0 x A c)] w (TypeR x w) := by
  have HP := Aside0.mk hp
  have CK := Aside0.mk (fun (W : World) (h : Wk w u (w.heap.size + 2) W) => kind_c w u p hp hty (w.heap.size + 2) 8 x A c 1 W (by omega) (by omega) hC h)
  obtain ⟨A2, c2, A3, c3, A4, c4, A5, c5, A6, c6, rfl, hrest⟩ := hp
  have HW0 := Aside0.mk (show Wk w (.agg #[.string p.name, .int .i64 p.year, .slice A2 p.options.length c2, .slice A3 p.tables.length c3, .slice A4 p.groups.length c4, .slice A5 p.lines.length c5, .slice A6 p.checks.length c6]) (w.heap.size + 2)
      (((w.alloc (.cells #[.string p.name, .int .i64 p.year, .slice A2 p.options.length c2, .slice A3 p.tables.length c3, .slice A4 p.groups.length c4, .slice A5 p.lines.length c5, .slice A6 p.checks.length c6] 33)).alloc (.cells #[.int .i64 x.f0, .int .i64 x.f1, .int .i64 x.f2, .int .i64 x.f3, .slice A x.f4.length c] 80)).alloc
        (.cells #[.string p.name, .int .i64 p.year, .slice A2 p.options.length c2, .slice A3 p.tables.length c3, .slice A4 p.groups.length c4, .slice A5 p.lines.length c5, .slice A6 p.checks.length c6, .int .i64 grp, .int .i64 0] 241)) from
    ⟨bel, by omega, grp, 0, by
      have h := blk_new ((w.alloc (.cells #[.string p.name, .int .i64 p.year, .slice A2 p.options.length c2, .slice A3 p.tables.length c3, .slice A4 p.groups.length c4, .slice A5 p.lines.length c5, .slice A6 p.checks.length c6] 33)).alloc (.cells #[.int .i64 x.f0, .int .i64 x.f1, .int .i64 x.f2, .int .i64 x.f3, .slice A x.f4.length c] 80)) (.cells #[.string p.name, .int .i64 p.year, .slice A2 p.options.length c2, .slice A3 p.tables.length c3, .slice A4 p.groups.length c4, .slice A5 p.lines.length c5, .slice A6 p.checks.length c6, .int .i64 grp, .int .i64 0] 241)
      rw [World.size_alloc, World.size_alloc] at h
      exact h⟩)
  clear hrest hty hC
  go_enter Try.func152, Try.ntmps152
  go_wp2_with fail
  with_reducible refine (CK.out _ HW0.out).mono ?_
  rintro e w1 ⟨k, t, PA, pn, pc, bad, rfl, hm, hk, hpath, hbad⟩
  have HB := Aside0.mk (below_alloc hk.below (.cells #[.int .i64 k, .int .i64 t] 218))
  have HPA := Aside0.mk (hpath.below (below_alloc (Below.refl _ w1) (.cells #[.int .i64 k, .int .i64 t] 218)))
  have HBD := Aside0.mk hbad
  clear hm hk hpath hbad
  by_cases h0 : bad = 0
  · subst h0
    go_wp2_with fail
    go_quiet (fail)
    go_wp2_with fail
    refine bodyPost_ret (results_four rfl _ _) rfl ?_
    exact ⟨k, t, none, 0, 0, 0, rfl, pw_below_drewN HB.out _, path_nil _ _ _, fun _ => HBD.out trivial⟩
  · go_wp2_with fail
    refine bodyPost_ret (results_four rfl _ _) rfl ?_
    exact ⟨_, _, PA, pn, pc, bad, rfl, HB.out, HPA.out.more (Nat.le_refl _) (by simp only [World.size_alloc]; omega), fun h => absurd h h0⟩
def TypedR (x : S80) (nodes : Int) (w : World) (e : Ending) (w' : World) : Prop := ∃ A n c bad m, e = .returned (.tuple #[.slice A n c, .int .i64 bad, .int .i64 m]) ∧ Below w.heap.size w w' ∧ PathR 8 w.heap.size w' A n ∧ (bad = 0 → fmE 8 x ∧ m = nodes + (cntE 8 x : Nat) ∧ m ≤ 60)
structure TB (w : World) (us es ks : Array Value) (w' : World) : Prop where
  below : Below w.heap.size w w'
  one : w'.heap[w.heap.size]? = some (.cells us 33 (0, 0))
  two : w'.heap[w.heap.size + 1]? = some (.cells es 80 (0, 0))
  three : w'.heap[w.heap.size + 2]? = some (.cells ks 218 (0, 0))
theorem TB.new (w : World) (us es ks : Array Value) : TB w us es ks (((w.alloc (.cells us 33)).alloc (.cells es 80)).alloc (.cells ks 218)) := by
  refine ⟨bel, blk_alloc (blk_alloc (blk_new w _) _) _, blk_alloc (blk_two w _ _) _, ?_⟩
  have h := blk_new ((w.alloc (.cells us 33)).alloc (.cells es 80)) (.cells ks 218)
  rwa [World.size_alloc, World.size_alloc] at h
theorem TB.next {w w' w2 : World} {us es ks : Array Value} (h : TB w us es ks w') (hb : Below w'.heap.size w' w2) : TB w us es ks w2 := ⟨below_then h.below h.below.size hb, blk_below h.one hb, blk_below h.two hb, blk_below h.three hb⟩
set_option maxHeartbeats 4000000 in
theorem typed_c (w : World) (u : Value) (p : Pk) (hp : Lies w u p) (hty : ∀ x ∈ p.lines, 1 ≤ x.f3) (grp : Int) (x : S80) (A : Option Addr) (c : Nat) (hC : k80.C w A x.f4.length x.f4) (kk kt nodes : Int) (hn : 0 ≤ nodes ∧ nodes ≤ 60) :
    Calls Try.prog 136 #[u, .int .i64 grp, .agg (kargs 0 x A c), .agg #[.int .i64 kk, .int .i64 kt], .int .i64 nodes] w (TypedR x nodes w) := by
  have HN := Aside0.mk hn
  have CT := Aside0.mk (fun (W : World) (h : Below w.heap.size w W) => type_c W u p (hp.below h) hty grp x A c (Kd.C_below hC h))
  have CN := Aside0.mk (fun (W : World) (h : Below w.heap.size w W) (hf : fmE 8 x) => nodes_c 8 x A c W (by omega) hf (Kd.C_below hC h))
  obtain ⟨A2, c2, A3, c3, A4, c4, A5, c5, A6, c6, rfl, hrest⟩ := hp
  have HB := Aside0.mk (TB.new w #[.string p.name, .int .i64 p.year, .slice A2 p.options.length c2, .slice A3 p.tables.length c3, .slice A4 p.groups.length c4, .slice A5 p.lines.length c5, .slice A6 p.checks.length c6] (kargs 0 x A c) #[.int .i64 kk, .int .i64 kt])
  clear hrest hty hC hn
  go_enter Try.func136, Try.ntmps136
  go_wp2_with fail
  with_reducible refine (CT.out _ HB.out.below).mono ?_
  rintro e w1 ⟨k, t, PA, pn, pc, bad, rfl, hb, hpath, hbad⟩
  have HB1 := Aside0.mk (HB.out.next hb)
  have HPA := Aside0.mk (hpath.more (Nat.le_refl _) HB.out.below.size)
  have HBD := Aside0.mk hbad
  clear hb hpath hbad HB
  by_cases h0 : bad = 0
  case neg =>
    go_wp2_with fail
    go_ret3
    exact ⟨PA, pn, pc, bad, _, rfl, HB1.out.below, HPA.out, fun h => absurd h h0⟩
  subst h0
  have HF := Aside0.mk (HBD.out rfl)
  obtain ⟨z0, z1, _, _⟩ := cells2 HB1.out.three
  have zl := blk_lt HB1.out.three
  clear HBD HPA
  by_cases h1 : k = kk ∧ t = kt
  case neg =>
    by_cases h2 : k = kk
    · have h3 : ¬ t = kt := fun h => h1 ⟨h2, h⟩
      clear h1
      go_wp2_with fail
      go_ret3
      exact ⟨none, 0, 0, 69, _, rfl, HB1.out.below, path_nil _ _ _, fun h => absurd h (by decide)⟩
    · clear h1
      go_wp2_with fail
      go_ret3
      exact ⟨none, 0, 0, 69, _, rfl, HB1.out.below, path_nil _ _ _, fun h => absurd h (by decide)⟩
  obtain ⟨rfl, rfl⟩ := h1
  obtain ⟨y0, y1, y2, y3, y4⟩ := cells5 HB1.out.two
  have hm := cnt_most 8 x HF.out
  have hm2 : (7 : Nat) ^ 8 = 5764801 := by decide
  have hw : wrap64 (nodes + (cntE 8 x : Nat)) = nodes + (cntE 8 x : Nat) := by have := HN.out; unfold wrap64; omega
  have HWR := Aside0.mk hw
  clear hm hm2 hw
  go_wp2_with fail
  with_reducible refine (CN.out _ HB1.out.below HF.out).mono ?_
  rintro e w2 ⟨rfl, hb⟩
  have HB2 := Aside0.mk (HB1.out.next hb)
  have hw := HWR.out
  clear hb
  by_cases h6 : 60 < nodes + (cntE 8 x : Nat)
  · go_wp2_with fail
    go_ret3
    exact ⟨none, 0, 0, 60, _, rfl, HB2.out.below, path_nil _ _ _, fun h => absurd h (by decide)⟩
  · go_wp2_with fail
    go_ret3
    exact ⟨none, 0, 0, 0, _, rfl, HB2.out.below, path_nil _ _ _, fun _ => ⟨HF.out, HWR.out, by rw [HWR.out]; omega⟩⟩
end Go.Proofs.Ytpbdkkahodaloaa.J
end

section
namespace Go.Proofs.Ytpbdkkahodaloaa.J
open Go.RowKit Go.Proofs.Ytpbdkkahodaloaa.PS Go.Proofs.Ytpbdkkahodaloaa.U Go.Proofs.Ytpbdkkahodaloaa.T Go.Proofs.YtpbdkkahodaloaaW.PrintWords Go.Proofs.YtpbdkkahodaloaaW.PrintMore
set_option linter.unusedVariables false
set_option maxRecDepth 100000
structure EB (w : World) (us ls : Array Value) (gl : Nat) (w' : World) : Prop where
  below : Below w.heap.size w w'
  one : w'.heap[w.heap.size]? = some (.cells us 33 (0, 0))
  two : w'.heap[w.heap.size + 1]? = some (.cells spot0 91 (0, 0))
  three : w'.heap[gl]? = some (.cells ls 77 (0, 0))
theorem EB.next {w w' w2 : World} {us ls : Array Value} {gl : Nat} (h : EB w us ls gl w') (hb : Below w'.heap.size w' w2) : EB w us ls gl w2 := ⟨below_then h.below h.below.size hb, blk_below h.one hb, blk_below h.two hb, blk_below h.three hb⟩
theorem below_tr {a b c : World} (h : Below a.heap.size a b) (k : Below b.heap.size b c) : Below a.heap.size a c := below_then h h.size k
theorem fits {e : S80} (hf : fmE 8 e) (ho : okE 64 e) : (encE 64 e).length ≤ 24 * cntE 8 e ∧ deepE 64 e = false := by
  have h := encE_fits 8 64 e (by omega) hf ho
  rwa [cnt_fuel 8 64 e hf (by omega)] at h
theorem rd77 {l : List S77} {i : Nat} {x : S77} (h : l[i]? = some x) : rd_T77 l (i : Int) = x := by unfold rd_T77; rw [Int.toNat_natCast, List.getD_eq_getElem?_getD, h]; rfl
theorem rd100 {l : List S100} {i : Nat} {x : S100} (h : l[i]? = some x) : rd_T100 l (i : Int) = x := by unfold rd_T100; rw [Int.toNat_natCast, List.getD_eq_getElem?_getD, h]; rfl
theorem rd82 {l : List S82} {i : Nat} {x : S82} (h : l[i]? = some x) : rd_T82 l (i : Int) = x := by unfold rd_T82; rw [Int.toNat_natCast, List.getD_eq_getElem?_getD, h]; rfl
theorem sum_take {α : Type} {l : List α} {f : α → Nat} {i : Nat} {a : α} (h : l[i]? = some a) : ((l.take (i + 1)).map f).sum = ((l.take i).map f).sum + f a := by
  rw [List.take_add_one, h, List.map_append, List.sum_append]
  show _ + (f a + 0) = _
  omega
set_option maxHeartbeats 16000000 in
theorem exprs_c (w : World) (u : Value) (p : Pk) (hp : Lies w u p) (ok : okPk p) (hO : OkP p) (hF : Few p) : Calls Try.prog 108 #[u] w (SpotPost (fun v => v = 0 → (∀ x ∈ p.lines, LX x) ∧ ∀ x ∈ p.checks, CX x) w) := by
  have HL := Aside0.mk hp
  have CT := Aside0.mk (fun (W : World) (h : Below w.heap.size w W) => typed_c W u p (hp.below h) (fun x hx => (hO.lines x hx).ty))
  obtain ⟨A2, c2, A3, c3, A4, c4, A5, c5, A6, c6, rfl, _, _, _, hx5, hx6, _⟩ := hp
  have HX5 := Aside0.mk hx5
  have HX6 := Aside0.mk hx6
  have HO := Aside0.mk hO
  have HOK := Aside0.mk ok
  have HF := Aside0.mk hF
  have B0 := Aside0.mk (Boxes2.new w #[.string p.name, .int .i64 p.year, .slice A2 p.options.length c2, .slice A3 p.tables.length c3, .slice A4 p.groups.length c4, .slice A5 p.lines.length c5, .slice A6 p.checks.length c6] spot0 33 91 rfl)
  have hmax5 : p.lines.length ≤ 48 := hF.l
  have hmax6 : p.checks.length ≤ 16 := hF.c
  clear hx5 hx6 hO ok hF
  go_enter Try.func108, Try.ntmps108
  go_wp2_with fail
  go_loopg [4] (p.lines.length + 1) (fun kq v4 w' => ∃ i : Nat, v4 = .int .i64 (i : Int) ∧ Aside0 (kq + i = p.lines.length + 1) ∧ Aside0 (i ≤ p.lines.length) ∧ Aside0 (∀ y ∈ p.lines.take i, LX y) ∧ Aside0 (Boxes2 w (w.heap.size + 1) #[.string p.name, .int .i64 p.year, .slice A2 p.options.length c2, .slice A3 p.tables.length c3, .slice A4 p.groups.length c4, .slice A5 p.lines.length c5, .slice A6 p.checks.length c6] 33 spot0 91 w'))
  case atStart => exact ⟨0, rfl, ⟨by omega⟩, ⟨by omega⟩, ⟨by simp⟩, B0⟩
  case round =>
    obtain ⟨i, rfl, HK, HI, HT, HW⟩ := hrel
    cases gk with
    | zero => exact absurd HK.out (by have := HI.out; omega)
    | succ k2 =>
      obtain ⟨a0, a1, a2, a3, a4, a5, a6⟩ := cells7 HW.out.one
      by_cases hlt : i < p.lines.length
      · obtain ⟨x, hx⟩ : ∃ x, p.lines[i]? = some x := ⟨_, List.getElem?_eq_getElem hlt⟩
        obtain ⟨ad, B, d, hA, e0, e1, e2, e3, e4, e5, e6, l6, g6⟩ := at_T77 (Kd.C_below HX5.out HW.out.below) (i : Int) (by omega) (by omega)
        subst hA
        rw [rd77 hx, Int.toNat_natCast] at *
        have HX := Aside0.mk hx
        have HKX := Aside0.mk (HOK.out.lines x (List.mem_of_getElem? hx))
        have HOX := Aside0.mk (HO.out.lines x (List.mem_of_getElem? hx))
        have p0 : (0 : Int) ≤ (i : Int) := by omega
        have p1 : (i : Int) < (p.lines.length : Int) := by omega
        have hmax7 : x.f6.length ≤ 6 := HOX.out.len
        obtain ⟨gl, v0, hgl, hv0⟩ : ∃ gl v0, gl = wr.heap.size ∧ v0 = wr.alloc (.cells #[.string x.f0, .bool x.f1, .bool x.f2, .int .i64 x.f3, .int .i64 x.f4, .int .i64 x.f5, .slice B x.f6.length d] 77) := ⟨_, _, rfl, rfl⟩
        have HE0 := Aside0.mk (show EB w #[.string p.name, .int .i64 p.year, .slice A2 p.options.length c2, .slice A3 p.tables.length c3, .slice A4 p.groups.length c4, .slice (some ad) p.lines.length c5, .slice A6 p.checks.length c6] #[.string x.f0, .bool x.f1, .bool x.f2, .int .i64 x.f3, .int .i64 x.f4, .int .i64 x.f5, .slice B x.f6.length d] gl v0 from by rw [hgl, hv0]; exact ⟨below_alloc HW.out.below _, blk_alloc HW.out.one _, blk_alloc HW.out.two _, blk_new wr _⟩)
        have HG6 := Aside0.mk (show k100.C v0 B x.f6.length x.f6 from by rw [hv0]; exact Kd.C_alloc g6 _)
        clear hx l6 g6
        go_wp2_with fail
        rw [← hv0, ← hgl]
        clear hv0 HW hgl a0 a1 a2 a3 a4 a5 a6 e0 e1 e2 e3 e4 e5 e6
        go_loopg [6, 7] (x.f6.length + 1) (fun kq v6 v7 w' => ∃ (k m : Nat), v6 = .int .i64 (m : Int) ∧ v7 = .int .i64 (k : Int) ∧ Aside0 (kq + k = x.f6.length + 1) ∧ Aside0 (k ≤ x.f6.length) ∧ Aside0 (m ≤ 60) ∧ Aside0 (((x.f6.take k).map wtC).sum + (if k = 0 then 2 else 0) ≤ 2 + 24 * m) ∧ Aside0 (∀ y ∈ x.f6.take k, deepClause y = false) ∧ Aside0 (Below v0.heap.size v0 w') ∧ Aside0 (EB w #[.string p.name, .int .i64 p.year, .slice A2 p.options.length c2, .slice A3 p.tables.length c3, .slice A4 p.groups.length c4, .slice (some ad) p.lines.length c5, .slice A6 p.checks.length c6] #[.string x.f0, .bool x.f1, .bool x.f2, .int .i64 x.f3, .int .i64 x.f4, .int .i64 x.f5, .slice B x.f6.length d] gl w'))
        case atStart => exact ⟨0, 0, rfl, rfl, ⟨by omega⟩, ⟨by omega⟩, ⟨by omega⟩, ⟨by simp⟩, ⟨by simp⟩, ⟨Below.refl _ _⟩, HE0⟩
        case round =>
          obtain ⟨k, m, rfl, rfl, HK2, HI2, HM2, HS2, HD2, HV2, HW2⟩ := hrel
          cases gk with
          | zero => exact absurd HK2.out (by have := HI2.out; omega)
          | succ k3 =>
            obtain ⟨a0, a1, a2, a3, a4, a5, a6⟩ := cells7 HW2.out.one
            obtain ⟨l0, l1, l2, l3, l4, l5, l6⟩ := cells7 HW2.out.three
            by_cases hlt2 : k < x.f6.length
            · obtain ⟨b, hb⟩ : ∃ b, x.f6[k]? = some b := ⟨_, List.getElem?_eq_getElem hlt2⟩
              obtain ⟨bd, B1, d1, B2, d2, hA, _, _, g2, g3, g4, g5, g6, g7, g8, g9, g10, g11, _, hC1, _, hC2⟩ := at_T100 (Kd.C_below HG6.out HV2.out) (k : Int) (by omega) (by omega)
              subst hA
              rw [rd100 hb, Int.toNat_natCast] at *
              have HBB := Aside0.mk hb
              have HKB := Aside0.mk (HKX.out.2.2.2 b (List.mem_of_getElem? hb))
              have hm60 := HM2.out
              have CG := Aside0.mk (fun (W : World) (h : Below wr.heap.size wr W) => (CT.out W (below_then HW2.out.below HW2.out.below.size h) x.f5 b.f2 B1 d1 (Kd.C_below hC1 h) 3 (-1) (m : Int) (by omega)).mono (fun e W' (hp : TypedR b.f2 (m : Int) W e W') => (show ∃ A n c bad m1, e = .returned (.tuple #[.slice A n c, .int .i64 bad, .int .i64 m1]) ∧ Below wr.heap.size wr W' ∧ PathR 8 0 W' A n ∧ (bad = 0 → fmE 8 b.f2 ∧ m1 = (m : Int) + (cntE 8 b.f2 : Nat) ∧ m1 ≤ 60) from by
                  obtain ⟨A, n, c, bad, m1, rfl, hb, hpt, hr⟩ := hp
                  exact ⟨A, n, c, bad, m1, rfl, below_then h h.size hb, hpt.more (Nat.le_refl _) (Nat.zero_le _), hr⟩)))
              have HC2 := Aside0.mk hC2
              have HG7 := Aside0.mk (And.intro g7 (And.intro g8 (And.intro g9 (And.intro g10 g11))))
              have p2 : (0 : Int) ≤ (k : Int) := by omega
              have p3 : (k : Int) < (x.f6.length : Int) := by omega
              clear hb hC1 hC2 g7 g8 g9 g10 g11
              go_upto_if 34 with (fail)
              go_cut [6, 8, 9] (fun v6 v8 v9 wd => ∃ (m2 : Nat) (PA : Option Addr) (pn pc : Nat), v6 = .int .i64 (m2 : Int) ∧ v8 = .slice PA pn pc ∧ v9 = .int .i64 0 ∧ Aside0 (m2 ≤ 60) ∧ Aside0 (Below wr.heap.size wr wd) ∧ Aside0 (((x.f6.take k).map wtC).sum + (encE 64 b.f2).length ≤ 2 + 24 * m2 ∧ deepE 64 b.f2 = false))
              case first =>
                by_cases hk0 : k = 0
                · subst hk0
                  go_wp2_with fail
                  go_meet
                  have hz := enc_zero (HOX.out.zero b HBB.out)
                  have h2 := HS2.out
                  exact ⟨m, _, _, _, rfl, rfl, rfl, HM2, ⟨Below.refl _ _⟩, ⟨by have := hz.1; simp; omega, hz.2⟩⟩
                · have hk1 : 0 < k := by omega
                  have hk2 : decide (0 < k) = true := decide_eq_true hk1
                  have hk3 : decide ((0 : Int) < (k : Int)) = true := decide_eq_true (by omega)
                  go_upto_region 12 with (fail)
                  have LSH := Aside0.mk (fun (w' : World) (h : Below wr.heap.size wr w') => (show w'.cell? ⟨w.heap.size, 0, none⟩ = some (.string p.name) ∧ w'.cell? ⟨w.heap.size, 1, none⟩ = some (.int .i64 p.year) ∧ w'.cell? ⟨w.heap.size, 2, none⟩ = some (.slice A2 p.options.length c2) ∧ w'.cell? ⟨w.heap.size, 3, none⟩ = some (.slice A3 p.tables.length c3) ∧ w'.cell? ⟨w.heap.size, 4, none⟩ = some (.slice A4 p.groups.length c4) ∧ w'.cell? ⟨w.heap.size, 5, none⟩ = some (.slice (some ad) p.lines.length c5) ∧ w'.cell? ⟨w.heap.size, 6, none⟩ = some (.slice A6 p.checks.length c6) ∧ w'.cell? ⟨gl, 5, none⟩ = some (.int .i64 x.f5) ∧ w'.cell? ⟨gl, 6, none⟩ = some (.slice (some bd) x.f6.length d) ∧ w'.cell? ⟨(bd.add (k * 12)).block, (bd.add (k * 12)).off + 2, none⟩ = some (.int .i64 b.f2.f0) ∧ w'.cell? ⟨(bd.add (k * 12)).block, (bd.add (k * 12)).off + 3, none⟩ = some (.int .i64 b.f2.f1) ∧ w'.cell? ⟨(bd.add (k * 12)).block, (bd.add (k * 12)).off + 4, none⟩ = some (.int .i64 b.f2.f2) ∧ w'.cell? ⟨(bd.add (k * 12)).block, (bd.add (k * 12)).off + 5, none⟩ = some (.int .i64 b.f2.f3) ∧ w'.cell? ⟨(bd.add (k * 12)).block, (bd.add (k * 12)).off + 6, none⟩ = some (.slice B1 b.f2.f4.length d1) ∧ Below wr.heap.size wr w' from ⟨old_cell h a0, old_cell h a1, old_cell h a2, old_cell h a3, old_cell h a4, old_cell h a5, old_cell h a6, old_cell h l5, old_cell h l6, old_cell h g2, old_cell h g3, old_cell h g4, old_cell h g5, old_cell h g6, h⟩))
                  go_region_held3 (fun w' => w'.cell? ⟨w.heap.size, 0, none⟩ = some (.string p.name) ∧ w'.cell? ⟨w.heap.size, 1, none⟩ = some (.int .i64 p.year) ∧ w'.cell? ⟨w.heap.size, 2, none⟩ = some (.slice A2 p.options.length c2) ∧ w'.cell? ⟨w.heap.size, 3, none⟩ = some (.slice A3 p.tables.length c3) ∧ w'.cell? ⟨w.heap.size, 4, none⟩ = some (.slice A4 p.groups.length c4) ∧ w'.cell? ⟨w.heap.size, 5, none⟩ = some (.slice (some ad) p.lines.length c5) ∧ w'.cell? ⟨w.heap.size, 6, none⟩ = some (.slice A6 p.checks.length c6) ∧ w'.cell? ⟨gl, 5, none⟩ = some (.int .i64 x.f5) ∧ w'.cell? ⟨gl, 6, none⟩ = some (.slice (some bd) x.f6.length d) ∧ w'.cell? ⟨(bd.add (k * 12)).block, (bd.add (k * 12)).off + 2, none⟩ = some (.int .i64 b.f2.f0) ∧ w'.cell? ⟨(bd.add (k * 12)).block, (bd.add (k * 12)).off + 3, none⟩ = some (.int .i64 b.f2.f1) ∧ w'.cell? ⟨(bd.add (k * 12)).block, (bd.add (k * 12)).off + 4, none⟩ = some (.int .i64 b.f2.f2) ∧ w'.cell? ⟨(bd.add (k * 12)).block, (bd.add (k * 12)).off + 5, none⟩ = some (.int .i64 b.f2.f3) ∧ w'.cell? ⟨(bd.add (k * 12)).block, (bd.add (k * 12)).off + 6, none⟩ = some (.slice B1 b.f2.f4.length d1) ∧ Below wr.heap.size wr w')
                    (first | exact LSH.out _ (by first | with_reducible exact hbv | with_reducible exact below_tr (below_drew (Below.refl _ _)) hbo | with_reducible exact below_drew (Below.refl _ _) | with_reducible exact Below.refl _ _))
                    (first | (go_at_call 136; refine (CG.out _ (by with_reducible exact below_drew (Below.refl _ _))).mono ?_; rintro e w2 ⟨PA, pn, pc, bad, mm, rfl, hbv, hpath, hres⟩))
                  have HPA := Aside0.mk hpath
                  have HRS := Aside0.mk hres
                  have HB2 := Aside0.mk hbv
                  clear hbv hpath hres
                  by_cases h0 : bad = 0
                  · subst h0
                    obtain ⟨hf, rfl, hm3⟩ := HRS.out rfl
                    go_wp2_with fail
                    go_meet
                    have hft := fits hf HKB.out.2.1
                    have h2 := HS2.out
                    rw [if_neg hk0] at h2
                    exact ⟨m + cntE 8 b.f2, PA, pn, pc, rfl, rfl, rfl, ⟨by omega⟩, HB2, ⟨by omega, hft.2⟩⟩
                  · have HW3 := Aside0.mk (HW2.out.next HB2.out)
                    clear a0 a1 a2 a3 a4 a5 a6 l0 l1 l2 l3 l4 l5 l6 g2 g3 g4 g5 g6
                    go_wp2_with fail
                    with_reducible refine (ahead_c 8 0 (by omega) _ PA pn pc _ (HPA.out.more (Nat.le_refl _) (Nat.zero_le _))).mono ?_
                    rintro e w9 ⟨PB, qn, qc, rfl, _, hb9⟩
                    have HQ9 := Aside0.mk (HW3.out.next hb9)
                    clear hb9
                    obtain ⟨z0, z1, z2, z3, f0, f1, f2, f3⟩ := spot_cells HQ9.out.two
                    have zl := blk_lt HQ9.out.two
                    go_wp2_with fail
                    refine bodyPost_ret (results_spot rfl _ _ _ #[_, _, _, _] _ rfl rfl (spot_set HQ9.out.two) (by kernel_rfl)) rfl ?_
                    exact spot_post (fun h => absurd h h0) (spot_below HQ9.out.below)
              case rest =>
              obtain ⟨m2, PA0, pn0, pc0, rfl, rfl, rfl, HM3, HV3, HS3⟩ := hcut
              clear a0 a1 a2 a3 a4 a5 a6 l0 l1 l2 l3 l4 l5 l6 g2 g3 g4 g5 g6 CG hm60
              have HW3 := Aside0.mk (HW2.out.next HV3.out)
              obtain ⟨a0, a1, a2, a3, a4, a5, a6⟩ := cells7 HW3.out.one
              obtain ⟨l0, l1, l2, l3, l4, l5, l6⟩ := cells7 HW3.out.three
              have g7 := old_cell HV3.out HG7.out.1
              have g8 := old_cell HV3.out HG7.out.2.1
              have g9 := old_cell HV3.out HG7.out.2.2.1
              have g10 := old_cell HV3.out HG7.out.2.2.2.1
              have g11 := old_cell HV3.out HG7.out.2.2.2.2
              have hm60 := HM3.out
              have hC2 := Kd.C_below HC2.out HV3.out
              have CB := Aside0.mk (fun (kk kt : Int) (W : World) (h : Below wc.heap.size wc W) => (CT.out W (below_then HW3.out.below HW3.out.below.size h) x.f5 b.f3 B2 d2 (Kd.C_below hC2 h) kk kt (m2 : Int) (by omega)).mono (fun e W' (hp : TypedR b.f3 (m2 : Int) W e W') => (show ∃ A n c bad m1, e = .returned (.tuple #[.slice A n c, .int .i64 bad, .int .i64 m1]) ∧ Below wc.heap.size wc W' ∧ PathR 8 0 W' A n ∧ (bad = 0 → fmE 8 b.f3 ∧ m1 = (m2 : Int) + (cntE 8 b.f3 : Nat) ∧ m1 ≤ 60) from by
                  obtain ⟨A, n, c, bad, m1, rfl, hb, hpt, hr⟩ := hp
                  exact ⟨A, n, c, bad, m1, rfl, below_then h h.size hb, hpt.more (Nat.le_refl _) (Nat.zero_le _), hr⟩)))
              clear hC2
              go_upto_region 15 with (fail)
              have LSH := Aside0.mk (fun (w' : World) (h : Below wc.heap.size wc w') => (show w'.cell? ⟨w.heap.size, 0, none⟩ = some (.string p.name) ∧ w'.cell? ⟨w.heap.size, 1, none⟩ = some (.int .i64 p.year) ∧ w'.cell? ⟨w.heap.size, 2, none⟩ = some (.slice A2 p.options.length c2) ∧ w'.cell? ⟨w.heap.size, 3, none⟩ = some (.slice A3 p.tables.length c3) ∧ w'.cell? ⟨w.heap.size, 4, none⟩ = some (.slice A4 p.groups.length c4) ∧ w'.cell? ⟨w.heap.size, 5, none⟩ = some (.slice (some ad) p.lines.length c5) ∧ w'.cell? ⟨w.heap.size, 6, none⟩ = some (.slice A6 p.checks.length c6) ∧ w'.cell? ⟨gl, 0, none⟩ = some (.string x.f0) ∧ w'.cell? ⟨gl, 1, none⟩ = some (.bool x.f1) ∧ w'.cell? ⟨gl, 2, none⟩ = some (.bool x.f2) ∧ w'.cell? ⟨gl, 3, none⟩ = some (.int .i64 x.f3) ∧ w'.cell? ⟨gl, 4, none⟩ = some (.int .i64 x.f4) ∧ w'.cell? ⟨gl, 5, none⟩ = some (.int .i64 x.f5) ∧ w'.cell? ⟨gl, 6, none⟩ = some (.slice (some bd) x.f6.length d) ∧ w'.cell? ⟨(bd.add (k * 12)).block, (bd.add (k * 12)).off + 7, none⟩ = some (.int .i64 b.f3.f0) ∧ w'.cell? ⟨(bd.add (k * 12)).block, (bd.add (k * 12)).off + 8, none⟩ = some (.int .i64 b.f3.f1) ∧ w'.cell? ⟨(bd.add (k * 12)).block, (bd.add (k * 12)).off + 9, none⟩ = some (.int .i64 b.f3.f2) ∧ w'.cell? ⟨(bd.add (k * 12)).block, (bd.add (k * 12)).off + 10, none⟩ = some (.int .i64 b.f3.f3) ∧ w'.cell? ⟨(bd.add (k * 12)).block, (bd.add (k * 12)).off + 11, none⟩ = some (.slice B2 b.f3.f4.length d2) ∧ Below wc.heap.size wc w' from ⟨old_cell h a0, old_cell h a1, old_cell h a2, old_cell h a3, old_cell h a4, old_cell h a5, old_cell h a6, old_cell h l0, old_cell h l1, old_cell h l2, old_cell h l3, old_cell h l4, old_cell h l5, old_cell h l6, old_cell h g7, old_cell h g8, old_cell h g9, old_cell h g10, old_cell h g11, h⟩))
              go_region_held3 (fun w' => w'.cell? ⟨w.heap.size, 0, none⟩ = some (.string p.name) ∧ w'.cell? ⟨w.heap.size, 1, none⟩ = some (.int .i64 p.year) ∧ w'.cell? ⟨w.heap.size, 2, none⟩ = some (.slice A2 p.options.length c2) ∧ w'.cell? ⟨w.heap.size, 3, none⟩ = some (.slice A3 p.tables.length c3) ∧ w'.cell? ⟨w.heap.size, 4, none⟩ = some (.slice A4 p.groups.length c4) ∧ w'.cell? ⟨w.heap.size, 5, none⟩ = some (.slice (some ad) p.lines.length c5) ∧ w'.cell? ⟨w.heap.size, 6, none⟩ = some (.slice A6 p.checks.length c6) ∧ w'.cell? ⟨gl, 0, none⟩ = some (.string x.f0) ∧ w'.cell? ⟨gl, 1, none⟩ = some (.bool x.f1) ∧ w'.cell? ⟨gl, 2, none⟩ = some (.bool x.f2) ∧ w'.cell? ⟨gl, 3, none⟩ = some (.int .i64 x.f3) ∧ w'.cell? ⟨gl, 4, none⟩ = some (.int .i64 x.f4) ∧ w'.cell? ⟨gl, 5, none⟩ = some (.int .i64 x.f5) ∧ w'.cell? ⟨gl, 6, none⟩ = some (.slice (some bd) x.f6.length d) ∧ w'.cell? ⟨(bd.add (k * 12)).block, (bd.add (k * 12)).off + 7, none⟩ = some (.int .i64 b.f3.f0) ∧ w'.cell? ⟨(bd.add (k * 12)).block, (bd.add (k * 12)).off + 8, none⟩ = some (.int .i64 b.f3.f1) ∧ w'.cell? ⟨(bd.add (k * 12)).block, (bd.add (k * 12)).off + 9, none⟩ = some (.int .i64 b.f3.f2) ∧ w'.cell? ⟨(bd.add (k * 12)).block, (bd.add (k * 12)).off + 10, none⟩ = some (.int .i64 b.f3.f3) ∧ w'.cell? ⟨(bd.add (k * 12)).block, (bd.add (k * 12)).off + 11, none⟩ = some (.slice B2 b.f3.f4.length d2) ∧ Below wc.heap.size wc w')
                (first | exact LSH.out _ (by first | with_reducible exact hbv | with_reducible exact below_tr (below_drew (Below.refl _ _)) hbo | with_reducible exact below_drew (Below.refl _ _) | with_reducible exact Below.refl _ _))
                (first | (go_at_call 138; refine (of_c x.f0 x.f1 x.f2 x.f3 x.f4 x.f5 (some bd) x.f6.length d _).mono ?_; rintro e w2 ⟨kk, kt, rfl, hbo⟩) | (go_at_call 136; refine (CB.out _ _ _ (by first | with_reducible exact below_tr (below_drew (Below.refl _ _)) hbo | with_reducible exact below_drew (Below.refl _ _))).mono ?_; rintro e w3 ⟨PA, pn, pc, bad, mm, rfl, hbv, hpath, hres⟩))
              have HPA := Aside0.mk hpath
              have HRS := Aside0.mk hres
              have HB2 := Aside0.mk hbv
              have HW4 := Aside0.mk (HW3.out.next HB2.out)
              clear hbv hpath hres hbo a0 a1 a2 a3 a4 a5 a6 l0 l1 l2 l3 l4 l5 l6 g7 g8 g9 g10 g11
              by_cases h0 : bad = 0
              · subst h0
                obtain ⟨hf, rfl, hm3⟩ := HRS.out rfl
                go_wp2_with fail
                go_roundg k3
                case measure => omega
                case rel =>
                  have hft := fits hf HKB.out.2.2
                  have h3 := HS3.out.1
                  exact ⟨k + 1, m2 + cntE 8 b.f3, rfl, by simp, ⟨by have := HK2.out; omega⟩, ⟨by omega⟩, ⟨by omega⟩, ⟨by rw [sum_take HBB.out, if_neg (by omega)]; have hw : wtC b = (encE 64 b.f2).length + (encE 64 b.f3).length := rfl; omega⟩, ⟨take_next HBB.out HD2.out (show deepClause b = false from by unfold deepClause; rw [HS3.out.2, hft.2]; rfl)⟩, ⟨below_tr (below_tr HV2.out HV3.out) HB2.out⟩, HW4⟩
              · clear HC2 HG7
                go_wp2_with fail
                with_reducible refine (ahead_c 8 0 (by omega) _ PA pn pc _ (HPA.out.more (Nat.le_refl _) (Nat.zero_le _))).mono ?_
                rintro e w9 ⟨PB, qn, qc, rfl, _, hb9⟩
                have HQ9 := Aside0.mk (HW4.out.next hb9)
                clear hb9
                obtain ⟨z0, z1, z2, z3, f0, f1, f2, f3⟩ := spot_cells HQ9.out.two
                have zl := blk_lt HQ9.out.two
                go_wp2_with fail
                refine bodyPost_ret (results_spot rfl _ _ _ #[_, _, _, _] _ rfl rfl (spot_set HQ9.out.two) (by kernel_rfl)) rfl ?_
                exact spot_post (fun h => absurd h h0) (spot_below HQ9.out.below)
            · have HLX := Aside0.mk (show LX x from ⟨by
                have h2 := HS2.out
                rw [List.take_of_length_le (by omega)] at h2
                have := HM2.out
                omega, all_of hlt2 HD2.out⟩)
              have HW3 := Aside0.mk (show Boxes2 w (w.heap.size + 1) #[.string p.name, .int .i64 p.year, .slice A2 p.options.length c2, .slice A3 p.tables.length c3, .slice A4 p.groups.length c4, .slice (some ad) p.lines.length c5, .slice A6 p.checks.length c6] 33 spot0 91 wr from ⟨HW2.out.below, HW2.out.one, HW2.out.two⟩)
              clear HK2 HI2 HM2 HS2 HD2 HV2 HW2
              go_wp2_with fail
              go_roundg k2
              case measure => omega
              case rel => exact ⟨i + 1, by simp, ⟨by have := HK.out; omega⟩, ⟨by omega⟩, ⟨take_next HX.out HT.out HLX.out⟩, HW3⟩
      · skip
        have HLX := Aside0.mk (all_of hlt HT.out)
        clear HK HI HT
        go_wp2_with fail
        clear a0 a1 a2 a3 a4 a5 a6
        have HV := HW
        go_loopg [10] (p.checks.length + 1) (fun kq v4 w' => ∃ i : Nat, v4 = .int .i64 (i : Int) ∧ Aside0 (kq + i = p.checks.length + 1) ∧ Aside0 (i ≤ p.checks.length) ∧ Aside0 (∀ y ∈ p.checks.take i, CX y) ∧ Aside0 (Boxes2 w (w.heap.size + 1) #[.string p.name, .int .i64 p.year, .slice A2 p.options.length c2, .slice A3 p.tables.length c3, .slice A4 p.groups.length c4, .slice A5 p.lines.length c5, .slice A6 p.checks.length c6] 33 spot0 91 w'))
        case atStart => exact ⟨0, rfl, ⟨by omega⟩, ⟨by omega⟩, ⟨by simp⟩, HV⟩
        case round =>
          obtain ⟨i, rfl, HK, HI, HT, HW⟩ := hrel
          cases gk with
          | zero => exact absurd HK.out (by have := HI.out; omega)
          | succ k4 =>
            obtain ⟨a0, a1, a2, a3, a4, a5, a6⟩ := cells7 HW.out.one
            by_cases hlt : i < p.checks.length
            · obtain ⟨a, hx⟩ : ∃ a, p.checks[i]? = some a := ⟨_, List.getElem?_eq_getElem hlt⟩
              obtain ⟨ad, B1, d1, hA, _, _, e2, e3, e4, e5, e6, e7, _, _, g7⟩ := at_T82 (Kd.C_below HX6.out HW.out.below) (i : Int) (by omega) (by omega)
              subst hA
              rw [rd82 hx, Int.toNat_natCast] at *
              have HX := Aside0.mk hx
              have HKX := Aside0.mk (HOK.out.checks a (List.mem_of_getElem? hx))
              have CG := Aside0.mk (fun (W : World) (h : Below wr.heap.size wr W) => (CT.out W (below_then HW.out.below HW.out.below.size h) a.f2 a.f3 B1 d1 (Kd.C_below g7 h) 3 (-1) 0 (by omega)).mono (fun e W' (hp : TypedR a.f3 0 W e W') => (show ∃ A n c bad m1, e = .returned (.tuple #[.slice A n c, .int .i64 bad, .int .i64 m1]) ∧ Below wr.heap.size wr W' ∧ PathR 8 0 W' A n ∧ (bad = 0 → fmE 8 a.f3 ∧ m1 = 0 + (cntE 8 a.f3 : Nat) ∧ m1 ≤ 60) from by
                  obtain ⟨A, n, c, bad, m1, rfl, hb, hpt, hr⟩ := hp
                  exact ⟨A, n, c, bad, m1, rfl, below_then h h.size hb, hpt.more (Nat.le_refl _) (Nat.zero_le _), hr⟩)))
              have p0 : (0 : Int) ≤ (i : Int) := by omega
              have p1 : (i : Int) < (p.checks.length : Int) := by omega
              clear hx g7
              go_upto_region 21 with (fail)
              have LSH := Aside0.mk (fun (w' : World) (h : Below wr.heap.size wr w') => (show w'.cell? ⟨w.heap.size, 0, none⟩ = some (.string p.name) ∧ w'.cell? ⟨w.heap.size, 1, none⟩ = some (.int .i64 p.year) ∧ w'.cell? ⟨w.heap.size, 2, none⟩ = some (.slice A2 p.options.length c2) ∧ w'.cell? ⟨w.heap.size, 3, none⟩ = some (.slice A3 p.tables.length c3) ∧ w'.cell? ⟨w.heap.size, 4, none⟩ = some (.slice A4 p.groups.length c4) ∧ w'.cell? ⟨w.heap.size, 5, none⟩ = some (.slice A5 p.lines.length c5) ∧ w'.cell? ⟨w.heap.size, 6, none⟩ = some (.slice (some ad) p.checks.length c6) ∧ w'.cell? ⟨(ad.add (i * 9)).block, (ad.add (i * 9)).off + 2, none⟩ = some (.int .i64 a.f2) ∧ w'.cell? ⟨(ad.add (i * 9)).block, (ad.add (i * 9)).off + 3, none⟩ = some (.int .i64 a.f3.f0) ∧ w'.cell? ⟨(ad.add (i * 9)).block, (ad.add (i * 9)).off + 4, none⟩ = some (.int .i64 a.f3.f1) ∧ w'.cell? ⟨(ad.add (i * 9)).block, (ad.add (i * 9)).off + 5, none⟩ = some (.int .i64 a.f3.f2) ∧ w'.cell? ⟨(ad.add (i * 9)).block, (ad.add (i * 9)).off + 6, none⟩ = some (.int .i64 a.f3.f3) ∧ w'.cell? ⟨(ad.add (i * 9)).block, (ad.add (i * 9)).off + 7, none⟩ = some (.slice B1 a.f3.f4.length d1) ∧ Below wr.heap.size wr w' from ⟨old_cell h a0, old_cell h a1, old_cell h a2, old_cell h a3, old_cell h a4, old_cell h a5, old_cell h a6, old_cell h e2, old_cell h e3, old_cell h e4, old_cell h e5, old_cell h e6, old_cell h e7, h⟩))
              go_region_held3 (fun w' => w'.cell? ⟨w.heap.size, 0, none⟩ = some (.string p.name) ∧ w'.cell? ⟨w.heap.size, 1, none⟩ = some (.int .i64 p.year) ∧ w'.cell? ⟨w.heap.size, 2, none⟩ = some (.slice A2 p.options.length c2) ∧ w'.cell? ⟨w.heap.size, 3, none⟩ = some (.slice A3 p.tables.length c3) ∧ w'.cell? ⟨w.heap.size, 4, none⟩ = some (.slice A4 p.groups.length c4) ∧ w'.cell? ⟨w.heap.size, 5, none⟩ = some (.slice A5 p.lines.length c5) ∧ w'.cell? ⟨w.heap.size, 6, none⟩ = some (.slice (some ad) p.checks.length c6) ∧ w'.cell? ⟨(ad.add (i * 9)).block, (ad.add (i * 9)).off + 2, none⟩ = some (.int .i64 a.f2) ∧ w'.cell? ⟨(ad.add (i * 9)).block, (ad.add (i * 9)).off + 3, none⟩ = some (.int .i64 a.f3.f0) ∧ w'.cell? ⟨(ad.add (i * 9)).block, (ad.add (i * 9)).off + 4, none⟩ = some (.int .i64 a.f3.f1) ∧ w'.cell? ⟨(ad.add (i * 9)).block, (ad.add (i * 9)).off + 5, none⟩ = some (.int .i64 a.f3.f2) ∧ w'.cell? ⟨(ad.add (i * 9)).block, (ad.add (i * 9)).off + 6, none⟩ = some (.int .i64 a.f3.f3) ∧ w'.cell? ⟨(ad.add (i * 9)).block, (ad.add (i * 9)).off + 7, none⟩ = some (.slice B1 a.f3.f4.length d1) ∧ Below wr.heap.size wr w')
                (first | exact LSH.out _ (by first | with_reducible exact hbv | with_reducible exact below_tr (below_drew (Below.refl _ _)) hbo | with_reducible exact below_drew (Below.refl _ _) | with_reducible exact Below.refl _ _))
                (first | (go_at_call 136; refine (CG.out _ (by with_reducible exact below_drew (Below.refl _ _))).mono ?_; rintro e w2 ⟨PA, pn, pc, bad, mm, rfl, hbv, hpath, hres⟩))
              have HPA := Aside0.mk hpath
              have HRS := Aside0.mk hres
              have HB2 := Aside0.mk hbv
              have HW4 := Aside0.mk (HW.out.next HB2.out)
              clear hbv hpath hres a0 a1 a2 a3 a4 a5 a6 e2 e3 e4 e5 e6 e7
              by_cases h0 : bad = 0
              · subst h0
                obtain ⟨hf, rfl, hm3⟩ := HRS.out rfl
                go_wp2_with fail
                go_roundg k4
                case measure => omega
                case rel =>
                  have hft := fits hf HKX.out.2
                  exact ⟨i + 1, by simp, ⟨by have := HK.out; omega⟩, ⟨by omega⟩, ⟨take_next HX.out HT.out ⟨by omega, hft.2⟩⟩, HW4⟩
              · skip
                have HQ9 := HW4
                obtain ⟨z0, z1, z2, z3, f0, f1, f2, f3⟩ := spot_cells HQ9.out.two
                have zl := blk_lt HQ9.out.two
                go_wp2_with fail
                refine bodyPost_ret (results_spot rfl _ _ _ #[_, _, _, _] _ rfl rfl (spot_set HQ9.out.two) (by kernel_rfl)) rfl ?_
                exact spot_post (fun h => absurd h h0) (spot_below HQ9.out.below)
            · have HCX := Aside0.mk (all_of hlt HT.out)
              obtain ⟨z0, z1, z2, z3, f0, f1, f2, f3⟩ := spot_cells HW.out.two
              have zl := blk_lt HW.out.two
              go_wp2_with fail
              refine bodyPost_ret (results_spot rfl _ _ _ #[_, _, _, _] _ rfl rfl (spot_set HW.out.two) (by kernel_rfl)) rfl ?_
              exact spot_post (fun _ => ⟨HLX.out, HCX.out⟩) (spot_below HW.out.below)
end Go.Proofs.Ytpbdkkahodaloaa.J
end

section
namespace Go.Proofs.Ytpbdkkahodaloaa.J
open Go.RowKit Go.Proofs.Ytpbdkkahodaloaa.PS Go.Proofs.Ytpbdkkahodaloaa.U Go.Proofs.Ytpbdkkahodaloaa.T Go.Proofs.YtpbdkkahodaloaaW.PrintWords Go.Proofs.YtpbdkkahodaloaaW.PrintMore
set_option linter.unusedVariables false
set_option maxRecDepth 100000
def Fit (p : Pk) : Prop := deepPk p = false ∧ (bytesPk p).length ≤ 131072 ∧ 15 < (bytesPk p).length
set_option maxHeartbeats 8000000 in
theorem check_c (w : World) (u : Value) (p : Pk) (hp : Lies w u p) (ok : okPk p) : Calls Try.prog 26 #[u] w (SpotPost (fun v => v = 0 → Fit p) w) := by
  have CS := Aside0.mk (fun (W : World) (h : Below w.heap.size w W) => sizes_c W u p (hp.below h))
  have CP := Aside0.mk (fun (W : World) (h : Below w.heap.size w W) => parts_c W u p (hp.below h))
  have CE := Aside0.mk (fun (W : World) (h : Below w.heap.size w W) => exprs_c W u p (hp.below h) ok)
  have HOK := Aside0.mk ok
  obtain ⟨A2, c2, A3, c3, A4, c4, A5, c5, A6, c6, rfl, hrest⟩ := hp
  have B0 := Aside0.mk (Boxes2.new w #[.string p.name, .int .i64 p.year, .slice A2 p.options.length c2, .slice A3 p.tables.length c3, .slice A4 p.groups.length c4, .slice A5 p.lines.length c5, .slice A6 p.checks.length c6] spot0 33 91 rfl)
  clear hrest ok
  go_enter Try.func26, Try.ntmps26
  go_wp2_with fail
  with_reducible refine (CS.out _ B0.out.below).mono ?_
  rintro e w1 ⟨v, rfl, hv, hb⟩
  have HB1 := Aside0.mk (B0.out.next hb)
  have HV := Aside0.mk hv
  clear hb hv
  by_cases h0 : 0 < v
  · go_wp2_with fail
    with_reducible refine (at_c _ _ _ _).mono ?_
    rintro e w9 ⟨rfl, hb9⟩
    have HQ9 := Aside0.mk (HB1.out.next hb9)
    clear hb9
    obtain ⟨z0, z1, z2, z3, f0, f1, f2, f3⟩ := spot_cells HQ9.out.two
    have zl := blk_lt HQ9.out.two
    go_wp2_with fail
    refine bodyPost_ret (results_spot rfl _ _ _ #[_, _, _, _] _ rfl rfl (spot_set HQ9.out.two) (by kernel_rfl)) rfl ?_
    exact spot_post (fun h => absurd h (by decide)) (spot_below HQ9.out.below)
  obtain rfl : v = 0 := by have := HV.out.1; omega
  have HF := Aside0.mk (HV.out.2 rfl)
  obtain ⟨a0, a1, a2, a3, a4, a5, a6⟩ := cells7 HB1.out.one
  clear h0 HV
  go_wp2_with fail
  with_reducible refine (CP.out _ HB1.out.below HF.out).mono ?_
  rintro e w2 ⟨x0, x1, x2, XA, xn, xc, v, rfl, hv, hb⟩
  have HB2 := Aside0.mk (HB1.out.next hb)
  have HV := Aside0.mk hv
  have HB3 := Aside0.mk (HB2.out.next (bel (w' := w2.alloc (.cells #[.int .i64 x0, .int .i64 x1, .int .i64 x2, .slice XA xn xc] 91))))
  clear hb hv a0 a1 a2 a3 a4 a5 a6
  by_cases h0 : v = 0
  case neg =>
    obtain ⟨z0, z1, z2, z3, f0, f1, f2, f3⟩ := spot_cells HB3.out.two
    have zl := blk_lt HB3.out.two
    go_wp2_with fail
    refine bodyPost_ret (results_spot rfl _ _ _ #[_, _, _, _] _ rfl rfl (spot_set HB3.out.two) (by kernel_rfl)) rfl ?_
    exact spot_post (fun h => absurd h h0) (spot_below HB3.out.below)
  subst h0
  have HO := Aside0.mk (HV.out rfl)
  obtain ⟨a0, a1, a2, a3, a4, a5, a6⟩ := cells7 HB3.out.one
  clear HV
  go_wp2_with fail
  with_reducible refine (CE.out _ HB3.out.below HO.out HF.out).mono ?_
  rintro e w4 ⟨y0, y1, y2, YA, yn, yc, v, rfl, hv, hb⟩
  have HB4 := Aside0.mk (HB3.out.next hb)
  have HV := Aside0.mk hv
  clear hb hv a0 a1 a2 a3 a4 a5 a6
  obtain ⟨z0, z1, z2, z3, f0, f1, f2, f3⟩ := spot_cells HB4.out.two
  have zl := blk_lt HB4.out.two
  go_wp2_with fail
  refine bodyPost_ret (results_spot rfl _ _ _ #[_, _, _, _] _ rfl rfl (spot_set HB4.out.two) (by kernel_rfl)) rfl ?_
  exact spot_post (fun h => by have h2 := HV.out h; exact pack_fits HOK.out HF.out HO.out h2.1 h2.2) (spot_below HB4.out.below)
end Go.Proofs.Ytpbdkkahodaloaa.J
end

section
namespace Go.Proofs.Ytpbdkkahodaloaa.T
open Go.RowKit Go.Proofs.Ytpbdkkahodaloaa.PS Go.Proofs.Ytpbdkkahodaloaa.U Go.Proofs.YtpbdkkahodaloaaW.PrintWords Go.Proofs.YtpbdkkahodaloaaW.PrintMore
set_option linter.unusedVariables false
set_option maxRecDepth 100000
set_option maxHeartbeats 8000000 in
theorem pack_same (w : World) (u v : Value) (p q : Pk) (hp : Lies w u p) (hq : Lies w v q) : Calls Try.prog 20 #[u, v] w (SamePost p q w) := by
  obtain ⟨A2, c2, A3, c3, A4, c4, A5, c5, A6, c6, rfl, hx2, hx3, hx4, hx5, hx6, hxc⟩ := hp
  obtain ⟨B2, d2, B3, d3, B4, d4, B5, d5, B6, d6, rfl, hy2, hy3, hy4, hy5, hy6, hyc⟩ := hq
  obtain ⟨x0, x1, xo, xt, xg, xl, xc⟩ := p
  obtain ⟨y0, y1, yo, yt, yg, yl, yc⟩ := q
  replace hx2 : k97.C w A2 xo.length xo := hx2
  replace hx3 : k72.C w A3 xt.length xt := hx3
  replace hx4 : k69.C w A4 xg.length xg := hx4
  replace hx5 : k77.C w A5 xl.length xl := hx5
  replace hx6 : k82.C w A6 xc.length xc := hx6
  replace hy2 : k97.C w B2 yo.length yo := hy2
  replace hy3 : k72.C w B3 yt.length yt := hy3
  replace hy4 : k69.C w B4 yg.length yg := hy4
  replace hy5 : k77.C w B5 yl.length yl := hy5
  replace hy6 : k82.C w B6 yc.length yc := hy6
  show Calls Try.prog 20 #[.agg #[.string x0, .int .i64 x1, .slice A2 xo.length c2, .slice A3 xt.length c3, .slice A4 xg.length c4, .slice A5 xl.length c5, .slice A6 xc.length c6], .agg #[.string y0, .int .i64 y1, .slice B2 yo.length d2, .slice B3 yt.length d3, .slice B4 yg.length d4, .slice B5 yl.length d5, .slice B6 yc.length d6]] w (SamePost _ _ w)
  have HXA := Aside0.mk (show Lies w (.agg #[.string x0, .int .i64 x1, .slice A2 xo.length c2, .slice A3 xt.length c3, .slice A4 xg.length c4, .slice A5 xl.length c5, .slice A6 xc.length c6]) ⟨x0, x1, xo, xt, xg, xl, xc⟩ from ⟨A2, c2, A3, c3, A4, c4, A5, c5, A6, c6, rfl, hx2, hx3, hx4, hx5, hx6, hxc⟩)
  have HYA := Aside0.mk (show Lies w (.agg #[.string y0, .int .i64 y1, .slice B2 yo.length d2, .slice B3 yt.length d3, .slice B4 yg.length d4, .slice B5 yl.length d5, .slice B6 yc.length d6]) ⟨y0, y1, yo, yt, yg, yl, yc⟩ from ⟨B2, d2, B3, d3, B4, d4, B5, d5, B6, d6, rfl, hy2, hy3, hy4, hy5, hy6, hyc⟩)
  have HX5 := Aside0.mk hx5
  have HX6 := Aside0.mk hx6
  have HY5 := Aside0.mk hy5
  have HY6 := Aside0.mk hy6
  clear hx2 hx3 hx4 hx5 hx6 hy2 hy3 hy4 hy5 hy6 hxc hyc
  go_enter Try.func20, Try.ntmps20
  go_wp2_with fail
  with_reducible refine (heads_same _ _ _ ⟨x0, x1, xo, xt, xg, xl, xc⟩ ⟨y0, y1, yo, yt, yg, yl, yc⟩ (HXA.out.below (below_alloc (below_alloc (Below.refl _ _) _) _)) (HYA.out.below (below_alloc (below_alloc (Below.refl _ _) _) _))).mono ?_
  rintro e w2 ⟨v, rfl, hv, hb⟩
  have HW := Aside0.mk ((Boxes.new w _ _ 33).next hb)
  have a0 := (blk_cell HW.out.one 5).trans (show _ = some (Value.slice A5 xl.length c5) from rfl)
  have a1 := (blk_cell HW.out.two 5).trans (show _ = some (Value.slice B5 yl.length d5) from rfl)
  have a2 := (blk_cell HW.out.one 6).trans (show _ = some (Value.slice A6 xc.length c6) from rfl)
  have a3 := (blk_cell HW.out.two 6).trans (show _ = some (Value.slice B6 yc.length d6) from rfl)
  obtain ⟨q0, q1⟩ := HW.out.lt
  cases v with
  | false =>
    have HN := Aside0.mk (show ¬ (⟨x0, x1, xo, xt, xg, xl, xc⟩ : Pk) = ⟨y0, y1, yo, yt, yg, yl, yc⟩ from fun e => by cases e; exact absurd (hv.2 rfl) (by simp))
    go_wp2_with fail
    go_ret
    exact same_no HW.out.below HN.out
  | true =>
    have HV := Aside0.mk (hv.1 rfl)
    clear hv
    go_wp2_with fail
    all_goals try (go_ret; exact same_no HW.out.below)
    rename_i g5 g6 _ _
    try rw [g6]
    have HM5 := Aside0.mk (show xl.length = yl.length by omega)
    have HM6 := Aside0.mk (len_same g6)
    have HE := Aside0.mk (show xl = yl → xc = yc → (⟨x0, x1, xo, xt, xg, xl, xc⟩ : Pk) = ⟨y0, y1, yo, yt, yg, yl, yc⟩ from fun a b => by have h := HV.out; unfold headsOf at h; simp only [Prod.mk.injEq] at h; obtain ⟨h0, h1, h2, h3, h4⟩ := h; rw [h0, h1, h2, h3, h4, a, b])
    have HN5 := Aside0.mk (show ¬ xl = yl → ¬ (⟨x0, x1, xo, xt, xg, xl, xc⟩ : Pk) = ⟨y0, y1, yo, yt, yg, yl, yc⟩ from fun h e => h (by cases e; rfl))
    have HN6 := Aside0.mk (show ¬ xc = yc → ¬ (⟨x0, x1, xo, xt, xg, xl, xc⟩ : Pk) = ⟨y0, y1, yo, yt, yg, yl, yc⟩ from fun h e => h (by cases e; rfl))
    clear g5 g6
    rw [← HM5.out] at HY5 a1
    rw [← HM6.out] at HY6 a3
    rw [← HM5.out, ← HM6.out] at HW
    rw [← HM5.out, ← HM6.out]
    have hmax5 : xl.length ≤ 9223372036854775807 := HX5.out.2.1
    have hmax6 : xc.length ≤ 9223372036854775807 := HX6.out.2.1
    clear a0 a1 a2 a3 q0 q1
    go_loopg [5] (xl.length + 1) (fun kq v5 w' => ∃ i : Nat, v5 = .int .i64 (i : Int) ∧ Aside0 (kq + i = xl.length + 1) ∧ Aside0 (i ≤ xl.length) ∧ Aside0 (xl.take i = yl.take i) ∧ Aside0 (Boxes w #[.string x0, .int .i64 x1, .slice A2 xo.length c2, .slice A3 xt.length c3, .slice A4 xg.length c4, .slice A5 xl.length c5, .slice A6 xc.length c6] #[.string y0, .int .i64 y1, .slice B2 yo.length d2, .slice B3 yt.length d3, .slice B4 yg.length d4, .slice B5 xl.length d5, .slice B6 xc.length d6] 33 w'))
    case atStart => exact ⟨0, rfl, ⟨by omega⟩, ⟨by omega⟩, ⟨rfl⟩, HW⟩
    case round =>
      clear HW
      obtain ⟨i, rfl, HK, HI, HT, HW⟩ := hrel
      cases gk with
      | zero => exact absurd HK.out (by have := HI.out; omega)
      | succ k1 =>
        have a0 := (blk_cell HW.out.one 5).trans (show _ = some (Value.slice A5 xl.length c5) from rfl)
        have a1 := (blk_cell HW.out.two 5).trans (show _ = some (Value.slice B5 xl.length d5) from rfl)
        obtain ⟨q0, q1⟩ := HW.out.lt
        by_cases hlt : i < xl.length
        · have hb0 : decide ((i : Int) < (xl.length : Int)) = true := decide_eq_true (by omega)
          obtain ⟨a, ha⟩ : ∃ a, xl[i]? = some a := ⟨_, List.getElem?_eq_getElem hlt⟩
          obtain ⟨b, hb⟩ : ∃ b, yl[i]? = some b := ⟨_, List.getElem?_eq_getElem (by have := HM5.out; omega)⟩
          have hra : rd_T77 xl (i : Int) = a := by unfold rd_T77; rw [Int.toNat_natCast, List.getD_eq_getElem?_getD, ha]; rfl
          have hrb : rd_T77 yl (i : Int) = b := by unfold rd_T77; rw [Int.toNat_natCast, List.getD_eq_getElem?_getD, hb]; rfl
          have HNE := Aside0.mk (fun h => HN5.out (ne_at ha hb h))
          have HNX := Aside0.mk (fun h => drop_next ha hb HT.out h)
          obtain ⟨ad, C1, c1, hA, e0, e1, e2, e3, e4, e5, e6, l1, g1⟩ := at_T77 (Kd.C_below HX5.out HW.out.below) (i : Int) (by omega) (by omega)
          obtain ⟨bd, D1, d1, hB, f0, f1, f2, f3, f4, f5, f6, m1, j1⟩ := at_T77 (Kd.C_below HY5.out HW.out.below) (i : Int) (by omega) (by omega)
          subst hA hB
          rw [hra] at e0 e1 e2 e3 e4 e5 e6 l1 g1
          rw [hrb] at f0 f1 f2 f3 f4 f5 f6 m1 j1
          rw [Int.toNat_natCast] at e0 e1 e2 e3 e4 e5 e6 f0 f1 f2 f3 f4 f5 f6
          have HG := Aside0.mk g1
          have HJ := Aside0.mk j1
          have cw := Aside0.mk (fun (W : World) (hW : Below wr.heap.size wr W) => line_same a b C1 c1 D1 d1 W (Kd.C_below HG.out hW) (Kd.C_below HJ.out hW))
          clear hra hrb ha hb l1 g1 m1 j1
          have p0 : (0 : Int) ≤ (i : Int) := by omega
          have p1 : (i : Int) < (xl.length : Int) := by omega
          have hdr : Below wr.heap.size wr wr := Below.refl _ _
          go_upto_region 6 with (fail)
          go_region_held3 (fun w' => w'.cell? ⟨w.heap.size, 5, none⟩ = some (.slice (some ad) xl.length c5) ∧ w'.cell? ⟨w.heap.size + 1, 5, none⟩ = some (.slice (some bd) xl.length d5) ∧ w'.cell? (ad.add (i * 7)) = some (.string a.f0) ∧ w'.cell? ⟨(ad.add (i * 7)).block, (ad.add (i * 7)).off + 1, none⟩ = some (.bool a.f1) ∧ w'.cell? ⟨(ad.add (i * 7)).block, (ad.add (i * 7)).off + 2, none⟩ = some (.bool a.f2) ∧ w'.cell? ⟨(ad.add (i * 7)).block, (ad.add (i * 7)).off + 3, none⟩ = some (.int .i64 a.f3) ∧ w'.cell? ⟨(ad.add (i * 7)).block, (ad.add (i * 7)).off + 4, none⟩ = some (.int .i64 a.f4) ∧ w'.cell? ⟨(ad.add (i * 7)).block, (ad.add (i * 7)).off + 5, none⟩ = some (.int .i64 a.f5) ∧ w'.cell? ⟨(ad.add (i * 7)).block, (ad.add (i * 7)).off + 6, none⟩ = some (.slice C1 a.f6.length c1) ∧ w'.cell? (bd.add (i * 7)) = some (.string b.f0) ∧ w'.cell? ⟨(bd.add (i * 7)).block, (bd.add (i * 7)).off + 1, none⟩ = some (.bool b.f1) ∧ w'.cell? ⟨(bd.add (i * 7)).block, (bd.add (i * 7)).off + 2, none⟩ = some (.bool b.f2) ∧ w'.cell? ⟨(bd.add (i * 7)).block, (bd.add (i * 7)).off + 3, none⟩ = some (.int .i64 b.f3) ∧ w'.cell? ⟨(bd.add (i * 7)).block, (bd.add (i * 7)).off + 4, none⟩ = some (.int .i64 b.f4) ∧ w'.cell? ⟨(bd.add (i * 7)).block, (bd.add (i * 7)).off + 5, none⟩ = some (.int .i64 b.f5) ∧ w'.cell? ⟨(bd.add (i * 7)).block, (bd.add (i * 7)).off + 6, none⟩ = some (.slice D1 b.f6.length d1) ∧ Below wr.heap.size wr w')
            (first | ((try go_split_ands); refine ⟨?_, ?_, ?_, ?_, ?_, ?_, ?_, ?_, ?_, ?_, ?_, ?_, ?_, ?_, ?_, ?_, ?_⟩ <;> (first | assumption | exact Below.refl _ _ | exact below_drew1 (by assumption) | exact old_cell (by assumption) (by assumption) | exact below_then (by assumption) (Below.size (by assumption)) (by assumption) | go_keep)))
            (first | (go_at_call 58; refine (cw.out _ (by first | assumption | exact below_drew (Below.refl _ _) | exact below_drew (by assumption))).mono ?_; rintro e w' ⟨v, rfl, hv, hbv⟩))
          have HB := Aside0.mk (below_then (below_drew (Below.refl wr.heap.size wr)) (Nat.le_refl _) hbv)
          have HV5 := Aside0.mk hv
          clear hv hbv
          cases v with
          | false =>
            go_wp2_with fail
            go_ret
            exact same_no (below_then HW.out.below HW.out.below.size HB.out) (HNE.out (fun e_ => absurd (HV5.out.2 e_) (by simp)))
          | true =>
            go_wp2_with fail
            go_roundg k1
            case measure => omega
            case rel => exact ⟨i + 1, by simp, ⟨by have := HK.out; omega⟩, ⟨by omega⟩, ⟨HNX.out (HV5.out.1 (by trivial))⟩, ⟨HW.out.next HB.out⟩⟩
        · have hb0 : decide ((i : Int) < (xl.length : Int)) = false := decide_eq_false (by omega)
          have HR5 := Aside0.mk (take_all hlt HM5.out HT.out)
          have HP5 := HW
          clear HK HI HT HW
          obtain ⟨v5, hv5⟩ : ∃ v5, v5 = wr := ⟨_, rfl⟩
          subst hv5
          have a2 := (blk_cell HP5.out.one 6).trans (show _ = some (Value.slice A6 xc.length c6) from rfl)
          have a3 := (blk_cell HP5.out.two 6).trans (show _ = some (Value.slice B6 xc.length d6) from rfl)
          go_wp2_with fail
          clear a0 a1 a2 a3 q0 q1
          go_loopg [6] (xc.length + 1) (fun kq v6 w' => ∃ i : Nat, v6 = .int .i64 (i : Int) ∧ Aside0 (kq + i = xc.length + 1) ∧ Aside0 (i ≤ xc.length) ∧ Aside0 (xc.take i = yc.take i) ∧ Aside0 (Boxes w #[.string x0, .int .i64 x1, .slice A2 xo.length c2, .slice A3 xt.length c3, .slice A4 xg.length c4, .slice A5 xl.length c5, .slice A6 xc.length c6] #[.string y0, .int .i64 y1, .slice B2 yo.length d2, .slice B3 yt.length d3, .slice B4 yg.length d4, .slice B5 xl.length d5, .slice B6 xc.length d6] 33 w'))
          case atStart => exact ⟨0, rfl, ⟨by omega⟩, ⟨by omega⟩, ⟨rfl⟩, HP5⟩
          case round =>
            clear HP5
            obtain ⟨i, rfl, HK, HI, HT, HW⟩ := hrel
            cases gk with
            | zero => exact absurd HK.out (by have := HI.out; omega)
            | succ k2 =>
              have a0 := (blk_cell HW.out.one 6).trans (show _ = some (Value.slice A6 xc.length c6) from rfl)
              have a1 := (blk_cell HW.out.two 6).trans (show _ = some (Value.slice B6 xc.length d6) from rfl)
              obtain ⟨q0, q1⟩ := HW.out.lt
              by_cases hlt : i < xc.length
              · have hb0 : decide ((i : Int) < (xc.length : Int)) = true := decide_eq_true (by omega)
                obtain ⟨a, ha⟩ : ∃ a, xc[i]? = some a := ⟨_, List.getElem?_eq_getElem hlt⟩
                obtain ⟨b, hb⟩ : ∃ b, yc[i]? = some b := ⟨_, List.getElem?_eq_getElem (by have := HM6.out; omega)⟩
                have hra : rd_T82 xc (i : Int) = a := by unfold rd_T82; rw [Int.toNat_natCast, List.getD_eq_getElem?_getD, ha]; rfl
                have hrb : rd_T82 yc (i : Int) = b := by unfold rd_T82; rw [Int.toNat_natCast, List.getD_eq_getElem?_getD, hb]; rfl
                have HNE := Aside0.mk (fun h => HN6.out (ne_at ha hb h))
                have HNX := Aside0.mk (fun h => drop_next ha hb HT.out h)
                obtain ⟨ad, C1, c1, hA, e0, e1, e2, e3, e4, e5, e6, e7, e8, l1, g1⟩ := at_T82 (Kd.C_below HX6.out HW.out.below) (i : Int) (by omega) (by omega)
                obtain ⟨bd, D1, d1, hB, f0, f1, f2, f3, f4, f5, f6, f7, f8, m1, j1⟩ := at_T82 (Kd.C_below HY6.out HW.out.below) (i : Int) (by omega) (by omega)
                subst hA hB
                rw [hra] at e0 e1 e2 e3 e4 e5 e6 e7 e8 l1 g1
                rw [hrb] at f0 f1 f2 f3 f4 f5 f6 f7 f8 m1 j1
                rw [Int.toNat_natCast] at e0 e1 e2 e3 e4 e5 e6 e7 e8 f0 f1 f2 f3 f4 f5 f6 f7 f8
                have HG := Aside0.mk (And.intro l1 g1)
                have HJ := Aside0.mk (And.intro m1 j1)
                clear hra hrb ha hb l1 g1 m1 j1
                have p0 : (0 : Int) ≤ (i : Int) := by omega
                have p1 : (i : Int) < (xc.length : Int) := by omega
                have q2 := World.block_lt_of_cell? wr _ e0
                have q3 := World.block_lt_of_cell? wr _ f0
                go_wp2_with fail
                all_goals try (go_ret; exact same_no (by repeat (first | exact HW.out.below | apply below_alloc | apply pw_below_drewN | apply below_drew1)) (HNE.out (by (intro e_; cases e_; exact absurd rfl (by assumption)))))
                have r0 := toList_inj (show a.f0.toList = b.f0.toList by assumption)
                have r4 := toList_inj (show a.f4.toList = b.f4.toList by assumption)
                have HQ := Aside0.mk (show a.f3 = b.f3 → a = b from fun h => by
                  have r1 : a.f1 = b.f1 := by assumption
                  have r2 : a.f2 = b.f2 := by assumption
                  obtain ⟨_, _, _, _, _⟩ := a; obtain ⟨_, _, _, _, _⟩ := b; cases r0; cases r1; cases r2; cases r4; cases h; rfl)
                clear r0 r4
                with_reducible refine (expr_same a.f3 b.f3 C1 c1 D1 d1 _ (Kd.C_alloc (Kd.C_alloc HG.out.2 _) _) HG.out.1 (Kd.C_alloc (Kd.C_alloc HJ.out.2 _) _) HJ.out.1).mono ?_
                rintro e w2 ⟨v, rfl, hv, hb⟩
                have HB := Aside0.mk (below_then (below_alloc (below_alloc (Below.refl wr.heap.size wr) _) _) (by rw [World.size_alloc, World.size_alloc]; omega) hb)
                have HV6 := Aside0.mk hv
                clear hv hb a0 a1 q0 q1 q2 q3
                cases v with
                | false =>
                  go_wp2_with fail
                  go_ret
                  exact same_no (below_then HW.out.below HW.out.below.size HB.out) (HNE.out (fun e_ => absurd (HV6.out.2 (by rw [e_])) (by simp)))
                | true =>
                  go_wp2_with fail
                  go_roundg k2
                  case measure => omega
                  case rel => exact ⟨i + 1, by simp, ⟨by have := HK.out; omega⟩, ⟨by omega⟩, ⟨HNX.out (HQ.out (HV6.out.1 (by trivial)))⟩, ⟨HW.out.next HB.out⟩⟩
              · have hb0 : decide ((i : Int) < (xc.length : Int)) = false := decide_eq_false (by omega)
                have HF := Aside0.mk (same_yes (HE.out HR5.out (take_all hlt HM6.out HT.out)) HW.out.below)
                go_wp2_with fail
                go_ret
                exact HF.out
end Go.Proofs.Ytpbdkkahodaloaa.T
end

section
namespace Go.Proofs.Ytpbdkkahodaloaa.T
open Go.RowKit Go.Proofs.Ytpbdkkahodaloaa.PS Go.Proofs.Ytpbdkkahodaloaa.U Go.Proofs.YtpbdkkahodaloaaW.PrintWords Go.Proofs.YtpbdkkahodaloaaW.PrintMore
set_option linter.unusedVariables false
def Ends {α : Type} (g : Nat → Option α) : Prop := ∃ v, Ev g v
theorem Ends.step {α : Type} {g f : Nat → Option α} (h : ∀ k, g (k + 1) = f k) (k : Ends f) : Ends g := k.elim fun v hv => ⟨v, Ev.step h hv⟩
theorem Ends.now {α : Type} (r : α) : Ends (fun _ => some r) := ⟨r, Ev.now r⟩
theorem Ends.bind {α β : Type} {g : Nat → Option α} {f : Nat → α → Option β} (h : Ends g) (k : ∀ a, Ends (fun n => f n a)) : Ends (fun n => (g n).bind (f n)) := by
  obtain ⟨a, ha⟩ := h
  obtain ⟨v, hv⟩ := k a
  exact ⟨v, Ev.bind ha hv⟩
structure WideP (lo : List S97) (lt : List S72) (ll : List S77) (lc : List S82) : Prop where
  o : lo.length ≤ 9223372036854775807
  t : lt.length ≤ 9223372036854775807
  l : ll.length ≤ 9223372036854775807
  c : lc.length ≤ 9223372036854775807
  l1 : ∀ a ∈ ll, a.f6.length ≤ 9223372036854775807 ∧ ∀ b ∈ a.f6, WideE b.f2 ∧ WideE b.f3
  c1 : ∀ a ∈ lc, WideE a.f3
section
variable {lo : List S97} {lt : List S72} {ll : List S77} {lc : List S82} (H : WideP lo lt ll lc) (x0 : ByteArray) (x1 : Int) (lg : List S69)
include H
theorem ends_l4 : ∀ (d i : Nat) (n : Int), i + d = lc.length → Ends (fun k => levylaw7_small.l4 k n (i : Int) x0 x1 lo lt lg ll lc)
  | 0, i, n, hi => by
    refine Ends.step (f := fun _ => some (decide (n ≤ 32768))) (fun k => ?_) (Ends.now _)
    simp only [levylaw7_small.l4]
    rw [if_neg (by omega)]
  | d + 1, i, n, hi => by
    have := H.c
    obtain ⟨a, ha⟩ : ∃ a, lc[i]? = some a := ⟨_, List.getElem?_eq_getElem (by omega)⟩
    have hr : rd_T82 lc (i : Int) = a := by unfold rd_T82; rw [Int.toNat_natCast, List.getD_eq_getElem?_getD, ha]; rfl
    have hw : wrap64 ((i : Int) + 1) = ((i + 1 : Nat) : Int) := by unfold wrap64; omega
    by_cases h : n ≤ 32768
    · refine Ends.step (fun k => ?_) (Ends.bind (f := fun k t => levylaw7_small.l4 k (wrap64 ((wrap64 ((wrap64 (n + t)) + (a.f0.size : Int))) + (a.f4.size : Int))) ((i + 1 : Nat) : Int) x0 x1 lo lt lg ll lc) (nodes_ev (H.c1 a (List.mem_of_getElem? ha)) 32768) (fun v => ends_l4 d (i + 1) _ (by omega)))
      simp only [levylaw7_small.l4]
      rw [if_pos (by omega), if_pos h, if_pos (by omega), hr, hw]
    · refine Ends.step (f := fun _ => some (decide (n ≤ 32768))) (fun k => ?_) (Ends.now _)
      simp only [levylaw7_small.l4]
      rw [if_pos (by omega), if_neg h]
theorem ends_l3 (i : Nat) (a : S77) (ha : ll[i]? = some a) (next : ∀ n, Ends (fun k => levylaw7_small.l2 k n ((i + 1 : Nat) : Int) x0 x1 lo lt lg ll lc)) : ∀ (d j : Nat) (n : Int), j + d = a.f6.length → Ends (fun k => levylaw7_small.l3 k n (i : Int) (j : Int) x0 x1 lo lt lg ll lc) := by
  have hi := (List.getElem?_eq_some_iff.1 ha).1
  have hll := H.l
  have hr : rd_T77 ll (i : Int) = a := by unfold rd_T77; rw [Int.toNat_natCast, List.getD_eq_getElem?_getD, ha]; rfl
  have hw : wrap64 ((i : Int) + 1) = ((i + 1 : Nat) : Int) := by unfold wrap64; omega
  obtain ⟨h6, hb⟩ := H.l1 a (List.mem_of_getElem? ha)
  have off : ∀ (n : Int) (j : Int), Ends (fun k => levylaw7_small.j7 k n (i : Int) j false x0 x1 lo lt lg ll lc) := fun n j => by
    refine Ends.step (fun k => ?_) (next n)
    simp only [levylaw7_small.j7]
    rw [if_neg (by simp), hw]
  intro d
  induction d with
  | zero =>
    intro j n hj
    refine Ends.step (fun k => ?_) (off n (j : Int))
    simp only [levylaw7_small.l3]
    rw [if_pos (by omega), if_pos (by omega), hr, if_neg (by omega)]
  | succ d ih =>
    intro j n hj
    obtain ⟨b, hbj⟩ : ∃ b, a.f6[j]? = some b := ⟨_, List.getElem?_eq_getElem (by omega)⟩
    have hrb : rd_T100 a.f6 (j : Int) = b := by unfold rd_T100; rw [Int.toNat_natCast, List.getD_eq_getElem?_getD, hbj]; rfl
    have hwj : wrap64 ((j : Int) + 1) = ((j + 1 : Nat) : Int) := by unfold wrap64; omega
    obtain ⟨e2, e3⟩ := hb b (List.mem_of_getElem? hbj)
    have on : Ends (fun k => levylaw7_small.j7 k n (i : Int) (j : Int) true x0 x1 lo lt lg ll lc) := by
      refine Ends.step (fun k => ?_) (Ends.bind (f := fun k t => (levylaw7_nodes.f k b.f3.f0 b.f3.f1 b.f3.f2 b.f3.f3 b.f3.f4 32768).bind fun u => levylaw7_small.l3 k (wrap64 ((wrap64 (n + t)) + u)) (i : Int) ((j + 1 : Nat) : Int) x0 x1 lo lt lg ll lc) (nodes_ev e2 32768)
        (fun v => Ends.bind (f := fun k u => levylaw7_small.l3 k (wrap64 ((wrap64 (n + v)) + u)) (i : Int) ((j + 1 : Nat) : Int) x0 x1 lo lt lg ll lc) (nodes_ev e3 32768) (fun u => ih (j + 1) _ (by omega))))
      simp only [levylaw7_small.j7]
      rw [if_pos trivial, if_pos (by omega), if_pos (by omega), hr, if_pos (by omega), if_pos (by omega), hrb, hwj]
    have any : ∀ b0 : Bool, Ends (fun k => levylaw7_small.j7 k n (i : Int) (j : Int) b0 x0 x1 lo lt lg ll lc) := fun b0 => by
      cases b0 with
      | true => exact on
      | false => exact off n _
    refine Ends.step (fun k => ?_) (any (decide (n ≤ 32768)))
    simp only [levylaw7_small.l3]
    rw [if_pos (by omega), if_pos (by omega), hr, if_pos (by omega)]
theorem ends_l2 : ∀ (d i : Nat) (n : Int), i + d = ll.length → Ends (fun k => levylaw7_small.l2 k n (i : Int) x0 x1 lo lt lg ll lc) := by
  have off : ∀ (n i : Int), Ends (fun k => levylaw7_small.j5 k n i false x0 x1 lo lt lg ll lc) := fun n i => by
    refine Ends.step (fun k => ?_) (ends_l4 H x0 x1 lg lc.length 0 n (by omega))
    simp only [levylaw7_small.j5]
    rw [if_neg (by simp)]; rfl
  have hll := H.l
  intro d
  induction d with
  | zero =>
    intro i n hi
    refine Ends.step (fun k => ?_) (off n (i : Int))
    simp only [levylaw7_small.l2]
    rw [if_neg (by omega)]
  | succ d ih =>
    intro i n hi
    obtain ⟨a, ha⟩ : ∃ a, ll[i]? = some a := ⟨_, List.getElem?_eq_getElem (by omega)⟩
    have hr : rd_T77 ll (i : Int) = a := by unfold rd_T77; rw [Int.toNat_natCast, List.getD_eq_getElem?_getD, ha]; rfl
    have any : ∀ b0 : Bool, Ends (fun k => levylaw7_small.j5 k n (i : Int) b0 x0 x1 lo lt lg ll lc) := fun b0 => by
      cases b0 with
      | true =>
        refine Ends.step (fun k => ?_) (ends_l3 H x0 x1 lg i a ha (fun n => ih (i + 1) n (by omega)) a.f6.length 0 (wrap64 (n + (a.f0.size : Int))) (by omega))
        simp only [levylaw7_small.j5]
        rw [if_pos trivial, if_pos (by omega), if_pos (by omega), hr]; rfl
      | false => exact off n _
    refine Ends.step (fun k => ?_) (any (decide (n ≤ 32768)))
    simp only [levylaw7_small.l2]
    rw [if_pos (by omega)]
theorem ends_l1 : ∀ (d i : Nat) (n : Int), i + d = lt.length → Ends (fun k => levylaw7_small.l1 k n (i : Int) x0 x1 lo lt lg ll lc) := by
  have off : ∀ (n : Int), Ends (fun k => levylaw7_small.j3 k n x0 x1 lo lt lg ll lc) := fun n => by
    refine Ends.step (fun k => ?_) (ends_l2 H x0 x1 lg ll.length 0 n (by omega))
    simp only [levylaw7_small.j3]; rfl
  have hlt := H.t
  intro d
  induction d with
  | zero =>
    intro i n hi
    refine Ends.step (fun k => ?_) (off n)
    simp only [levylaw7_small.l1]
    rw [if_neg (by omega)]
  | succ d ih =>
    intro i n hi
    have hw : wrap64 ((i : Int) + 1) = ((i + 1 : Nat) : Int) := by unfold wrap64; omega
    by_cases h : n ≤ 32768
    · refine Ends.step (fun k => ?_) (ih (i + 1) (wrap64 (n + ((rd_T72 lt (i : Int)).f1.length : Int))) (by omega))
      simp only [levylaw7_small.l1]
      rw [if_pos (by omega), if_pos h, if_pos (by omega), hw]
    · refine Ends.step (fun k => ?_) (off n)
      simp only [levylaw7_small.l1]
      rw [if_pos (by omega), if_neg h]
theorem ends_l0 : ∀ (d i : Nat) (n : Int), i + d = lo.length → Ends (fun k => levylaw7_small.l0 k n (i : Int) x0 x1 lo lt lg ll lc) := by
  have off : ∀ (n : Int), Ends (fun k => levylaw7_small.j1 k n x0 x1 lo lt lg ll lc) := fun n => by
    refine Ends.step (fun k => ?_) (ends_l1 H x0 x1 lg lt.length 0 n (by omega))
    simp only [levylaw7_small.j1]; rfl
  have hlo := H.o
  intro d
  induction d with
  | zero =>
    intro i n hi
    refine Ends.step (fun k => ?_) (off n)
    simp only [levylaw7_small.l0]
    rw [if_neg (by omega)]
  | succ d ih =>
    intro i n hi
    have hw : wrap64 ((i : Int) + 1) = ((i + 1 : Nat) : Int) := by unfold wrap64; omega
    by_cases h : n ≤ 32768
    · refine Ends.step (fun k => ?_) (ih (i + 1) (wrap64 (n + ((rd_T97 lo (i : Int)).f1.length : Int))) (by omega))
      simp only [levylaw7_small.l0]
      rw [if_pos (by omega), if_pos h, if_pos (by omega), hw]
    · refine Ends.step (fun k => ?_) (off n)
      simp only [levylaw7_small.l0]
      rw [if_pos (by omega), if_neg h]
end
def SmallPost (w : World) (e : Ending) (w' : World) : Prop := ∃ v, e = .returned (.bool v) ∧ Below w.heap.size w w'
theorem mem_at {α : Type} {d : Kd α} {w : World} {A : Option Addr} {n : Nat} {l : List α} (hC : Kd.C d w A n l) (hn : l.length = n) (z : α) {a : α} (ha : a ∈ l) : ∃ cs, d.K w a cs := by
  obtain ⟨i, hi⟩ := List.getElem?_of_mem ha
  have hi0 := (List.getElem?_eq_some_iff.1 hi).1
  obtain ⟨ad, c, _, _, hKa, _⟩ := Kd.C_get hC z (i : Int) (by omega) (by omega)
  have e : (l.getD (i : Int).toNat z) = a := by rw [Int.toNat_natCast, List.getD_eq_getElem?_getD, hi]; rfl
  rw [e] at hKa
  exact ⟨c, hKa⟩
theorem small_c (w : World) (u : Value) (p : Pk) (hp : Lies w u p) : Calls Try.prog 14 #[u] w (SmallPost w) := by
  obtain ⟨A2, c2, A3, c3, A4, c4, A5, c5, A6, c6, rfl, hx2, hx3, hx4, hx5, hx6, g2, g3, g4, g5, g6⟩ := hp
  have hW : WideP p.options p.tables p.lines p.checks := by
    refine ⟨hx2.2.1, hx3.2.1, hx5.2.1, hx6.2.1, fun a ha => ?_, fun a ha => ?_⟩
    · obtain ⟨cs, hK⟩ := mem_at hx5 rfl z77 ha
      obtain ⟨A, c, _, _, hC⟩ := k77_open hK
      refine ⟨hC.2.1, fun b hb => ?_⟩
      obtain ⟨cs, hK⟩ := mem_at hC rfl z100 hb
      obtain ⟨A6, c6, A11, c11, _, _, h6, _, h11⟩ := k100_open hK
      exact ⟨.mk _ (wide_list h6 rfl).1 (wide_list h6 rfl).2, .mk _ (wide_list h11 rfl).1 (wide_list h11 rfl).2⟩
    · obtain ⟨cs, hK⟩ := mem_at hx6 rfl z82 ha
      obtain ⟨A, c, _, _, hC⟩ := k82_open hK
      exact .mk _ (wide_list hC rfl).1 (wide_list hC rfl).2
  obtain ⟨v, hv⟩ := ends_l0 hW p.name p.year p.groups p.options.length 0 (wrap64 ((wrap64 ((wrap64 ((wrap64 ((wrap64 ((p.name.size : Int) + (p.options.length : Int))) + (p.tables.length : Int))) + (p.groups.length : Int))) + (p.lines.length : Int))) + (p.checks.length : Int))) (by omega)
  obtain ⟨k, hk⟩ := hv.rounds
  refine (levylaw7_small.calls k p.name p.year A2 c2 p.options A3 c3 p.tables A4 c4 p.groups A5 c5 p.lines A6 c6 p.checks v w hx2 g2 hx3 g3 hx4 g4 hx5 g5 hx6 g6 hk).mono ?_
  rintro e w' ⟨rfl, hb⟩
  exact ⟨v, rfl, hb⟩
end Go.Proofs.Ytpbdkkahodaloaa.T
end

section
set_option linter.unusedVariables false
set_option linter.unusedSimpArgs false
namespace Go.Proofs.Ytpbdkkahodaloaa.V
open Go.RowKit Go.Proofs.Ytpbdkkahodaloaa.PS Go.Proofs.YtpbdkkahodaloaaW.PrintWords Go.Proofs.YtpbdkkahodaloaaW.PrintMore
set_option maxRecDepth 100000
theorem band_ip {w0 w : World} {g : Nat} {b : List Int} {s : R3} (h : Rd w0 w g b s) : Calls Try.prog 124 #[.pointer (some ⟨g, 0, none⟩)] w (IP k74 w0 g b (bandR b s).1 (bandR b s).2 w) := (band_r h).mono fun e w' hp => ⟨_, hp.1, k74_mkM _ _ _ _, hp.2⟩
def groupR (b : List Int) (s : R3) : S69 × R3 := (⟨(textR b s).1, (intR b (textR b s).2).1⟩, (intR b (textR b s).2).2)
set_option maxHeartbeats 4000000 in
theorem group_r {w0 w : World} {g : Nat} {b : List Int} {s : R3} (h : Rd w0 w g b s) : Calls Try.prog 99 #[.pointer (some ⟨g, 0, none⟩)] w (IP k69 w0 g b (groupR b s).1 (groupR b s).2 w) := by
  have S0 := Aside0.mk (h.alloc (.cells #[.string ⟨#[]⟩, .int .i64 0] 69))
  have B0 := Aside0.mk (blk_new w (.cells #[.string ⟨#[]⟩, .int .i64 0] 69))
  have K0 := Aside0.mk (keep_alloc (KeepBut.refl w g none) (.cells #[.string ⟨#[]⟩, .int .i64 0] 69))
  have HG := Aside0.mk h.lt.1
  have Z0 := Aside0.mk (show w.heap.size < (w.alloc (.cells #[.string ⟨#[]⟩, .int .i64 0] 69)).heap.size by simp)
  clear h
  go_enter Try.func99, Try.ntmps99
  go_wp2_with fail
  generalize w.alloc (.cells #[.string ⟨#[]⟩, .int .i64 0] 69) = W0 at S0 B0 K0 Z0 ⊢
  go_at_call 92
  with_reducible refine (text_r S0.out).mono ?_
  intro e W1 hp
  obtain ⟨rfl, hR, hK⟩ := hp
  obtain ⟨x0, hx⟩ : ∃ x, (textR b s).1 = x := ⟨_, rfl⟩
  obtain ⟨t1, ht⟩ : ∃ t, (textR b s).2 = t := ⟨_, rfl⟩
  rw [ht] at hR
  rw [hx]
  have X0 := Aside0.mk hx
  have T1 := Aside0.mk ht
  have S1 := Aside0.mk hR
  have B1 := Aside0.mk (hK.blk B0.out (by have := HG.out; omega) (by simp))
  have K1 := Aside0.mk (K0.out.trans hK (.inl rfl))
  have Z1 := Aside0.mk (Nat.lt_of_lt_of_le Z0.out hK.1)
  clear hx ht hR hK
  go_wp2_with fail
  go_at_call 93
  with_reducible refine (int_r S1.out).mono ?_
  intro e W2 hp
  obtain ⟨rfl, hR, hK⟩ := hp
  obtain ⟨x1, hx⟩ : ∃ x, (intR b t1).1 = x := ⟨_, rfl⟩
  obtain ⟨t2, ht⟩ : ∃ t, (intR b t1).2 = t := ⟨_, rfl⟩
  rw [ht] at hR
  rw [hx]
  have X1 := Aside0.mk hx
  have T2 := Aside0.mk ht
  have S2 := Aside0.mk hR
  have B2 := Aside0.mk (hK.blk B1.out (by have := HG.out; omega) (by simp))
  have K2 := Aside0.mk (K1.out.trans hK (.inl rfl))
  have Z2 := Aside0.mk (Nat.lt_of_lt_of_le Z1.out hK.1)
  clear hx ht hR hK
  have k0_ := (blk_cell B2.out 0).trans rfl
  have f0_ := blk_frozen B2.out 0
  have k1_ := (blk_cell B2.out 1).trans rfl
  have f1_ := blk_frozen B2.out 1
  have hq := blk_lt B2.out
  go_wp2_with fail
  have hE := @item_end _ k69 Try.f99 2 69 (w0 := w0) (w := w) (wn := W2) (g := g) (q := w.heap.size) (b := b) (x := (⟨x0, x1⟩ : S69)) (s' := t2) (cs0 := #[.string ⟨#[]⟩, .int .i64 0]) (cs := [.string x0, .int .i64 x1])
  simp only [sets, Nat.zero_add, Nat.reduceAdd] at hE
  have hI : groupR b s = (⟨x0, x1⟩, t2) := by unfold groupR; simp only [X0.out, T1.out, X1.out, T2.out]
  rw [hI]
  exact hE _ rfl (by rfl) (by rfl) Try.underlying69 (by kernel_rfl) B2.out rfl S2.out K2.out (Nat.le_refl _) HG.out (k69_mkM _ _ _ (⟨x0, x1⟩ : S69))
def optionsR (b : List Int) (s : R3) : S97 × R3 := (⟨(textR b s).1, (listR b (textR b) (textR b s).2).1⟩, (listR b (textR b) (textR b s).2).2)
set_option maxHeartbeats 4000000 in
theorem options_r {w0 w : World} {g : Nat} {b : List Int} {s : R3} (h : Rd w0 w g b s) : Calls Try.prog 95 #[.pointer (some ⟨g, 0, none⟩)] w (IP k97 w0 g b (optionsR b s).1 (optionsR b s).2 w) := by
  have S0 := Aside0.mk (h.alloc (.cells #[.string ⟨#[]⟩, .slice none 0 0] 97))
  have B0 := Aside0.mk (blk_new w (.cells #[.string ⟨#[]⟩, .slice none 0 0] 97))
  have K0 := Aside0.mk (keep_alloc (KeepBut.refl w g none) (.cells #[.string ⟨#[]⟩, .slice none 0 0] 97))
  have HG := Aside0.mk h.lt.1
  have Z0 := Aside0.mk (show w.heap.size < (w.alloc (.cells #[.string ⟨#[]⟩, .slice none 0 0] 97)).heap.size by simp)
  clear h
  go_enter Try.func95, Try.ntmps95
  go_wp2_with fail
  generalize w.alloc (.cells #[.string ⟨#[]⟩, .slice none 0 0] 97) = W0 at S0 B0 K0 Z0 ⊢
  go_at_call 92
  with_reducible refine (text_r S0.out).mono ?_
  intro e W1 hp
  obtain ⟨rfl, hR, hK⟩ := hp
  obtain ⟨x0, hx⟩ : ∃ x, (textR b s).1 = x := ⟨_, rfl⟩
  obtain ⟨t1, ht⟩ : ∃ t, (textR b s).2 = t := ⟨_, rfl⟩
  rw [ht] at hR
  rw [hx]
  have X0 := Aside0.mk hx
  have T1 := Aside0.mk ht
  have S1 := Aside0.mk hR
  have B1 := Aside0.mk (hK.blk B0.out (by have := HG.out; omega) (by simp))
  have K1 := Aside0.mk (K0.out.trans hK (.inl rfl))
  have Z1 := Aside0.mk (Nat.lt_of_lt_of_le Z0.out hK.1)
  clear hx ht hR hK
  go_wp2_with fail
  go_at_call 122
  with_reducible refine (list122 w0 _ g b _ (fun _ => True) _ S1.out trivial (fun _ _ _ _ => trivial) (fun _ _ hr _ _ => text_r hr)).mono ?_
  intro e W2 hp
  obtain ⟨v, rfl, hv, hR, hK⟩ := hp
  obtain ⟨x1, hx⟩ : ∃ x, (listR b (textR b) t1).1 = x := ⟨_, rfl⟩
  obtain ⟨t2, ht⟩ : ∃ t, (listR b (textR b) t1).2 = t := ⟨_, rfl⟩
  rw [ht] at hR
  rw [hx] at hv
  obtain ⟨A1, c1, rfl⟩ := Kd.R_slice hv
  have X1 := Aside0.mk hx
  have T2 := Aside0.mk ht
  have S2 := Aside0.mk hR
  have B2 := Aside0.mk (hK.blk B1.out (by have := HG.out; omega) (by simp))
  have K2 := Aside0.mk (K1.out.trans hK (.inl rfl))
  have Z2 := Aside0.mk (Nat.lt_of_lt_of_le Z1.out hK.1)
  have V1 := Aside0.mk (Kd.R_lower (Kd.R_mono (Kd.R_bound hv) (fun k_ (hk : _ ∧ W1.heap.size ≤ k_ ∧ _) => (show w.heap.size < k_ from by have := Z1.out; have := hk.2.1; omega))) (show w.heap.size ≤ W1.heap.size from K1.out.1))
  clear hx ht hR hK hv
  have k0_ := (blk_cell B2.out 0).trans rfl
  have f0_ := blk_frozen B2.out 0
  have k1_ := (blk_cell B2.out 1).trans rfl
  have f1_ := blk_frozen B2.out 1
  have hq := blk_lt B2.out
  go_wp2_with fail
  have hE := @item_end _ k97 Try.f95 2 97 (w0 := w0) (w := w) (wn := W2) (g := g) (q := w.heap.size) (b := b) (x := (⟨x0, x1⟩ : S97)) (s' := t2) (cs0 := #[.string ⟨#[]⟩, .slice none 0 0]) (cs := [.string x0, .slice A1 x1.length c1])
  simp only [sets, Nat.zero_add, Nat.reduceAdd] at hE
  have hI : optionsR b s = (⟨x0, x1⟩, t2) := by unfold optionsR; simp only [X0.out, T1.out, X1.out, T2.out]
  rw [hI]
  exact hE _ rfl (by rfl) (by rfl) Try.underlying97 (by kernel_rfl) B2.out rfl S2.out K2.out (Nat.le_refl _) HG.out (k97_mkM _ _ _ (⟨x0, x1⟩ : S97) (Kd.R_mono V1.out (fun k_ hk => by omega)))
def tableR (b : List Int) (s : R3) : S72 × R3 := (⟨(textR b s).1, (listR b (bandR b) (textR b s).2).1⟩, (listR b (bandR b) (textR b s).2).2)
set_option maxHeartbeats 4000000 in
theorem table_r {w0 w : World} {g : Nat} {b : List Int} {s : R3} (h : Rd w0 w g b s) : Calls Try.prog 97 #[.pointer (some ⟨g, 0, none⟩)] w (IP k72 w0 g b (tableR b s).1 (tableR b s).2 w) := by
  have S0 := Aside0.mk (h.alloc (.cells #[.string ⟨#[]⟩, .slice none 0 0] 72))
  have B0 := Aside0.mk (blk_new w (.cells #[.string ⟨#[]⟩, .slice none 0 0] 72))
  have K0 := Aside0.mk (keep_alloc (KeepBut.refl w g none) (.cells #[.string ⟨#[]⟩, .slice none 0 0] 72))
  have HG := Aside0.mk h.lt.1
  have Z0 := Aside0.mk (show w.heap.size < (w.alloc (.cells #[.string ⟨#[]⟩, .slice none 0 0] 72)).heap.size by simp)
  clear h
  go_enter Try.func97, Try.ntmps97
  go_wp2_with fail
  generalize w.alloc (.cells #[.string ⟨#[]⟩, .slice none 0 0] 72) = W0 at S0 B0 K0 Z0 ⊢
  go_at_call 92
  with_reducible refine (text_r S0.out).mono ?_
  intro e W1 hp
  obtain ⟨rfl, hR, hK⟩ := hp
  obtain ⟨x0, hx⟩ : ∃ x, (textR b s).1 = x := ⟨_, rfl⟩
  obtain ⟨t1, ht⟩ : ∃ t, (textR b s).2 = t := ⟨_, rfl⟩
  rw [ht] at hR
  rw [hx]
  have X0 := Aside0.mk hx
  have T1 := Aside0.mk ht
  have S1 := Aside0.mk hR
  have B1 := Aside0.mk (hK.blk B0.out (by have := HG.out; omega) (by simp))
  have K1 := Aside0.mk (K0.out.trans hK (.inl rfl))
  have Z1 := Aside0.mk (Nat.lt_of_lt_of_le Z0.out hK.1)
  clear hx ht hR hK
  go_wp2_with fail
  go_at_call 123
  with_reducible refine (list123 w0 _ g b _ (fun _ => True) _ S1.out trivial (fun _ _ _ _ => trivial) (fun _ _ hr _ _ => band_ip hr)).mono ?_
  intro e W2 hp
  obtain ⟨v, rfl, hv, hR, hK⟩ := hp
  obtain ⟨x1, hx⟩ : ∃ x, (listR b (bandR b) t1).1 = x := ⟨_, rfl⟩
  obtain ⟨t2, ht⟩ : ∃ t, (listR b (bandR b) t1).2 = t := ⟨_, rfl⟩
  rw [ht] at hR
  rw [hx] at hv
  obtain ⟨A1, c1, rfl⟩ := Kd.R_slice hv
  have X1 := Aside0.mk hx
  have T2 := Aside0.mk ht
  have S2 := Aside0.mk hR
  have B2 := Aside0.mk (hK.blk B1.out (by have := HG.out; omega) (by simp))
  have K2 := Aside0.mk (K1.out.trans hK (.inl rfl))
  have Z2 := Aside0.mk (Nat.lt_of_lt_of_le Z1.out hK.1)
  have V1 := Aside0.mk (Kd.R_lower (Kd.R_mono (Kd.R_bound hv) (fun k_ (hk : _ ∧ W1.heap.size ≤ k_ ∧ _) => (show w.heap.size < k_ from by have := Z1.out; have := hk.2.1; omega))) (show w.heap.size ≤ W1.heap.size from K1.out.1))
  clear hx ht hR hK hv
  have k0_ := (blk_cell B2.out 0).trans rfl
  have f0_ := blk_frozen B2.out 0
  have k1_ := (blk_cell B2.out 1).trans rfl
  have f1_ := blk_frozen B2.out 1
  have hq := blk_lt B2.out
  go_wp2_with fail
  have hE := @item_end _ k72 Try.f97 2 72 (w0 := w0) (w := w) (wn := W2) (g := g) (q := w.heap.size) (b := b) (x := (⟨x0, x1⟩ : S72)) (s' := t2) (cs0 := #[.string ⟨#[]⟩, .slice none 0 0]) (cs := [.string x0, .slice A1 x1.length c1])
  simp only [sets, Nat.zero_add, Nat.reduceAdd] at hE
  have hI : tableR b s = (⟨x0, x1⟩, t2) := by unfold tableR; simp only [X0.out, T1.out, X1.out, T2.out]
  rw [hI]
  exact hE _ rfl (by rfl) (by rfl) Try.underlying72 (by kernel_rfl) B2.out rfl S2.out K2.out (Nat.le_refl _) HG.out (k72_mkM _ _ _ (⟨x0, x1⟩ : S72) (Kd.R_mono V1.out (fun k_ hk => by omega)))
def clauseR (b : List Int) (s : R3) : S100 × R3 := (⟨(intR b s).1, (flagR b (intR b s).2).1, (exprR b 64 (flagR b (intR b s).2).2).1, (exprR b 64 (exprR b 64 (flagR b (intR b s).2).2).2).1⟩, (exprR b 64 (exprR b 64 (flagR b (intR b s).2).2).2).2)
set_option maxHeartbeats 4000000 in
theorem clause_r {w0 w : World} {g : Nat} {b : List Int} {s : R3} (h : Rd w0 w g b s) : Calls Try.prog 127 #[.pointer (some ⟨g, 0, none⟩)] w (IP k100 w0 g b (clauseR b s).1 (clauseR b s).2 w) := by
  have S0 := Aside0.mk (h.alloc (.cells #[.int .i64 0, .bool false, .int .i64 0, .int .i64 0, .int .i64 0, .int .i64 0, .slice none 0 0, .int .i64 0, .int .i64 0, .int .i64 0, .int .i64 0, .slice none 0 0] 100))
  have B0 := Aside0.mk (blk_new w (.cells #[.int .i64 0, .bool false, .int .i64 0, .int .i64 0, .int .i64 0, .int .i64 0, .slice none 0 0, .int .i64 0, .int .i64 0, .int .i64 0, .int .i64 0, .slice none 0 0] 100))
  have K0 := Aside0.mk (keep_alloc (KeepBut.refl w g none) (.cells #[.int .i64 0, .bool false, .int .i64 0, .int .i64 0, .int .i64 0, .int .i64 0, .slice none 0 0, .int .i64 0, .int .i64 0, .int .i64 0, .int .i64 0, .slice none 0 0] 100))
  have HG := Aside0.mk h.lt.1
  have Z0 := Aside0.mk (show w.heap.size < (w.alloc (.cells #[.int .i64 0, .bool false, .int .i64 0, .int .i64 0, .int .i64 0, .int .i64 0, .slice none 0 0, .int .i64 0, .int .i64 0, .int .i64 0, .int .i64 0, .slice none 0 0] 100)).heap.size by simp)
  clear h
  go_enter Try.func127, Try.ntmps127
  go_wp2_with fail
  generalize w.alloc (.cells #[.int .i64 0, .bool false, .int .i64 0, .int .i64 0, .int .i64 0, .int .i64 0, .slice none 0 0, .int .i64 0, .int .i64 0, .int .i64 0, .int .i64 0, .slice none 0 0] 100) = W0 at S0 B0 K0 Z0 ⊢
  go_at_call 93
  with_reducible refine (int_r S0.out).mono ?_
  intro e W1 hp
  obtain ⟨rfl, hR, hK⟩ := hp
  obtain ⟨x0, hx⟩ : ∃ x, (intR b s).1 = x := ⟨_, rfl⟩
  obtain ⟨t1, ht⟩ : ∃ t, (intR b s).2 = t := ⟨_, rfl⟩
  rw [ht] at hR
  rw [hx]
  have X0 := Aside0.mk hx
  have T1 := Aside0.mk ht
  have S1 := Aside0.mk hR
  have B1 := Aside0.mk (hK.blk B0.out (by have := HG.out; omega) (by simp))
  have K1 := Aside0.mk (K0.out.trans hK (.inl rfl))
  have Z1 := Aside0.mk (Nat.lt_of_lt_of_le Z0.out hK.1)
  clear hx ht hR hK
  go_wp2_with fail
  go_at_call 125
  with_reducible refine (flag_r S1.out).mono ?_
  intro e W2 hp
  obtain ⟨rfl, hR, hK⟩ := hp
  obtain ⟨x1, hx⟩ : ∃ x, (flagR b t1).1 = x := ⟨_, rfl⟩
  obtain ⟨t2, ht⟩ : ∃ t, (flagR b t1).2 = t := ⟨_, rfl⟩
  rw [ht] at hR
  rw [hx]
  have X1 := Aside0.mk hx
  have T2 := Aside0.mk ht
  have S2 := Aside0.mk hR
  have B2 := Aside0.mk (hK.blk B1.out (by have := HG.out; omega) (by simp))
  have K2 := Aside0.mk (K1.out.trans hK (.inl rfl))
  have Z2 := Aside0.mk (Nat.lt_of_lt_of_le Z1.out hK.1)
  clear hx ht hR hK
  go_wp2_with fail
  go_at_call 128
  with_reducible refine (expr_r S2.out).mono ?_
  intro e W3 hp
  obtain ⟨cs, rfl, hM, hR, hK⟩ := hp
  obtain ⟨x2, hx⟩ : ∃ x, (exprR b 64 t2).1 = x := ⟨_, rfl⟩
  obtain ⟨t3, ht⟩ : ∃ t, (exprR b 64 t2).2 = t := ⟨_, rfl⟩
  rw [ht] at hR
  rw [hx] at hM
  obtain ⟨v, rfl, hv⟩ := k80_openM hM
  obtain ⟨A2, c2, rfl⟩ := Kd.R_slice hv
  have X2 := Aside0.mk hx
  have T3 := Aside0.mk ht
  have S3 := Aside0.mk hR
  have B3 := Aside0.mk (hK.blk B2.out (by have := HG.out; omega) (by simp))
  have K3 := Aside0.mk (K2.out.trans hK (.inl rfl))
  have Z3 := Aside0.mk (Nat.lt_of_lt_of_le Z2.out hK.1)
  have V2 := Aside0.mk (Kd.R_lower (Kd.R_mono (Kd.R_bound hv) (fun k_ (hk : _ ∧ W2.heap.size ≤ k_ ∧ _) => (show w.heap.size < k_ from by have := Z2.out; have := hk.2.1; omega))) (show w.heap.size ≤ W2.heap.size from K2.out.1))
  clear hx ht hR hK hM hv
  go_wp2_with fail
  go_at_call 128
  with_reducible refine (expr_r S3.out).mono ?_
  intro e W4 hp
  obtain ⟨cs, rfl, hM, hR, hK⟩ := hp
  obtain ⟨x3, hx⟩ : ∃ x, (exprR b 64 t3).1 = x := ⟨_, rfl⟩
  obtain ⟨t4, ht⟩ : ∃ t, (exprR b 64 t3).2 = t := ⟨_, rfl⟩
  rw [ht] at hR
  rw [hx] at hM
  obtain ⟨v, rfl, hv⟩ := k80_openM hM
  obtain ⟨A3, c3, rfl⟩ := Kd.R_slice hv
  have X3 := Aside0.mk hx
  have T4 := Aside0.mk ht
  have S4 := Aside0.mk hR
  have B4 := Aside0.mk (hK.blk B3.out (by have := HG.out; omega) (by simp))
  have K4 := Aside0.mk (K3.out.trans hK (.inl rfl))
  have Z4 := Aside0.mk (Nat.lt_of_lt_of_le Z3.out hK.1)
  have V2 := Aside0.mk (Kd.R_keep V2.out hK (fun k_ hk => by have := HG.out; omega))
  have V3 := Aside0.mk (Kd.R_lower (Kd.R_mono (Kd.R_bound hv) (fun k_ (hk : _ ∧ W3.heap.size ≤ k_ ∧ _) => (show w.heap.size < k_ from by have := Z3.out; have := hk.2.1; omega))) (show w.heap.size ≤ W3.heap.size from K3.out.1))
  clear hx ht hR hK hM hv
  have k0_ := (blk_cell B4.out 0).trans rfl
  have f0_ := blk_frozen B4.out 0
  have k1_ := (blk_cell B4.out 1).trans rfl
  have f1_ := blk_frozen B4.out 1
  have k2_ := (blk_cell B4.out 2).trans rfl
  have f2_ := blk_frozen B4.out 2
  have k3_ := (blk_cell B4.out 3).trans rfl
  have f3_ := blk_frozen B4.out 3
  have k4_ := (blk_cell B4.out 4).trans rfl
  have f4_ := blk_frozen B4.out 4
  have k5_ := (blk_cell B4.out 5).trans rfl
  have f5_ := blk_frozen B4.out 5
  have k6_ := (blk_cell B4.out 6).trans rfl
  have f6_ := blk_frozen B4.out 6
  have k7_ := (blk_cell B4.out 7).trans rfl
  have f7_ := blk_frozen B4.out 7
  have k8_ := (blk_cell B4.out 8).trans rfl
  have f8_ := blk_frozen B4.out 8
  have k9_ := (blk_cell B4.out 9).trans rfl
  have f9_ := blk_frozen B4.out 9
  have k10_ := (blk_cell B4.out 10).trans rfl
  have f10_ := blk_frozen B4.out 10
  have k11_ := (blk_cell B4.out 11).trans rfl
  have f11_ := blk_frozen B4.out 11
  have hq := blk_lt B4.out
  go_wp2_with fail
  have hE := @item_end _ k100 Try.f127 2 100 (w0 := w0) (w := w) (wn := W4) (g := g) (q := w.heap.size) (b := b) (x := (⟨x0, x1, x2, x3⟩ : S100)) (s' := t4) (cs0 := #[.int .i64 0, .bool false, .int .i64 0, .int .i64 0, .int .i64 0, .int .i64 0, .slice none 0 0, .int .i64 0, .int .i64 0, .int .i64 0, .int .i64 0, .slice none 0 0]) (cs := [.int .i64 x0, .bool x1, .int .i64 x2.f0, .int .i64 x2.f1, .int .i64 x2.f2, .int .i64 x2.f3, .slice A2 x2.f4.length c2, .int .i64 x3.f0, .int .i64 x3.f1, .int .i64 x3.f2, .int .i64 x3.f3, .slice A3 x3.f4.length c3])
  simp only [sets, Nat.zero_add, Nat.reduceAdd] at hE
  have hI : clauseR b s = (⟨x0, x1, x2, x3⟩, t4) := by unfold clauseR; simp only [X0.out, T1.out, X1.out, T2.out, X2.out, T3.out, X3.out, T4.out]
  rw [hI]
  exact hE _ rfl (by rfl) (by rfl) Try.underlying100 (by kernel_rfl) B4.out rfl S4.out K4.out (Nat.le_refl _) HG.out (k100_mkM _ _ _ (⟨x0, x1, x2, x3⟩ : S100) (Kd.R_mono V2.out (fun k_ hk => by omega)) (Kd.R_mono V3.out (fun k_ hk => by omega)))
def lineR (b : List Int) (s : R3) : S77 × R3 := (⟨(textR b s).1, (flagR b (textR b s).2).1, (flagR b (flagR b (textR b s).2).2).1, (intR b (flagR b (flagR b (textR b s).2).2).2).1, (intR b (intR b (flagR b (flagR b (textR b s).2).2).2).2).1, (intR b (intR b (intR b (flagR b (flagR b (textR b s).2).2).2).2).2).1, (listR b (clauseR b) (intR b (intR b (intR b (flagR b (flagR b (textR b s).2).2).2).2).2).2).1⟩, (listR b (clauseR b) (intR b (intR b (intR b (flagR b (flagR b (textR b s).2).2).2).2).2).2).2)
set_option maxHeartbeats 4000000 in
theorem line_r {w0 w : World} {g : Nat} {b : List Int} {s : R3} (h : Rd w0 w g b s) : Calls Try.prog 101 #[.pointer (some ⟨g, 0, none⟩)] w (IP k77 w0 g b (lineR b s).1 (lineR b s).2 w) := by
  have S0 := Aside0.mk (h.alloc (.cells #[.string ⟨#[]⟩, .bool false, .bool false, .int .i64 0, .int .i64 0, .int .i64 0, .slice none 0 0] 77))
  have B0 := Aside0.mk (blk_new w (.cells #[.string ⟨#[]⟩, .bool false, .bool false, .int .i64 0, .int .i64 0, .int .i64 0, .slice none 0 0] 77))
  have K0 := Aside0.mk (keep_alloc (KeepBut.refl w g none) (.cells #[.string ⟨#[]⟩, .bool false, .bool false, .int .i64 0, .int .i64 0, .int .i64 0, .slice none 0 0] 77))
  have HG := Aside0.mk h.lt.1
  have Z0 := Aside0.mk (show w.heap.size < (w.alloc (.cells #[.string ⟨#[]⟩, .bool false, .bool false, .int .i64 0, .int .i64 0, .int .i64 0, .slice none 0 0] 77)).heap.size by simp)
  clear h
  go_enter Try.func101, Try.ntmps101
  go_wp2_with fail
  generalize w.alloc (.cells #[.string ⟨#[]⟩, .bool false, .bool false, .int .i64 0, .int .i64 0, .int .i64 0, .slice none 0 0] 77) = W0 at S0 B0 K0 Z0 ⊢
  go_at_call 92
  with_reducible refine (text_r S0.out).mono ?_
  intro e W1 hp
  obtain ⟨rfl, hR, hK⟩ := hp
  obtain ⟨x0, hx⟩ : ∃ x, (textR b s).1 = x := ⟨_, rfl⟩
  obtain ⟨t1, ht⟩ : ∃ t, (textR b s).2 = t := ⟨_, rfl⟩
  rw [ht] at hR
  rw [hx]
  have X0 := Aside0.mk hx
  have T1 := Aside0.mk ht
  have S1 := Aside0.mk hR
  have B1 := Aside0.mk (hK.blk B0.out (by have := HG.out; omega) (by simp))
  have K1 := Aside0.mk (K0.out.trans hK (.inl rfl))
  have Z1 := Aside0.mk (Nat.lt_of_lt_of_le Z0.out hK.1)
  clear hx ht hR hK
  go_wp2_with fail
  go_at_call 125
  with_reducible refine (flag_r S1.out).mono ?_
  intro e W2 hp
  obtain ⟨rfl, hR, hK⟩ := hp
  obtain ⟨x1, hx⟩ : ∃ x, (flagR b t1).1 = x := ⟨_, rfl⟩
  obtain ⟨t2, ht⟩ : ∃ t, (flagR b t1).2 = t := ⟨_, rfl⟩
  rw [ht] at hR
  rw [hx]
  have X1 := Aside0.mk hx
  have T2 := Aside0.mk ht
  have S2 := Aside0.mk hR
  have B2 := Aside0.mk (hK.blk B1.out (by have := HG.out; omega) (by simp))
  have K2 := Aside0.mk (K1.out.trans hK (.inl rfl))
  have Z2 := Aside0.mk (Nat.lt_of_lt_of_le Z1.out hK.1)
  clear hx ht hR hK
  go_wp2_with fail
  go_at_call 125
  with_reducible refine (flag_r S2.out).mono ?_
  intro e W3 hp
  obtain ⟨rfl, hR, hK⟩ := hp
  obtain ⟨x2, hx⟩ : ∃ x, (flagR b t2).1 = x := ⟨_, rfl⟩
  obtain ⟨t3, ht⟩ : ∃ t, (flagR b t2).2 = t := ⟨_, rfl⟩
  rw [ht] at hR
  rw [hx]
  have X2 := Aside0.mk hx
  have T3 := Aside0.mk ht
  have S3 := Aside0.mk hR
  have B3 := Aside0.mk (hK.blk B2.out (by have := HG.out; omega) (by simp))
  have K3 := Aside0.mk (K2.out.trans hK (.inl rfl))
  have Z3 := Aside0.mk (Nat.lt_of_lt_of_le Z2.out hK.1)
  clear hx ht hR hK
  go_wp2_with fail
  go_at_call 93
  with_reducible refine (int_r S3.out).mono ?_
  intro e W4 hp
  obtain ⟨rfl, hR, hK⟩ := hp
  obtain ⟨x3, hx⟩ : ∃ x, (intR b t3).1 = x := ⟨_, rfl⟩
  obtain ⟨t4, ht⟩ : ∃ t, (intR b t3).2 = t := ⟨_, rfl⟩
  rw [ht] at hR
  rw [hx]
  have X3 := Aside0.mk hx
  have T4 := Aside0.mk ht
  have S4 := Aside0.mk hR
  have B4 := Aside0.mk (hK.blk B3.out (by have := HG.out; omega) (by simp))
  have K4 := Aside0.mk (K3.out.trans hK (.inl rfl))
  have Z4 := Aside0.mk (Nat.lt_of_lt_of_le Z3.out hK.1)
  clear hx ht hR hK
  go_wp2_with fail
  go_at_call 93
  with_reducible refine (int_r S4.out).mono ?_
  intro e W5 hp
  obtain ⟨rfl, hR, hK⟩ := hp
  obtain ⟨x4, hx⟩ : ∃ x, (intR b t4).1 = x := ⟨_, rfl⟩
  obtain ⟨t5, ht⟩ : ∃ t, (intR b t4).2 = t := ⟨_, rfl⟩
  rw [ht] at hR
  rw [hx]
  have X4 := Aside0.mk hx
  have T5 := Aside0.mk ht
  have S5 := Aside0.mk hR
  have B5 := Aside0.mk (hK.blk B4.out (by have := HG.out; omega) (by simp))
  have K5 := Aside0.mk (K4.out.trans hK (.inl rfl))
  have Z5 := Aside0.mk (Nat.lt_of_lt_of_le Z4.out hK.1)
  clear hx ht hR hK
  go_wp2_with fail
  go_at_call 93
  with_reducible refine (int_r S5.out).mono ?_
  intro e W6 hp
  obtain ⟨rfl, hR, hK⟩ := hp
  obtain ⟨x5, hx⟩ : ∃ x, (intR b t5).1 = x := ⟨_, rfl⟩
  obtain ⟨t6, ht⟩ : ∃ t, (intR b t5).2 = t := ⟨_, rfl⟩
  rw [ht] at hR
  rw [hx]
  have X5 := Aside0.mk hx
  have T6 := Aside0.mk ht
  have S6 := Aside0.mk hR
  have B6 := Aside0.mk (hK.blk B5.out (by have := HG.out; omega) (by simp))
  have K6 := Aside0.mk (K5.out.trans hK (.inl rfl))
  have Z6 := Aside0.mk (Nat.lt_of_lt_of_le Z5.out hK.1)
  clear hx ht hR hK
  go_wp2_with fail
  go_at_call 126
  with_reducible refine (list126 w0 _ g b _ (fun _ => True) _ S6.out trivial (fun _ _ _ _ => trivial) (fun _ _ hr _ _ => clause_r hr)).mono ?_
  intro e W7 hp
  obtain ⟨v, rfl, hv, hR, hK⟩ := hp
  obtain ⟨x6, hx⟩ : ∃ x, (listR b (clauseR b) t6).1 = x := ⟨_, rfl⟩
  obtain ⟨t7, ht⟩ : ∃ t, (listR b (clauseR b) t6).2 = t := ⟨_, rfl⟩
  rw [ht] at hR
  rw [hx] at hv
  obtain ⟨A6, c6, rfl⟩ := Kd.R_slice hv
  have X6 := Aside0.mk hx
  have T7 := Aside0.mk ht
  have S7 := Aside0.mk hR
  have B7 := Aside0.mk (hK.blk B6.out (by have := HG.out; omega) (by simp))
  have K7 := Aside0.mk (K6.out.trans hK (.inl rfl))
  have Z7 := Aside0.mk (Nat.lt_of_lt_of_le Z6.out hK.1)
  have V6 := Aside0.mk (Kd.R_lower (Kd.R_mono (Kd.R_bound hv) (fun k_ (hk : _ ∧ W6.heap.size ≤ k_ ∧ _) => (show w.heap.size < k_ from by have := Z6.out; have := hk.2.1; omega))) (show w.heap.size ≤ W6.heap.size from K6.out.1))
  clear hx ht hR hK hv
  have k0_ := (blk_cell B7.out 0).trans rfl
  have f0_ := blk_frozen B7.out 0
  have k1_ := (blk_cell B7.out 1).trans rfl
  have f1_ := blk_frozen B7.out 1
  have k2_ := (blk_cell B7.out 2).trans rfl
  have f2_ := blk_frozen B7.out 2
  have k3_ := (blk_cell B7.out 3).trans rfl
  have f3_ := blk_frozen B7.out 3
  have k4_ := (blk_cell B7.out 4).trans rfl
  have f4_ := blk_frozen B7.out 4
  have k5_ := (blk_cell B7.out 5).trans rfl
  have f5_ := blk_frozen B7.out 5
  have k6_ := (blk_cell B7.out 6).trans rfl
  have f6_ := blk_frozen B7.out 6
  have hq := blk_lt B7.out
  go_wp2_with fail
  have hE := @item_end _ k77 Try.f101 2 77 (w0 := w0) (w := w) (wn := W7) (g := g) (q := w.heap.size) (b := b) (x := (⟨x0, x1, x2, x3, x4, x5, x6⟩ : S77)) (s' := t7) (cs0 := #[.string ⟨#[]⟩, .bool false, .bool false, .int .i64 0, .int .i64 0, .int .i64 0, .slice none 0 0]) (cs := [.string x0, .bool x1, .bool x2, .int .i64 x3, .int .i64 x4, .int .i64 x5, .slice A6 x6.length c6])
  simp only [sets, Nat.zero_add, Nat.reduceAdd] at hE
  have hI : lineR b s = (⟨x0, x1, x2, x3, x4, x5, x6⟩, t7) := by unfold lineR; simp only [X0.out, T1.out, X1.out, T2.out, X2.out, T3.out, X3.out, T4.out, X4.out, T5.out, X5.out, T6.out, X6.out, T7.out]
  rw [hI]
  exact hE _ rfl (by rfl) (by rfl) Try.underlying77 (by kernel_rfl) B7.out rfl S7.out K7.out (Nat.le_refl _) HG.out (k77_mkM _ _ _ (⟨x0, x1, x2, x3, x4, x5, x6⟩ : S77) (Kd.R_mono V6.out (fun k_ hk => by omega)))
def checkR (b : List Int) (s : R3) : S82 × R3 := (⟨(textR b s).1, (flagR b (textR b s).2).1, (intR b (flagR b (textR b s).2).2).1, (exprR b 64 (intR b (flagR b (textR b s).2).2).2).1, (textR b (exprR b 64 (intR b (flagR b (textR b s).2).2).2).2).1⟩, (textR b (exprR b 64 (intR b (flagR b (textR b s).2).2).2).2).2)
set_option maxHeartbeats 4000000 in
theorem check_r {w0 w : World} {g : Nat} {b : List Int} {s : R3} (h : Rd w0 w g b s) : Calls Try.prog 103 #[.pointer (some ⟨g, 0, none⟩)] w (IP k82 w0 g b (checkR b s).1 (checkR b s).2 w) := by
  have S0 := Aside0.mk (h.alloc (.cells #[.string ⟨#[]⟩, .bool false, .int .i64 0, .int .i64 0, .int .i64 0, .int .i64 0, .int .i64 0, .slice none 0 0, .string ⟨#[]⟩] 82))
  have B0 := Aside0.mk (blk_new w (.cells #[.string ⟨#[]⟩, .bool false, .int .i64 0, .int .i64 0, .int .i64 0, .int .i64 0, .int .i64 0, .slice none 0 0, .string ⟨#[]⟩] 82))
  have K0 := Aside0.mk (keep_alloc (KeepBut.refl w g none) (.cells #[.string ⟨#[]⟩, .bool false, .int .i64 0, .int .i64 0, .int .i64 0, .int .i64 0, .int .i64 0, .slice none 0 0, .string ⟨#[]⟩] 82))
  have HG := Aside0.mk h.lt.1
  have Z0 := Aside0.mk (show w.heap.size < (w.alloc (.cells #[.string ⟨#[]⟩, .bool false, .int .i64 0, .int .i64 0, .int .i64 0, .int .i64 0, .int .i64 0, .slice none 0 0, .string ⟨#[]⟩] 82)).heap.size by simp)
  clear h
  go_enter Try.func103, Try.ntmps103
  go_wp2_with fail
  generalize w.alloc (.cells #[.string ⟨#[]⟩, .bool false, .int .i64 0, .int .i64 0, .int .i64 0, .int .i64 0, .int .i64 0, .slice none 0 0, .string ⟨#[]⟩] 82) = W0 at S0 B0 K0 Z0 ⊢
  go_at_call 92
  with_reducible refine (text_r S0.out).mono ?_
  intro e W1 hp
  obtain ⟨rfl, hR, hK⟩ := hp
  obtain ⟨x0, hx⟩ : ∃ x, (textR b s).1 = x := ⟨_, rfl⟩
  obtain ⟨t1, ht⟩ : ∃ t, (textR b s).2 = t := ⟨_, rfl⟩
  rw [ht] at hR
  rw [hx]
  have X0 := Aside0.mk hx
  have T1 := Aside0.mk ht
  have S1 := Aside0.mk hR
  have B1 := Aside0.mk (hK.blk B0.out (by have := HG.out; omega) (by simp))
  have K1 := Aside0.mk (K0.out.trans hK (.inl rfl))
  have Z1 := Aside0.mk (Nat.lt_of_lt_of_le Z0.out hK.1)
  clear hx ht hR hK
  go_wp2_with fail
  go_at_call 125
  with_reducible refine (flag_r S1.out).mono ?_
  intro e W2 hp
  obtain ⟨rfl, hR, hK⟩ := hp
  obtain ⟨x1, hx⟩ : ∃ x, (flagR b t1).1 = x := ⟨_, rfl⟩
  obtain ⟨t2, ht⟩ : ∃ t, (flagR b t1).2 = t := ⟨_, rfl⟩
  rw [ht] at hR
  rw [hx]
  have X1 := Aside0.mk hx
  have T2 := Aside0.mk ht
  have S2 := Aside0.mk hR
  have B2 := Aside0.mk (hK.blk B1.out (by have := HG.out; omega) (by simp))
  have K2 := Aside0.mk (K1.out.trans hK (.inl rfl))
  have Z2 := Aside0.mk (Nat.lt_of_lt_of_le Z1.out hK.1)
  clear hx ht hR hK
  go_wp2_with fail
  go_at_call 93
  with_reducible refine (int_r S2.out).mono ?_
  intro e W3 hp
  obtain ⟨rfl, hR, hK⟩ := hp
  obtain ⟨x2, hx⟩ : ∃ x, (intR b t2).1 = x := ⟨_, rfl⟩
  obtain ⟨t3, ht⟩ : ∃ t, (intR b t2).2 = t := ⟨_, rfl⟩
  rw [ht] at hR
  rw [hx]
  have X2 := Aside0.mk hx
  have T3 := Aside0.mk ht
  have S3 := Aside0.mk hR
  have B3 := Aside0.mk (hK.blk B2.out (by have := HG.out; omega) (by simp))
  have K3 := Aside0.mk (K2.out.trans hK (.inl rfl))
  have Z3 := Aside0.mk (Nat.lt_of_lt_of_le Z2.out hK.1)
  clear hx ht hR hK
  go_wp2_with fail
  go_at_call 128
  with_reducible refine (expr_r S3.out).mono ?_
  intro e W4 hp
  obtain ⟨cs, rfl, hM, hR, hK⟩ := hp
  obtain ⟨x3, hx⟩ : ∃ x, (exprR b 64 t3).1 = x := ⟨_, rfl⟩
  obtain ⟨t4, ht⟩ : ∃ t, (exprR b 64 t3).2 = t := ⟨_, rfl⟩
  rw [ht] at hR
  rw [hx] at hM
  obtain ⟨v, rfl, hv⟩ := k80_openM hM
  obtain ⟨A3, c3, rfl⟩ := Kd.R_slice hv
  have X3 := Aside0.mk hx
  have T4 := Aside0.mk ht
  have S4 := Aside0.mk hR
  have B4 := Aside0.mk (hK.blk B3.out (by have := HG.out; omega) (by simp))
  have K4 := Aside0.mk (K3.out.trans hK (.inl rfl))
  have Z4 := Aside0.mk (Nat.lt_of_lt_of_le Z3.out hK.1)
  have V3 := Aside0.mk (Kd.R_lower (Kd.R_mono (Kd.R_bound hv) (fun k_ (hk : _ ∧ W3.heap.size ≤ k_ ∧ _) => (show w.heap.size < k_ from by have := Z3.out; have := hk.2.1; omega))) (show w.heap.size ≤ W3.heap.size from K3.out.1))
  clear hx ht hR hK hM hv
  go_wp2_with fail
  go_at_call 92
  with_reducible refine (text_r S4.out).mono ?_
  intro e W5 hp
  obtain ⟨rfl, hR, hK⟩ := hp
  obtain ⟨x4, hx⟩ : ∃ x, (textR b t4).1 = x := ⟨_, rfl⟩
  obtain ⟨t5, ht⟩ : ∃ t, (textR b t4).2 = t := ⟨_, rfl⟩
  rw [ht] at hR
  rw [hx]
  have X4 := Aside0.mk hx
  have T5 := Aside0.mk ht
  have S5 := Aside0.mk hR
  have B5 := Aside0.mk (hK.blk B4.out (by have := HG.out; omega) (by simp))
  have K5 := Aside0.mk (K4.out.trans hK (.inl rfl))
  have Z5 := Aside0.mk (Nat.lt_of_lt_of_le Z4.out hK.1)
  have V3 := Aside0.mk (Kd.R_keep V3.out hK (fun k_ hk => by have := HG.out; omega))
  clear hx ht hR hK
  have k0_ := (blk_cell B5.out 0).trans rfl
  have f0_ := blk_frozen B5.out 0
  have k1_ := (blk_cell B5.out 1).trans rfl
  have f1_ := blk_frozen B5.out 1
  have k2_ := (blk_cell B5.out 2).trans rfl
  have f2_ := blk_frozen B5.out 2
  have k3_ := (blk_cell B5.out 3).trans rfl
  have f3_ := blk_frozen B5.out 3
  have k4_ := (blk_cell B5.out 4).trans rfl
  have f4_ := blk_frozen B5.out 4
  have k5_ := (blk_cell B5.out 5).trans rfl
  have f5_ := blk_frozen B5.out 5
  have k6_ := (blk_cell B5.out 6).trans rfl
  have f6_ := blk_frozen B5.out 6
  have k7_ := (blk_cell B5.out 7).trans rfl
  have f7_ := blk_frozen B5.out 7
  have k8_ := (blk_cell B5.out 8).trans rfl
  have f8_ := blk_frozen B5.out 8
  have hq := blk_lt B5.out
  go_wp2_with fail
  have hE := @item_end _ k82 Try.f103 2 82 (w0 := w0) (w := w) (wn := W5) (g := g) (q := w.heap.size) (b := b) (x := (⟨x0, x1, x2, x3, x4⟩ : S82)) (s' := t5) (cs0 := #[.string ⟨#[]⟩, .bool false, .int .i64 0, .int .i64 0, .int .i64 0, .int .i64 0, .int .i64 0, .slice none 0 0, .string ⟨#[]⟩]) (cs := [.string x0, .bool x1, .int .i64 x2, .int .i64 x3.f0, .int .i64 x3.f1, .int .i64 x3.f2, .int .i64 x3.f3, .slice A3 x3.f4.length c3, .string x4])
  simp only [sets, Nat.zero_add, Nat.reduceAdd] at hE
  have hI : checkR b s = (⟨x0, x1, x2, x3, x4⟩, t5) := by unfold checkR; simp only [X0.out, T1.out, X1.out, T2.out, X2.out, T3.out, X3.out, T4.out, X4.out, T5.out]
  rw [hI]
  exact hE _ rfl (by rfl) (by rfl) Try.underlying82 (by kernel_rfl) B5.out rfl S5.out K5.out (Nat.le_refl _) HG.out (k82_mkM _ _ _ (⟨x0, x1, x2, x3, x4⟩ : S82) (Kd.R_mono V3.out (fun k_ hk => by omega)))
end Go.Proofs.Ytpbdkkahodaloaa.V
end

section
set_option linter.unusedVariables false
set_option linter.unusedSimpArgs false
namespace Go.Proofs.Ytpbdkkahodaloaa.V
open Go.RowKit Go.Proofs.Ytpbdkkahodaloaa.U Go.Proofs.Ytpbdkkahodaloaa.PS Go.Proofs.YtpbdkkahodaloaaW.PrintWords Go.Proofs.YtpbdkkahodaloaaW.PrintMore
set_option maxRecDepth 100000
theorem cut_sum (w : World) {A : Option Addr} {c : Nat} {b : List Int} (hC : Kd.C (Kd.int .u8) w A b.length b) (hcap : b.length ≤ c) (hlen : b.length ≤ 131072) (a : Int) (h0 : 0 ≤ a) (h1 : a ≤ b.length) :
    ∃ m2 c2, (∀ W, (Instr.slice 23 (.slice A b.length c) none (some (.int .i64 a)) none).run Try.prog W = .ok (.slice A m2 c2) W) ∧ ∀ j, Calls Try.prog 12 #[.slice A m2 c2] (w.drewN j) fun e w' => e = .returned (.int .u32 (sumI 2166136261 (b.take a.toNat))) ∧ ∃ m, w' = (w.drewN j).drewN m := by
  obtain ⟨i0, hi0, hz0, hz1, hz2⟩ := info_parts info5'
  refine ⟨_, _, cut_to 23 5 .i64 Try.underlying23 hi0 A b.length c a h0 h1 hcap, fun j => ?_⟩
  have hm := Kd.C_take (m := a.toNat) (Kd.C_drewN hC j) (by omega)
  have hl : (b.take a.toNat).length = a.toNat := by rw [List.length_take]; omega
  obtain ⟨k, hk⟩ := sum_any (b.take a.toNat) (by omega)
  have hs := pack_Sum.calls k A c (b.take a.toNat) _ (w.drewN j) hm (by omega) hk
  rw [hl] at hs
  refine hs.mono fun e w' ⟨he, hd⟩ => ?_
  obtain ⟨⟨m, hm⟩⟩ := hd
  exact ⟨he, m, hm⟩
def byt4 (n : Int) : Nat → Int
  | 0 => n % 256
  | 1 => n / 256 % 256
  | 2 => n / 65536 % 256
  | _ => n / 16777216 % 256
def chkR (b : List Int) (n : Int) (a : Int) : Nat → R3 → R3
  | 0, s => s
  | i + 1, s => if rd b (a + i) = byt4 n i then chkR b n a i s else failR 74 a (chkR b n a i s)
def sumR (b : List Int) (s : R3) : R3 :=
  if (b.length : Int) - s.at_ < 4 then shortR b s
  else if s.at_ + 4 < b.length then failR 73 (s.at_ + 4) (chkR b (sumI 2166136261 (b.take s.at_.toNat)) s.at_ 4 s) else chkR b (sumI 2166136261 (b.take s.at_.toNat)) s.at_ 4 s
theorem chkR_at (b : List Int) (n a : Int) : ∀ (i : Nat) (s : R3), (chkR b n a i s).at_ = s.at_
  | 0, s => rfl
  | i + 1, s => by
    unfold chkR
    split
    · exact chkR_at b n a i s
    · rw [failR_at]; exact chkR_at b n a i s
structure SumL (w0 w wr : World) (g : Nat) (b : List Int) (sn : Int) (s : R3) (j : Int) : Prop where
  which : j = 0 ∨ j = 1 ∨ j = 2 ∨ j = 3 ∨ j = 4
  rd : Rd w0 wr g b (chkR b sn s.at_ j.toNat s)
  keep : KeepBut w wr g none
set_option maxHeartbeats 8000000 in
theorem sum_r {w0 w : World} {g : Nat} {b : List Int} {s : R3} (h : Rd w0 w g b s) : Calls Try.prog 104 #[.pointer (some ⟨g, 0, none⟩)] w (RP w0 g b (sumR b s) (.tuple #[]) w) := by
  obtain ⟨a, er, bd⟩ := s
  obtain ⟨A, c, hb, hge, hC, hcap⟩ := h.is
  have c0 := cellS151_0 hb
  have c1 := cellS151_1 hb
  have hlen := h.len
  have ha0 : 0 ≤ a := h.good.lo
  have ha1 : a ≤ b.length := h.good.hi
  obtain ⟨m2, cc2, hs, hv⟩ := cut_sum w (Kd.C_below hC h.dat) hcap hlen a ha0 ha1
  obtain ⟨sn, hsn⟩ : ∃ sn, sumI 2166136261 (b.take a.toNat) = sn := ⟨_, rfl⟩
  rw [hsn] at hv
  have HV := Aside0.mk hv
  have HSN := Aside0.mk hsn
  have H0 := Aside0.mk h
  have HC := Aside0.mk hC
  clear hb hge hC hcap h hv hsn
  go_enter Try.func104, Try.ntmps104
  go_wp2_with fail
  go_quiet ((go_at_call 12; exact Calls.quiet_of (HV.out _)))
  have e1 : IntKind.i64.wrap ((b.length : Int) - a) = (b.length : Int) - a := by rw [IntKind.wrap_i64]; omega
  have H1 := Aside0.mk (H0.out.drewN nq)
  have K1 := Aside0.mk (keep_drewN (KeepBut.refl w g none) nq)
  by_cases hn : (b.length : Int) - a < 4
  · have HX := Aside0.mk (show sumR b ⟨a, er, bd⟩ = shortR b ⟨a, er, bd⟩ by unfold sumR; rw [if_pos hn])
    have hb1 : decide ((b.length : Int) - a < 4) = true := decide_eq_true hn
    go_wp2_with fail
    go_quiet (fail)
    go_wp2_with fail
    go_at_call 90
    with_reducible refine (short_r (Rd.drewN H0.out _)).mono ?_
    intro e w2 hp
    obtain ⟨rfl, hR, hK⟩ := hp
    have HR := Aside0.mk hR
    have HK := Aside0.mk ((keep_drewN (KeepBut.refl w g none) _).trans hK (.inl rfl))
    clear hR hK
    go_wp2_with fail
    refine bodyPost_ret (results_none rfl _ _ _) rfl ?_
    exact ⟨rfl, by rw [HX.out]; exact HR.out, HK.out⟩
  · have hb1 : decide ((b.length : Int) - a < 4) = false := decide_eq_false hn
    go_wp2_with fail
    go_quiet (fail)
    have R1 := Aside0.mk (H1.out.drewN nq)
    have Q1 := Aside0.mk (keep_drewN K1.out nq)
    go_wp2_with fail
    go_loopw [27] (fun v wr => ∃ j : Int, v = .int .i64 j ∧ Aside0 (SumL w0 w wr g b sn ⟨a, er, bd⟩ j)) (fun v _ => (4 - intOf v).toNat)
    case atStart => exact ⟨0, rfl, ⟨.inl rfl, R1.out, Q1.out⟩⟩
    case round =>
      obtain ⟨j, rfl, HL⟩ := hrel
      obtain ⟨A5, c5, hb5, hge5, hC5, hcap5⟩ := HL.out.rd.is
      have d0 := cellS151_0 hb5
      have d1 := cellS151_1 hb5
      rw [chkR_at] at d1
      have HC5 := Aside0.mk (Kd.C_below hC5 HL.out.rd.dat)
      clear hb5 hge5 hC5 hcap5
      rcases HL.out.which with hj | hj | hj | hj | hj
      · subst hj
        obtain ⟨ad2, hA, hx⟩ := Kd.at_int HC5.out a (by omega) (by omega)
        subst hA
        obtain ⟨x, hxx⟩ : ∃ x, rd b a = x := ⟨_, rfl⟩
        rw [hxx] at hx
        have e2 : IntKind.i64.wrap (a + 0) = a := by rw [IntKind.wrap_i64]; omega
        have HST := Aside0.mk (show chkR b sn a 1 ⟨a, er, bd⟩ = if x = sn % 256 then chkR b sn a 0 ⟨a, er, bd⟩ else failR 74 a (chkR b sn a 0 ⟨a, er, bd⟩) from by rw [← hxx]; show (if rd b (a + 0) = byt4 sn 0 then _ else _) = _; rw [Int.add_zero]; rfl)
        clear hxx
        by_cases hq : x = sn % 256
        · have hb2 : (x != sn % 256) = false := by simp [hq]
          have HQ := Aside0.mk (HST.out.trans (if_pos hq))
          clear hq HST
          go_wp2_with fail
          go_quiet (fail)
          go_wp2_with fail
          go_roundw
          case rel => exact ⟨1, rfl, ⟨⟨by omega, by show Rd w0 _ g b (chkR b sn a 1 ⟨a, er, bd⟩); rw [HQ.out]; exact HL.out.rd.drewN nq, keep_drewN HL.out.keep nq⟩⟩⟩
          case measure => decide
        · have hb2 : (x != sn % 256) = true := by simp [hq]
          have HQ := Aside0.mk (HST.out.trans (if_neg hq))
          clear hq HST
          go_wp2_with fail
          go_quiet (fail)
          go_wp2_with fail
          go_at_call 91
          with_reducible refine (fail_r (HL.out.rd.drewN nq) 74 a).mono ?_
          intro e w5 hp
          obtain ⟨rfl, hR, hK⟩ := hp
          have HR := Aside0.mk hR
          have HK := Aside0.mk ((keep_drewN HL.out.keep nq).trans hK (.inl rfl))
          clear hR hK
          go_wp2_with fail
          go_roundw
          case rel => exact ⟨1, rfl, ⟨⟨by omega, by show Rd w0 _ g b (chkR b sn a 1 ⟨a, er, bd⟩); rw [HQ.out]; exact HR.out, HK.out⟩⟩⟩
          case measure => decide
      · subst hj
        obtain ⟨ad2, hA, hx⟩ := Kd.at_int HC5.out (a + 1) (by omega) (by omega)
        subst hA
        obtain ⟨x, hxx⟩ : ∃ x, rd b (a + 1) = x := ⟨_, rfl⟩
        rw [hxx] at hx
        have e2 : IntKind.i64.wrap (a + 1) = (a + 1) := by rw [IntKind.wrap_i64]; omega
        have HST := Aside0.mk (show chkR b sn a 2 ⟨a, er, bd⟩ = if x = sn / 256 % 256 then chkR b sn a 1 ⟨a, er, bd⟩ else failR 74 a (chkR b sn a 1 ⟨a, er, bd⟩) from by rw [← hxx]; rfl)
        clear hxx
        by_cases hq : x = sn / 256 % 256
        · have hb2 : (x != sn / 256 % 256) = false := by simp [hq]
          have HQ := Aside0.mk (HST.out.trans (if_pos hq))
          clear hq HST
          go_wp2_with fail
          go_quiet (fail)
          go_wp2_with fail
          go_roundw
          case rel => exact ⟨2, rfl, ⟨⟨by omega, by show Rd w0 _ g b (chkR b sn a 2 ⟨a, er, bd⟩); rw [HQ.out]; exact HL.out.rd.drewN nq, keep_drewN HL.out.keep nq⟩⟩⟩
          case measure => decide
        · have hb2 : (x != sn / 256 % 256) = true := by simp [hq]
          have HQ := Aside0.mk (HST.out.trans (if_neg hq))
          clear hq HST
          go_wp2_with fail
          go_quiet (fail)
          go_wp2_with fail
          go_at_call 91
          with_reducible refine (fail_r (HL.out.rd.drewN nq) 74 a).mono ?_
          intro e w5 hp
          obtain ⟨rfl, hR, hK⟩ := hp
          have HR := Aside0.mk hR
          have HK := Aside0.mk ((keep_drewN HL.out.keep nq).trans hK (.inl rfl))
          clear hR hK
          go_wp2_with fail
          go_roundw
          case rel => exact ⟨2, rfl, ⟨⟨by omega, by show Rd w0 _ g b (chkR b sn a 2 ⟨a, er, bd⟩); rw [HQ.out]; exact HR.out, HK.out⟩⟩⟩
          case measure => decide
      · subst hj
        obtain ⟨ad2, hA, hx⟩ := Kd.at_int HC5.out (a + 2) (by omega) (by omega)
        subst hA
        obtain ⟨x, hxx⟩ : ∃ x, rd b (a + 2) = x := ⟨_, rfl⟩
        rw [hxx] at hx
        have e2 : IntKind.i64.wrap (a + 2) = (a + 2) := by rw [IntKind.wrap_i64]; omega
        have HST := Aside0.mk (show chkR b sn a 3 ⟨a, er, bd⟩ = if x = sn / 65536 % 256 then chkR b sn a 2 ⟨a, er, bd⟩ else failR 74 a (chkR b sn a 2 ⟨a, er, bd⟩) from by rw [← hxx]; rfl)
        clear hxx
        by_cases hq : x = sn / 65536 % 256
        · have hb2 : (x != sn / 65536 % 256) = false := by simp [hq]
          have HQ := Aside0.mk (HST.out.trans (if_pos hq))
          clear hq HST
          go_wp2_with fail
          go_quiet (fail)
          go_wp2_with fail
          go_roundw
          case rel => exact ⟨3, rfl, ⟨⟨by omega, by show Rd w0 _ g b (chkR b sn a 3 ⟨a, er, bd⟩); rw [HQ.out]; exact HL.out.rd.drewN nq, keep_drewN HL.out.keep nq⟩⟩⟩
          case measure => decide
        · have hb2 : (x != sn / 65536 % 256) = true := by simp [hq]
          have HQ := Aside0.mk (HST.out.trans (if_neg hq))
          clear hq HST
          go_wp2_with fail
          go_quiet (fail)
          go_wp2_with fail
          go_at_call 91
          with_reducible refine (fail_r (HL.out.rd.drewN nq) 74 a).mono ?_
          intro e w5 hp
          obtain ⟨rfl, hR, hK⟩ := hp
          have HR := Aside0.mk hR
          have HK := Aside0.mk ((keep_drewN HL.out.keep nq).trans hK (.inl rfl))
          clear hR hK
          go_wp2_with fail
          go_roundw
          case rel => exact ⟨3, rfl, ⟨⟨by omega, by show Rd w0 _ g b (chkR b sn a 3 ⟨a, er, bd⟩); rw [HQ.out]; exact HR.out, HK.out⟩⟩⟩
          case measure => decide
      · subst hj
        obtain ⟨ad2, hA, hx⟩ := Kd.at_int HC5.out (a + 3) (by omega) (by omega)
        subst hA
        obtain ⟨x, hxx⟩ : ∃ x, rd b (a + 3) = x := ⟨_, rfl⟩
        rw [hxx] at hx
        have e2 : IntKind.i64.wrap (a + 3) = (a + 3) := by rw [IntKind.wrap_i64]; omega
        have HST := Aside0.mk (show chkR b sn a 4 ⟨a, er, bd⟩ = if x = sn / 16777216 % 256 then chkR b sn a 3 ⟨a, er, bd⟩ else failR 74 a (chkR b sn a 3 ⟨a, er, bd⟩) from by rw [← hxx]; rfl)
        clear hxx
        by_cases hq : x = sn / 16777216 % 256
        · have hb2 : (x != sn / 16777216 % 256) = false := by simp [hq]
          have HQ := Aside0.mk (HST.out.trans (if_pos hq))
          clear hq HST
          go_wp2_with fail
          go_quiet (fail)
          go_wp2_with fail
          go_roundw
          case rel => exact ⟨4, rfl, ⟨⟨by omega, by show Rd w0 _ g b (chkR b sn a 4 ⟨a, er, bd⟩); rw [HQ.out]; exact HL.out.rd.drewN nq, keep_drewN HL.out.keep nq⟩⟩⟩
          case measure => decide
        · have hb2 : (x != sn / 16777216 % 256) = true := by simp [hq]
          have HQ := Aside0.mk (HST.out.trans (if_neg hq))
          clear hq HST
          go_wp2_with fail
          go_quiet (fail)
          go_wp2_with fail
          go_at_call 91
          with_reducible refine (fail_r (HL.out.rd.drewN nq) 74 a).mono ?_
          intro e w5 hp
          obtain ⟨rfl, hR, hK⟩ := hp
          have HR := Aside0.mk hR
          have HK := Aside0.mk ((keep_drewN HL.out.keep nq).trans hK (.inl rfl))
          clear hR hK
          go_wp2_with fail
          go_roundw
          case rel => exact ⟨4, rfl, ⟨⟨by omega, by show Rd w0 _ g b (chkR b sn a 4 ⟨a, er, bd⟩); rw [HQ.out]; exact HR.out, HK.out⟩⟩⟩
          case measure => decide
      · subst hj
        have e3 : IntKind.i64.wrap (a + 4) = a + 4 := by rw [IntKind.wrap_i64]; omega
        by_cases hq : a + 4 < b.length
        · have hb2 : decide (a + 4 < (b.length : Int)) = true := decide_eq_true hq
          have HX := Aside0.mk (show sumR b ⟨a, er, bd⟩ = failR 73 (a + 4) (chkR b sn a 4 ⟨a, er, bd⟩) by unfold sumR; rw [if_neg (show ¬ ((b.length : Int) - a < 4) by omega), if_pos hq, HSN.out])
          go_wp2_with fail
          go_quiet (fail)
          go_wp2_with fail
          go_at_call 91
          with_reducible refine (fail_r (HL.out.rd.drewN nq) 73 (a + 4)).mono ?_
          intro e w5 hp
          obtain ⟨rfl, hR, hK⟩ := hp
          have HR := Aside0.mk hR
          have HK := Aside0.mk ((keep_drewN HL.out.keep nq).trans hK (.inl rfl))
          clear hR hK
          go_wp2_with fail
          go_end0
          exact ⟨rfl, by rw [HX.out]; exact HR.out, HK.out⟩
        · have hb2 : decide (a + 4 < (b.length : Int)) = false := decide_eq_false hq
          have HX := Aside0.mk (show sumR b ⟨a, er, bd⟩ = chkR b sn a 4 ⟨a, er, bd⟩ by unfold sumR; rw [if_neg (show ¬ ((b.length : Int) - a < 4) by omega), if_neg hq, HSN.out])
          go_wp2_with fail
          go_quiet (fail)
          go_wp2_with fail
          go_end0
          exact ⟨rfl, by rw [HX.out]; exact HL.out.rd.drewN nq, keep_drewN HL.out.keep nq⟩
end Go.Proofs.Ytpbdkkahodaloaa.V
end

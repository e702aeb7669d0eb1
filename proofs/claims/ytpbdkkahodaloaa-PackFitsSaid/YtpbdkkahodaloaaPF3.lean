-- Part 3 of the texts of the claim PF (wrote by programs: words of the kit's print.sh, printed functions; and my own texts; joined by wip/tools/pack.py).
import Derived.Test.YtpbdkkahodaloaaPF2
import Derived.Test.YtpbdkkahodaloaaProg

section
namespace Go.Proofs.Ytpbdkkahodaloaa.PS
open Go.RowKit Go.Proofs.YtpbdkkahodaloaaW.PrintWords Go.Proofs.YtpbdkkahodaloaaW.PrintLast Go.Proofs.YtpbdkkahodaloaaW.PrintMore
attribute [local go_sem] max2_int min2_int max_two min_two max_three min_three max_four min_four
set_option linter.unusedVariables false
set_option linter.unusedSimpArgs false
def errW : Option Int → Value
  | none => .nilIface
  | some c => .iface 0 (.int .i64 c)
theorem errW_none : errW none = .nilIface := rfl
theorem errW_some (c : Int) : errW (some c) = .iface 0 (.int .i64 c) := rfl
theorem info5 : (Try.prog.info? 5).map (fun i => (i.zero, i.size, i.bytes)) = some (some (.int .u8 0), 1, 1) := by kernel_rfl
theorem info80 : (Try.prog.info? 80).map (fun i => (i.zero, i.size, i.bytes)) = some (some (.agg #[(.int .i64 0), (.int .i64 0), (.int .i64 0), (.int .i64 0), (.slice none 0 0)]), 5, 56) := by kernel_rfl
def rd_L2 (xs : List (List ByteArray)) (i : Int) : (List ByteArray) := xs.getD i.toNat ([] : List ByteArray)
theorem at_L2 {w : World} {A : Option Addr} {n : Nat} {xs : List (List ByteArray)} (h : Kd.C (Kd.slice 9 Kd.string) w A n xs) (i : Int) (h0 : 0 ≤ i) (h1 : i < n) : ∃ ad A0 c0, A = some ad ∧ w.cell? (ad.add i.toNat) = some (.slice A0 (rd_L2 xs i).length c0) ∧ (rd_L2 xs i).length ≤ c0 ∧ Kd.string.C w A0 (rd_L2 xs i).length (rd_L2 xs i) := by
  obtain ⟨ad, c, e, _, hK, hc0⟩ := Kd.C_get h ([] : List ByteArray) i h0 h1
  have hc : ∀ j u, c[j]? = some u → w.cell? (ad.add (i.toNat * 1 + j)) = some u := hc0
  obtain ⟨A0, c0, rfl, l0, g0⟩ := hK
  exact ⟨ad, A0, c0, e, by have hq := hc 0 _ rfl; rwa [Nat.mul_one, Nat.add_zero] at hq, l0, g0⟩
structure S97 where
  f0 : ByteArray
  f1 : (List ByteArray)
def z97 : S97 := ⟨(⟨#[]⟩ : ByteArray), ([] : List ByteArray)⟩
def k97 : Kd S97 := Kd.iso (Kd.pair Kd.string (Kd.slice 9 Kd.string)) (fun x : S97 => (x.f0, x.f1))
theorem k97_open {w : World} {x : S97} {cs : List Value} (h : k97.K w x cs) : ∃ A1 c1, cs = [.string x.f0, .slice A1 x.f1.length c1] ∧ x.f1.length ≤ c1 ∧ Kd.string.C w A1 x.f1.length x.f1 := by
  obtain ⟨_, _, rfl, rfl, ⟨A1, c1, rfl, l1, g1⟩⟩ := h
  exact ⟨A1, c1, rfl, l1, g1⟩
theorem k97_openM {w : World} {base : Nat} {ok : Nat → Prop} {x : S97} {cs : List Value} (h : k97.M w base ok x cs) : ∃ v1, cs = [.string x.f0, v1] ∧ Kd.string.R 9 w base ok v1 x.f1 := by
  obtain ⟨_, _, rfl, rfl, ⟨v1, rfl, g1⟩⟩ := h
  exact ⟨v1, rfl, g1⟩
theorem k97_mk (w : World) (x : S97) {A1 : Option Addr} {c1 : Nat} (l1 : x.f1.length ≤ c1) (g1 : Kd.string.C w A1 x.f1.length x.f1) : k97.K w x [.string x.f0, .slice A1 x.f1.length c1] := ⟨[.string x.f0], [.slice A1 x.f1.length c1], rfl, rfl, ⟨A1, c1, rfl, l1, g1⟩⟩
theorem k97_mkM (w : World) (base : Nat) (ok : Nat → Prop) (x : S97) {v1 : Value} (g1 : Kd.string.R 9 w base ok v1 x.f1) : k97.M w base ok x [.string x.f0, v1] := ⟨[.string x.f0], [v1], rfl, rfl, ⟨v1, rfl, g1⟩⟩
def rd_T97 (xs : List S97) (i : Int) : S97 := xs.getD i.toNat z97
theorem at_T97 {w : World} {A : Option Addr} {n : Nat} {xs : List S97} (h : Kd.C k97 w A n xs) (i : Int) (h0 : 0 ≤ i) (h1 : i < n) : ∃ ad A1 c1, A = some ad ∧ w.cell? (ad.add (i.toNat * 2)) = some (.string (rd_T97 xs i).f0) ∧ w.cell? ⟨(ad.add (i.toNat * 2)).block, (ad.add (i.toNat * 2)).off + 1, none⟩ = some (.slice A1 (rd_T97 xs i).f1.length c1) ∧ (rd_T97 xs i).f1.length ≤ c1 ∧ Kd.string.C w A1 (rd_T97 xs i).f1.length (rd_T97 xs i).f1 := by
  obtain ⟨ad, c, e, _, hK, hc0⟩ := Kd.C_get h z97 i h0 h1
  have hc : ∀ j u, c[j]? = some u → w.cell? (ad.add (i.toNat * 2 + j)) = some u := hc0
  obtain ⟨A1, c1, rfl, l1, g1⟩ := k97_open hK
  exact ⟨ad, A1, c1, e, hc 0 _ rfl, by rw [← add_field _ _ 1 (by omega)]; exact hc 1 _ rfl, l1, g1⟩
structure S74 where
  f0 : Int
  f1 : Int
def z74 : S74 := ⟨(0 : Int), (0 : Int)⟩
def k74 : Kd S74 := Kd.iso (Kd.pair (Kd.int .i64) (Kd.int .i64)) (fun x : S74 => (x.f0, x.f1))
theorem k74_open {w : World} {x : S74} {cs : List Value} (h : k74.K w x cs) : cs = [.int .i64 x.f0, .int .i64 x.f1] := by
  obtain ⟨_, _, rfl, rfl, rfl⟩ := h
  exact rfl
theorem k74_openM {w : World} {base : Nat} {ok : Nat → Prop} {x : S74} {cs : List Value} (h : k74.M w base ok x cs) : cs = [.int .i64 x.f0, .int .i64 x.f1] := by
  obtain ⟨_, _, rfl, rfl, rfl⟩ := h
  exact rfl
theorem k74_mk (w : World) (x : S74)  : k74.K w x [.int .i64 x.f0, .int .i64 x.f1] := ⟨[.int .i64 x.f0], [.int .i64 x.f1], rfl, rfl, rfl⟩
theorem k74_mkM (w : World) (base : Nat) (ok : Nat → Prop) (x : S74)  : k74.M w base ok x [.int .i64 x.f0, .int .i64 x.f1] := ⟨[.int .i64 x.f0], [.int .i64 x.f1], rfl, rfl, rfl⟩
def rd_T74 (xs : List S74) (i : Int) : S74 := xs.getD i.toNat z74
theorem at_T74 {w : World} {A : Option Addr} {n : Nat} {xs : List S74} (h : Kd.C k74 w A n xs) (i : Int) (h0 : 0 ≤ i) (h1 : i < n) : ∃ ad , A = some ad ∧ w.cell? (ad.add (i.toNat * 2)) = some (.int .i64 (rd_T74 xs i).f0) ∧ w.cell? ⟨(ad.add (i.toNat * 2)).block, (ad.add (i.toNat * 2)).off + 1, none⟩ = some (.int .i64 (rd_T74 xs i).f1) := by
  obtain ⟨ad, c, e, _, hK, hc0⟩ := Kd.C_get h z74 i h0 h1
  have hc : ∀ j u, c[j]? = some u → w.cell? (ad.add (i.toNat * 2 + j)) = some u := hc0
  obtain rfl := k74_open hK
  exact ⟨ad, e, hc 0 _ rfl, by rw [← add_field _ _ 1 (by omega)]; exact hc 1 _ rfl⟩
def rd_L6 (xs : List (List S74)) (i : Int) : (List S74) := xs.getD i.toNat ([] : List S74)
theorem at_L6 {w : World} {A : Option Addr} {n : Nat} {xs : List (List S74)} (h : Kd.C (Kd.slice 74 k74) w A n xs) (i : Int) (h0 : 0 ≤ i) (h1 : i < n) : ∃ ad A0 c0, A = some ad ∧ w.cell? (ad.add i.toNat) = some (.slice A0 (rd_L6 xs i).length c0) ∧ (rd_L6 xs i).length ≤ c0 ∧ k74.C w A0 (rd_L6 xs i).length (rd_L6 xs i) := by
  obtain ⟨ad, c, e, _, hK, hc0⟩ := Kd.C_get h ([] : List S74) i h0 h1
  have hc : ∀ j u, c[j]? = some u → w.cell? (ad.add (i.toNat * 1 + j)) = some u := hc0
  obtain ⟨A0, c0, rfl, l0, g0⟩ := hK
  exact ⟨ad, A0, c0, e, by have hq := hc 0 _ rfl; rwa [Nat.mul_one, Nat.add_zero] at hq, l0, g0⟩
structure S72 where
  f0 : ByteArray
  f1 : (List S74)
def z72 : S72 := ⟨(⟨#[]⟩ : ByteArray), ([] : List S74)⟩
def k72 : Kd S72 := Kd.iso (Kd.pair Kd.string (Kd.slice 74 k74)) (fun x : S72 => (x.f0, x.f1))
theorem k72_open {w : World} {x : S72} {cs : List Value} (h : k72.K w x cs) : ∃ A1 c1, cs = [.string x.f0, .slice A1 x.f1.length c1] ∧ x.f1.length ≤ c1 ∧ k74.C w A1 x.f1.length x.f1 := by
  obtain ⟨_, _, rfl, rfl, ⟨A1, c1, rfl, l1, g1⟩⟩ := h
  exact ⟨A1, c1, rfl, l1, g1⟩
theorem k72_openM {w : World} {base : Nat} {ok : Nat → Prop} {x : S72} {cs : List Value} (h : k72.M w base ok x cs) : ∃ v1, cs = [.string x.f0, v1] ∧ k74.R 74 w base ok v1 x.f1 := by
  obtain ⟨_, _, rfl, rfl, ⟨v1, rfl, g1⟩⟩ := h
  exact ⟨v1, rfl, g1⟩
theorem k72_mk (w : World) (x : S72) {A1 : Option Addr} {c1 : Nat} (l1 : x.f1.length ≤ c1) (g1 : k74.C w A1 x.f1.length x.f1) : k72.K w x [.string x.f0, .slice A1 x.f1.length c1] := ⟨[.string x.f0], [.slice A1 x.f1.length c1], rfl, rfl, ⟨A1, c1, rfl, l1, g1⟩⟩
theorem k72_mkM (w : World) (base : Nat) (ok : Nat → Prop) (x : S72) {v1 : Value} (g1 : k74.R 74 w base ok v1 x.f1) : k72.M w base ok x [.string x.f0, v1] := ⟨[.string x.f0], [v1], rfl, rfl, ⟨v1, rfl, g1⟩⟩
def rd_T72 (xs : List S72) (i : Int) : S72 := xs.getD i.toNat z72
theorem at_T72 {w : World} {A : Option Addr} {n : Nat} {xs : List S72} (h : Kd.C k72 w A n xs) (i : Int) (h0 : 0 ≤ i) (h1 : i < n) : ∃ ad A1 c1, A = some ad ∧ w.cell? (ad.add (i.toNat * 2)) = some (.string (rd_T72 xs i).f0) ∧ w.cell? ⟨(ad.add (i.toNat * 2)).block, (ad.add (i.toNat * 2)).off + 1, none⟩ = some (.slice A1 (rd_T72 xs i).f1.length c1) ∧ (rd_T72 xs i).f1.length ≤ c1 ∧ k74.C w A1 (rd_T72 xs i).f1.length (rd_T72 xs i).f1 := by
  obtain ⟨ad, c, e, _, hK, hc0⟩ := Kd.C_get h z72 i h0 h1
  have hc : ∀ j u, c[j]? = some u → w.cell? (ad.add (i.toNat * 2 + j)) = some u := hc0
  obtain ⟨A1, c1, rfl, l1, g1⟩ := k72_open hK
  exact ⟨ad, A1, c1, e, hc 0 _ rfl, by rw [← add_field _ _ 1 (by omega)]; exact hc 1 _ rfl, l1, g1⟩
structure S69 where
  f0 : ByteArray
  f1 : Int
def z69 : S69 := ⟨(⟨#[]⟩ : ByteArray), (0 : Int)⟩
def k69 : Kd S69 := Kd.iso (Kd.pair Kd.string (Kd.int .i64)) (fun x : S69 => (x.f0, x.f1))
theorem k69_open {w : World} {x : S69} {cs : List Value} (h : k69.K w x cs) : cs = [.string x.f0, .int .i64 x.f1] := by
  obtain ⟨_, _, rfl, rfl, rfl⟩ := h
  exact rfl
theorem k69_openM {w : World} {base : Nat} {ok : Nat → Prop} {x : S69} {cs : List Value} (h : k69.M w base ok x cs) : cs = [.string x.f0, .int .i64 x.f1] := by
  obtain ⟨_, _, rfl, rfl, rfl⟩ := h
  exact rfl
theorem k69_mk (w : World) (x : S69)  : k69.K w x [.string x.f0, .int .i64 x.f1] := ⟨[.string x.f0], [.int .i64 x.f1], rfl, rfl, rfl⟩
theorem k69_mkM (w : World) (base : Nat) (ok : Nat → Prop) (x : S69)  : k69.M w base ok x [.string x.f0, .int .i64 x.f1] := ⟨[.string x.f0], [.int .i64 x.f1], rfl, rfl, rfl⟩
def rd_T69 (xs : List S69) (i : Int) : S69 := xs.getD i.toNat z69
theorem at_T69 {w : World} {A : Option Addr} {n : Nat} {xs : List S69} (h : Kd.C k69 w A n xs) (i : Int) (h0 : 0 ≤ i) (h1 : i < n) : ∃ ad , A = some ad ∧ w.cell? (ad.add (i.toNat * 2)) = some (.string (rd_T69 xs i).f0) ∧ w.cell? ⟨(ad.add (i.toNat * 2)).block, (ad.add (i.toNat * 2)).off + 1, none⟩ = some (.int .i64 (rd_T69 xs i).f1) := by
  obtain ⟨ad, c, e, _, hK, hc0⟩ := Kd.C_get h z69 i h0 h1
  have hc : ∀ j u, c[j]? = some u → w.cell? (ad.add (i.toNat * 2 + j)) = some u := hc0
  obtain rfl := k69_open hK
  exact ⟨ad, e, hc 0 _ rfl, by rw [← add_field _ _ 1 (by omega)]; exact hc 1 _ rfl⟩
structure S80 where
  f0 : Int
  f1 : Int
  f2 : Int
  f3 : Int
  f4 : (List S80)
def z80 : S80 := ⟨(0 : Int), (0 : Int), (0 : Int), (0 : Int), ([] : List S80)⟩
def F80 (d : Kd S80) : Kd S80 := Kd.iso (Kd.pair (Kd.int .i64) (Kd.pair (Kd.int .i64) (Kd.pair (Kd.int .i64) (Kd.pair (Kd.int .i64) (Kd.slice 80 d))))) (fun x : S80 => (x.f0, x.f1, x.f2, x.f3, x.f4))
theorem mono80 : Kd.Mono F80 := Kd.mono_iso _ (Kd.mono_pair (Kd.mono_const _) (Kd.mono_pair (Kd.mono_const _) (Kd.mono_pair (Kd.mono_const _) (Kd.mono_pair (Kd.mono_const _) (Kd.mono_slice 80 Kd.mono_id)))))
theorem sub80 : Kd.Sub F80 [80] := Kd.sub_iso _ (Kd.sub_pair (Kd.sub_const _ (by decide)) (Kd.sub_pair (Kd.sub_const _ (by decide)) (Kd.sub_pair (Kd.sub_const _ (by decide)) (Kd.sub_pair (Kd.sub_const _ (by decide)) (Kd.sub_slice 80 (by decide) Kd.sub_id)))))
theorem sz80 : ∀ n, (Kd.upto F80 5 [80] n).sz = 5 := Kd.upto_sz (fun _ => rfl)
def k80 : Kd S80 := Kd.fix F80 5 [80] sz80 (Kd.upto_E sub80)
theorem k80_open {w : World} {x : S80} {cs : List Value} (h : k80.K w x cs) : ∃ A4 c4, cs = [.int .i64 x.f0, .int .i64 x.f1, .int .i64 x.f2, .int .i64 x.f3, .slice A4 x.f4.length c4] ∧ x.f4.length ≤ c4 ∧ k80.C w A4 x.f4.length x.f4 := by
  obtain ⟨n, h⟩ := h
  cases n with
  | zero => exact h.elim
  | succ n =>
    obtain ⟨_, _, rfl, rfl, ⟨_, _, rfl, rfl, ⟨_, _, rfl, rfl, ⟨_, _, rfl, rfl, ⟨A4, c4, rfl, l4, g4⟩⟩⟩⟩⟩ := h
    exact ⟨A4, c4, rfl, l4, Kd.fix_C g4⟩
theorem k80_openM {w : World} {base : Nat} {ok : Nat → Prop} {x : S80} {cs : List Value} (h : k80.M w base ok x cs) : ∃ v4, cs = [.int .i64 x.f0, .int .i64 x.f1, .int .i64 x.f2, .int .i64 x.f3, v4] ∧ k80.R 80 w base ok v4 x.f4 := by
  obtain ⟨n, h⟩ := h
  cases n with
  | zero => exact h.elim
  | succ n =>
    obtain ⟨_, _, rfl, rfl, ⟨_, _, rfl, rfl, ⟨_, _, rfl, rfl, ⟨_, _, rfl, rfl, ⟨v4, rfl, g4⟩⟩⟩⟩⟩ := h
    exact ⟨v4, rfl, Kd.fix_R g4⟩
theorem k80_mk (w : World) (x : S80) {A4 : Option Addr} {c4 : Nat} (l4 : x.f4.length ≤ c4) (g4 : k80.C w A4 x.f4.length x.f4) : k80.K w x [.int .i64 x.f0, .int .i64 x.f1, .int .i64 x.f2, .int .i64 x.f3, .slice A4 x.f4.length c4] := by
  obtain ⟨n4, q4⟩ := Kd.fix_C_back mono80 g4
  have r4 := Kd.upto_C_le mono80 sz80 (show n4 ≤ n4 by omega) q4
  exact ⟨n4 + 1, ⟨[.int .i64 x.f0], [.int .i64 x.f1, .int .i64 x.f2, .int .i64 x.f3, .slice A4 x.f4.length c4], rfl, rfl, ⟨[.int .i64 x.f1], [.int .i64 x.f2, .int .i64 x.f3, .slice A4 x.f4.length c4], rfl, rfl, ⟨[.int .i64 x.f2], [.int .i64 x.f3, .slice A4 x.f4.length c4], rfl, rfl, ⟨[.int .i64 x.f3], [.slice A4 x.f4.length c4], rfl, rfl, ⟨A4, c4, rfl, l4, r4⟩⟩⟩⟩⟩⟩
theorem k80_mkM (w : World) (base : Nat) (ok : Nat → Prop) (x : S80) {v4 : Value} (g4 : k80.R 80 w base ok v4 x.f4) : k80.M w base ok x [.int .i64 x.f0, .int .i64 x.f1, .int .i64 x.f2, .int .i64 x.f3, v4] := by
  obtain ⟨n4, q4⟩ := Kd.fix_R_back mono80 g4
  have r4 := Kd.upto_R_le mono80 sz80 (show n4 ≤ n4 by omega) q4
  exact ⟨n4 + 1, ⟨[.int .i64 x.f0], [.int .i64 x.f1, .int .i64 x.f2, .int .i64 x.f3, v4], rfl, rfl, ⟨[.int .i64 x.f1], [.int .i64 x.f2, .int .i64 x.f3, v4], rfl, rfl, ⟨[.int .i64 x.f2], [.int .i64 x.f3, v4], rfl, rfl, ⟨[.int .i64 x.f3], [v4], rfl, rfl, ⟨v4, rfl, r4⟩⟩⟩⟩⟩⟩
def rd_T80 (xs : List S80) (i : Int) : S80 := xs.getD i.toNat z80
theorem at_T80 {w : World} {A : Option Addr} {n : Nat} {xs : List S80} (h : Kd.C k80 w A n xs) (i : Int) (h0 : 0 ≤ i) (h1 : i < n) : ∃ ad A4 c4, A = some ad ∧ w.cell? (ad.add (i.toNat * 5)) = some (.int .i64 (rd_T80 xs i).f0) ∧ w.cell? ⟨(ad.add (i.toNat * 5)).block, (ad.add (i.toNat * 5)).off + 1, none⟩ = some (.int .i64 (rd_T80 xs i).f1) ∧ w.cell? ⟨(ad.add (i.toNat * 5)).block, (ad.add (i.toNat * 5)).off + 2, none⟩ = some (.int .i64 (rd_T80 xs i).f2) ∧ w.cell? ⟨(ad.add (i.toNat * 5)).block, (ad.add (i.toNat * 5)).off + 3, none⟩ = some (.int .i64 (rd_T80 xs i).f3) ∧ w.cell? ⟨(ad.add (i.toNat * 5)).block, (ad.add (i.toNat * 5)).off + 4, none⟩ = some (.slice A4 (rd_T80 xs i).f4.length c4) ∧ (rd_T80 xs i).f4.length ≤ c4 ∧ k80.C w A4 (rd_T80 xs i).f4.length (rd_T80 xs i).f4 := by
  obtain ⟨ad, c, e, _, hK, hc0⟩ := Kd.C_get h z80 i h0 h1
  have hc : ∀ j u, c[j]? = some u → w.cell? (ad.add (i.toNat * 5 + j)) = some u := hc0
  obtain ⟨A4, c4, rfl, l4, g4⟩ := k80_open hK
  exact ⟨ad, A4, c4, e, hc 0 _ rfl, by rw [← add_field _ _ 1 (by omega)]; exact hc 1 _ rfl, by rw [← add_field _ _ 2 (by omega)]; exact hc 2 _ rfl, by rw [← add_field _ _ 3 (by omega)]; exact hc 3 _ rfl, by rw [← add_field _ _ 4 (by omega)]; exact hc 4 _ rfl, l4, g4⟩
structure S100 where
  f0 : Int
  f1 : Bool
  f2 : S80
  f3 : S80
def z100 : S100 := ⟨(0 : Int), false, z80, z80⟩
def k100 : Kd S100 := Kd.iso (Kd.pair (Kd.int .i64) (Kd.pair Kd.bool (Kd.pair k80 k80))) (fun x : S100 => (x.f0, x.f1, x.f2, x.f3))
theorem k100_open {w : World} {x : S100} {cs : List Value} (h : k100.K w x cs) : ∃ A6 c6 A11 c11, cs = [.int .i64 x.f0, .bool x.f1, .int .i64 x.f2.f0, .int .i64 x.f2.f1, .int .i64 x.f2.f2, .int .i64 x.f2.f3, .slice A6 x.f2.f4.length c6, .int .i64 x.f3.f0, .int .i64 x.f3.f1, .int .i64 x.f3.f2, .int .i64 x.f3.f3, .slice A11 x.f3.f4.length c11] ∧ x.f2.f4.length ≤ c6 ∧ k80.C w A6 x.f2.f4.length x.f2.f4 ∧ x.f3.f4.length ≤ c11 ∧ k80.C w A11 x.f3.f4.length x.f3.f4 := by
  obtain ⟨_, _, rfl, rfl, ⟨_, _, rfl, rfl, ⟨_, _, rfl, s2, s7⟩⟩⟩ := h
  obtain ⟨A6, c6, rfl, l6, g6⟩ := k80_open s2
  obtain ⟨A11, c11, rfl, l11, g11⟩ := k80_open s7
  exact ⟨A6, c6, A11, c11, rfl, l6, g6, l11, g11⟩
theorem k100_openM {w : World} {base : Nat} {ok : Nat → Prop} {x : S100} {cs : List Value} (h : k100.M w base ok x cs) : ∃ v6 v11, cs = [.int .i64 x.f0, .bool x.f1, .int .i64 x.f2.f0, .int .i64 x.f2.f1, .int .i64 x.f2.f2, .int .i64 x.f2.f3, v6, .int .i64 x.f3.f0, .int .i64 x.f3.f1, .int .i64 x.f3.f2, .int .i64 x.f3.f3, v11] ∧ k80.R 80 w base ok v6 x.f2.f4 ∧ k80.R 80 w base ok v11 x.f3.f4 := by
  obtain ⟨_, _, rfl, rfl, ⟨_, _, rfl, rfl, ⟨_, _, rfl, s2, s7⟩⟩⟩ := h
  obtain ⟨v6, rfl, g6⟩ := k80_openM s2
  obtain ⟨v11, rfl, g11⟩ := k80_openM s7
  exact ⟨v6, v11, rfl, g6, g11⟩
theorem k100_mk (w : World) (x : S100) {A6 : Option Addr} {c6 : Nat} (l6 : x.f2.f4.length ≤ c6) (g6 : k80.C w A6 x.f2.f4.length x.f2.f4) {A11 : Option Addr} {c11 : Nat} (l11 : x.f3.f4.length ≤ c11) (g11 : k80.C w A11 x.f3.f4.length x.f3.f4) : k100.K w x [.int .i64 x.f0, .bool x.f1, .int .i64 x.f2.f0, .int .i64 x.f2.f1, .int .i64 x.f2.f2, .int .i64 x.f2.f3, .slice A6 x.f2.f4.length c6, .int .i64 x.f3.f0, .int .i64 x.f3.f1, .int .i64 x.f3.f2, .int .i64 x.f3.f3, .slice A11 x.f3.f4.length c11] := ⟨[.int .i64 x.f0], [.bool x.f1, .int .i64 x.f2.f0, .int .i64 x.f2.f1, .int .i64 x.f2.f2, .int .i64 x.f2.f3, .slice A6 x.f2.f4.length c6, .int .i64 x.f3.f0, .int .i64 x.f3.f1, .int .i64 x.f3.f2, .int .i64 x.f3.f3, .slice A11 x.f3.f4.length c11], rfl, rfl, ⟨[.bool x.f1], [.int .i64 x.f2.f0, .int .i64 x.f2.f1, .int .i64 x.f2.f2, .int .i64 x.f2.f3, .slice A6 x.f2.f4.length c6, .int .i64 x.f3.f0, .int .i64 x.f3.f1, .int .i64 x.f3.f2, .int .i64 x.f3.f3, .slice A11 x.f3.f4.length c11], rfl, rfl, ⟨[.int .i64 x.f2.f0, .int .i64 x.f2.f1, .int .i64 x.f2.f2, .int .i64 x.f2.f3, .slice A6 x.f2.f4.length c6], [.int .i64 x.f3.f0, .int .i64 x.f3.f1, .int .i64 x.f3.f2, .int .i64 x.f3.f3, .slice A11 x.f3.f4.length c11], rfl, (k80_mk w x.f2 l6 g6), (k80_mk w x.f3 l11 g11)⟩⟩⟩
theorem k100_mkM (w : World) (base : Nat) (ok : Nat → Prop) (x : S100) {v6 : Value} (g6 : k80.R 80 w base ok v6 x.f2.f4) {v11 : Value} (g11 : k80.R 80 w base ok v11 x.f3.f4) : k100.M w base ok x [.int .i64 x.f0, .bool x.f1, .int .i64 x.f2.f0, .int .i64 x.f2.f1, .int .i64 x.f2.f2, .int .i64 x.f2.f3, v6, .int .i64 x.f3.f0, .int .i64 x.f3.f1, .int .i64 x.f3.f2, .int .i64 x.f3.f3, v11] := ⟨[.int .i64 x.f0], [.bool x.f1, .int .i64 x.f2.f0, .int .i64 x.f2.f1, .int .i64 x.f2.f2, .int .i64 x.f2.f3, v6, .int .i64 x.f3.f0, .int .i64 x.f3.f1, .int .i64 x.f3.f2, .int .i64 x.f3.f3, v11], rfl, rfl, ⟨[.bool x.f1], [.int .i64 x.f2.f0, .int .i64 x.f2.f1, .int .i64 x.f2.f2, .int .i64 x.f2.f3, v6, .int .i64 x.f3.f0, .int .i64 x.f3.f1, .int .i64 x.f3.f2, .int .i64 x.f3.f3, v11], rfl, rfl, ⟨[.int .i64 x.f2.f0, .int .i64 x.f2.f1, .int .i64 x.f2.f2, .int .i64 x.f2.f3, v6], [.int .i64 x.f3.f0, .int .i64 x.f3.f1, .int .i64 x.f3.f2, .int .i64 x.f3.f3, v11], rfl, (k80_mkM w base ok x.f2 g6), (k80_mkM w base ok x.f3 g11)⟩⟩⟩
def rd_T100 (xs : List S100) (i : Int) : S100 := xs.getD i.toNat z100
theorem at_T100 {w : World} {A : Option Addr} {n : Nat} {xs : List S100} (h : Kd.C k100 w A n xs) (i : Int) (h0 : 0 ≤ i) (h1 : i < n) : ∃ ad A6 c6 A11 c11, A = some ad ∧ w.cell? (ad.add (i.toNat * 12)) = some (.int .i64 (rd_T100 xs i).f0) ∧ w.cell? ⟨(ad.add (i.toNat * 12)).block, (ad.add (i.toNat * 12)).off + 1, none⟩ = some (.bool (rd_T100 xs i).f1) ∧ w.cell? ⟨(ad.add (i.toNat * 12)).block, (ad.add (i.toNat * 12)).off + 2, none⟩ = some (.int .i64 (rd_T100 xs i).f2.f0) ∧ w.cell? ⟨(ad.add (i.toNat * 12)).block, (ad.add (i.toNat * 12)).off + 3, none⟩ = some (.int .i64 (rd_T100 xs i).f2.f1) ∧ w.cell? ⟨(ad.add (i.toNat * 12)).block, (ad.add (i.toNat * 12)).off + 4, none⟩ = some (.int .i64 (rd_T100 xs i).f2.f2) ∧ w.cell? ⟨(ad.add (i.toNat * 12)).block, (ad.add (i.toNat * 12)).off + 5, none⟩ = some (.int .i64 (rd_T100 xs i).f2.f3) ∧ w.cell? ⟨(ad.add (i.toNat * 12)).block, (ad.add (i.toNat * 12)).off + 6, none⟩ = some (.slice A6 (rd_T100 xs i).f2.f4.length c6) ∧ w.cell? ⟨(ad.add (i.toNat * 12)).block, (ad.add (i.toNat * 12)).off + 7, none⟩ = some (.int .i64 (rd_T100 xs i).f3.f0) ∧ w.cell? ⟨(ad.add (i.toNat * 12)).block, (ad.add (i.toNat * 12)).off + 8, none⟩ = some (.int .i64 (rd_T100 xs i).f3.f1) ∧ w.cell? ⟨(ad.add (i.toNat * 12)).block, (ad.add (i.toNat * 12)).off + 9, none⟩ = some (.int .i64 (rd_T100 xs i).f3.f2) ∧ w.cell? ⟨(ad.add (i.toNat * 12)).block, (ad.add (i.toNat * 12)).off + 10, none⟩ = some (.int .i64 (rd_T100 xs i).f3.f3) ∧ w.cell? ⟨(ad.add (i.toNat * 12)).block, (ad.add (i.toNat * 12)).off + 11, none⟩ = some (.slice A11 (rd_T100 xs i).f3.f4.length c11) ∧ (rd_T100 xs i).f2.f4.length ≤ c6 ∧ k80.C w A6 (rd_T100 xs i).f2.f4.length (rd_T100 xs i).f2.f4 ∧ (rd_T100 xs i).f3.f4.length ≤ c11 ∧ k80.C w A11 (rd_T100 xs i).f3.f4.length (rd_T100 xs i).f3.f4 := by
  obtain ⟨ad, c, e, _, hK, hc0⟩ := Kd.C_get h z100 i h0 h1
  have hc : ∀ j u, c[j]? = some u → w.cell? (ad.add (i.toNat * 12 + j)) = some u := hc0
  obtain ⟨A6, c6, A11, c11, rfl, l6, g6, l11, g11⟩ := k100_open hK
  exact ⟨ad, A6, c6, A11, c11, e, hc 0 _ rfl, by rw [← add_field _ _ 1 (by omega)]; exact hc 1 _ rfl, by rw [← add_field _ _ 2 (by omega)]; exact hc 2 _ rfl, by rw [← add_field _ _ 3 (by omega)]; exact hc 3 _ rfl, by rw [← add_field _ _ 4 (by omega)]; exact hc 4 _ rfl, by rw [← add_field _ _ 5 (by omega)]; exact hc 5 _ rfl, by rw [← add_field _ _ 6 (by omega)]; exact hc 6 _ rfl, by rw [← add_field _ _ 7 (by omega)]; exact hc 7 _ rfl, by rw [← add_field _ _ 8 (by omega)]; exact hc 8 _ rfl, by rw [← add_field _ _ 9 (by omega)]; exact hc 9 _ rfl, by rw [← add_field _ _ 10 (by omega)]; exact hc 10 _ rfl, by rw [← add_field _ _ 11 (by omega)]; exact hc 11 _ rfl, l6, g6, l11, g11⟩
def rd_L12 (xs : List (List S100)) (i : Int) : (List S100) := xs.getD i.toNat ([] : List S100)
theorem at_L12 {w : World} {A : Option Addr} {n : Nat} {xs : List (List S100)} (h : Kd.C (Kd.slice 100 k100) w A n xs) (i : Int) (h0 : 0 ≤ i) (h1 : i < n) : ∃ ad A0 c0, A = some ad ∧ w.cell? (ad.add i.toNat) = some (.slice A0 (rd_L12 xs i).length c0) ∧ (rd_L12 xs i).length ≤ c0 ∧ k100.C w A0 (rd_L12 xs i).length (rd_L12 xs i) := by
  obtain ⟨ad, c, e, _, hK, hc0⟩ := Kd.C_get h ([] : List S100) i h0 h1
  have hc : ∀ j u, c[j]? = some u → w.cell? (ad.add (i.toNat * 1 + j)) = some u := hc0
  obtain ⟨A0, c0, rfl, l0, g0⟩ := hK
  exact ⟨ad, A0, c0, e, by have hq := hc 0 _ rfl; rwa [Nat.mul_one, Nat.add_zero] at hq, l0, g0⟩
structure S77 where
  f0 : ByteArray
  f1 : Bool
  f2 : Bool
  f3 : Int
  f4 : Int
  f5 : Int
  f6 : (List S100)
def z77 : S77 := ⟨(⟨#[]⟩ : ByteArray), false, false, (0 : Int), (0 : Int), (0 : Int), ([] : List S100)⟩
def k77 : Kd S77 := Kd.iso (Kd.pair Kd.string (Kd.pair Kd.bool (Kd.pair Kd.bool (Kd.pair (Kd.int .i64) (Kd.pair (Kd.int .i64) (Kd.pair (Kd.int .i64) (Kd.slice 100 k100))))))) (fun x : S77 => (x.f0, x.f1, x.f2, x.f3, x.f4, x.f5, x.f6))
theorem k77_open {w : World} {x : S77} {cs : List Value} (h : k77.K w x cs) : ∃ A6 c6, cs = [.string x.f0, .bool x.f1, .bool x.f2, .int .i64 x.f3, .int .i64 x.f4, .int .i64 x.f5, .slice A6 x.f6.length c6] ∧ x.f6.length ≤ c6 ∧ k100.C w A6 x.f6.length x.f6 := by
  obtain ⟨_, _, rfl, rfl, ⟨_, _, rfl, rfl, ⟨_, _, rfl, rfl, ⟨_, _, rfl, rfl, ⟨_, _, rfl, rfl, ⟨_, _, rfl, rfl, ⟨A6, c6, rfl, l6, g6⟩⟩⟩⟩⟩⟩⟩ := h
  exact ⟨A6, c6, rfl, l6, g6⟩
theorem k77_openM {w : World} {base : Nat} {ok : Nat → Prop} {x : S77} {cs : List Value} (h : k77.M w base ok x cs) : ∃ v6, cs = [.string x.f0, .bool x.f1, .bool x.f2, .int .i64 x.f3, .int .i64 x.f4, .int .i64 x.f5, v6] ∧ k100.R 100 w base ok v6 x.f6 := by
  obtain ⟨_, _, rfl, rfl, ⟨_, _, rfl, rfl, ⟨_, _, rfl, rfl, ⟨_, _, rfl, rfl, ⟨_, _, rfl, rfl, ⟨_, _, rfl, rfl, ⟨v6, rfl, g6⟩⟩⟩⟩⟩⟩⟩ := h
  exact ⟨v6, rfl, g6⟩
theorem k77_mk (w : World) (x : S77) {A6 : Option Addr} {c6 : Nat} (l6 : x.f6.length ≤ c6) (g6 : k100.C w A6 x.f6.length x.f6) : k77.K w x [.string x.f0, .bool x.f1, .bool x.f2, .int .i64 x.f3, .int .i64 x.f4, .int .i64 x.f5, .slice A6 x.f6.length c6] := ⟨[.string x.f0], [.bool x.f1, .bool x.f2, .int .i64 x.f3, .int .i64 x.f4, .int .i64 x.f5, .slice A6 x.f6.length c6], rfl, rfl, ⟨[.bool x.f1], [.bool x.f2, .int .i64 x.f3, .int .i64 x.f4, .int .i64 x.f5, .slice A6 x.f6.length c6], rfl, rfl, ⟨[.bool x.f2], [.int .i64 x.f3, .int .i64 x.f4, .int .i64 x.f5, .slice A6 x.f6.length c6], rfl, rfl, ⟨[.int .i64 x.f3], [.int .i64 x.f4, .int .i64 x.f5, .slice A6 x.f6.length c6], rfl, rfl, ⟨[.int .i64 x.f4], [.int .i64 x.f5, .slice A6 x.f6.length c6], rfl, rfl, ⟨[.int .i64 x.f5], [.slice A6 x.f6.length c6], rfl, rfl, ⟨A6, c6, rfl, l6, g6⟩⟩⟩⟩⟩⟩⟩
theorem k77_mkM (w : World) (base : Nat) (ok : Nat → Prop) (x : S77) {v6 : Value} (g6 : k100.R 100 w base ok v6 x.f6) : k77.M w base ok x [.string x.f0, .bool x.f1, .bool x.f2, .int .i64 x.f3, .int .i64 x.f4, .int .i64 x.f5, v6] := ⟨[.string x.f0], [.bool x.f1, .bool x.f2, .int .i64 x.f3, .int .i64 x.f4, .int .i64 x.f5, v6], rfl, rfl, ⟨[.bool x.f1], [.bool x.f2, .int .i64 x.f3, .int .i64 x.f4, .int .i64 x.f5, v6], rfl, rfl, ⟨[.bool x.f2], [.int .i64 x.f3, .int .i64 x.f4, .int .i64 x.f5, v6], rfl, rfl, ⟨[.int .i64 x.f3], [.int .i64 x.f4, .int .i64 x.f5, v6], rfl, rfl, ⟨[.int .i64 x.f4], [.int .i64 x.f5, v6], rfl, rfl, ⟨[.int .i64 x.f5], [v6], rfl, rfl, ⟨v6, rfl, g6⟩⟩⟩⟩⟩⟩⟩
def rd_T77 (xs : List S77) (i : Int) : S77 := xs.getD i.toNat z77
theorem at_T77 {w : World} {A : Option Addr} {n : Nat} {xs : List S77} (h : Kd.C k77 w A n xs) (i : Int) (h0 : 0 ≤ i) (h1 : i < n) : ∃ ad A6 c6, A = some ad ∧ w.cell? (ad.add (i.toNat * 7)) = some (.string (rd_T77 xs i).f0) ∧ w.cell? ⟨(ad.add (i.toNat * 7)).block, (ad.add (i.toNat * 7)).off + 1, none⟩ = some (.bool (rd_T77 xs i).f1) ∧ w.cell? ⟨(ad.add (i.toNat * 7)).block, (ad.add (i.toNat * 7)).off + 2, none⟩ = some (.bool (rd_T77 xs i).f2) ∧ w.cell? ⟨(ad.add (i.toNat * 7)).block, (ad.add (i.toNat * 7)).off + 3, none⟩ = some (.int .i64 (rd_T77 xs i).f3) ∧ w.cell? ⟨(ad.add (i.toNat * 7)).block, (ad.add (i.toNat * 7)).off + 4, none⟩ = some (.int .i64 (rd_T77 xs i).f4) ∧ w.cell? ⟨(ad.add (i.toNat * 7)).block, (ad.add (i.toNat * 7)).off + 5, none⟩ = some (.int .i64 (rd_T77 xs i).f5) ∧ w.cell? ⟨(ad.add (i.toNat * 7)).block, (ad.add (i.toNat * 7)).off + 6, none⟩ = some (.slice A6 (rd_T77 xs i).f6.length c6) ∧ (rd_T77 xs i).f6.length ≤ c6 ∧ k100.C w A6 (rd_T77 xs i).f6.length (rd_T77 xs i).f6 := by
  obtain ⟨ad, c, e, _, hK, hc0⟩ := Kd.C_get h z77 i h0 h1
  have hc : ∀ j u, c[j]? = some u → w.cell? (ad.add (i.toNat * 7 + j)) = some u := hc0
  obtain ⟨A6, c6, rfl, l6, g6⟩ := k77_open hK
  exact ⟨ad, A6, c6, e, hc 0 _ rfl, by rw [← add_field _ _ 1 (by omega)]; exact hc 1 _ rfl, by rw [← add_field _ _ 2 (by omega)]; exact hc 2 _ rfl, by rw [← add_field _ _ 3 (by omega)]; exact hc 3 _ rfl, by rw [← add_field _ _ 4 (by omega)]; exact hc 4 _ rfl, by rw [← add_field _ _ 5 (by omega)]; exact hc 5 _ rfl, by rw [← add_field _ _ 6 (by omega)]; exact hc 6 _ rfl, l6, g6⟩
structure S82 where
  f0 : ByteArray
  f1 : Bool
  f2 : Int
  f3 : S80
  f4 : ByteArray
def z82 : S82 := ⟨(⟨#[]⟩ : ByteArray), false, (0 : Int), z80, (⟨#[]⟩ : ByteArray)⟩
def k82 : Kd S82 := Kd.iso (Kd.pair Kd.string (Kd.pair Kd.bool (Kd.pair (Kd.int .i64) (Kd.pair k80 Kd.string)))) (fun x : S82 => (x.f0, x.f1, x.f2, x.f3, x.f4))
theorem k82_open {w : World} {x : S82} {cs : List Value} (h : k82.K w x cs) : ∃ A7 c7, cs = [.string x.f0, .bool x.f1, .int .i64 x.f2, .int .i64 x.f3.f0, .int .i64 x.f3.f1, .int .i64 x.f3.f2, .int .i64 x.f3.f3, .slice A7 x.f3.f4.length c7, .string x.f4] ∧ x.f3.f4.length ≤ c7 ∧ k80.C w A7 x.f3.f4.length x.f3.f4 := by
  obtain ⟨_, _, rfl, rfl, ⟨_, _, rfl, rfl, ⟨_, _, rfl, rfl, ⟨_, _, rfl, s3, rfl⟩⟩⟩⟩ := h
  obtain ⟨A7, c7, rfl, l7, g7⟩ := k80_open s3
  exact ⟨A7, c7, rfl, l7, g7⟩
theorem k82_openM {w : World} {base : Nat} {ok : Nat → Prop} {x : S82} {cs : List Value} (h : k82.M w base ok x cs) : ∃ v7, cs = [.string x.f0, .bool x.f1, .int .i64 x.f2, .int .i64 x.f3.f0, .int .i64 x.f3.f1, .int .i64 x.f3.f2, .int .i64 x.f3.f3, v7, .string x.f4] ∧ k80.R 80 w base ok v7 x.f3.f4 := by
  obtain ⟨_, _, rfl, rfl, ⟨_, _, rfl, rfl, ⟨_, _, rfl, rfl, ⟨_, _, rfl, s3, rfl⟩⟩⟩⟩ := h
  obtain ⟨v7, rfl, g7⟩ := k80_openM s3
  exact ⟨v7, rfl, g7⟩
theorem k82_mk (w : World) (x : S82) {A7 : Option Addr} {c7 : Nat} (l7 : x.f3.f4.length ≤ c7) (g7 : k80.C w A7 x.f3.f4.length x.f3.f4) : k82.K w x [.string x.f0, .bool x.f1, .int .i64 x.f2, .int .i64 x.f3.f0, .int .i64 x.f3.f1, .int .i64 x.f3.f2, .int .i64 x.f3.f3, .slice A7 x.f3.f4.length c7, .string x.f4] := ⟨[.string x.f0], [.bool x.f1, .int .i64 x.f2, .int .i64 x.f3.f0, .int .i64 x.f3.f1, .int .i64 x.f3.f2, .int .i64 x.f3.f3, .slice A7 x.f3.f4.length c7, .string x.f4], rfl, rfl, ⟨[.bool x.f1], [.int .i64 x.f2, .int .i64 x.f3.f0, .int .i64 x.f3.f1, .int .i64 x.f3.f2, .int .i64 x.f3.f3, .slice A7 x.f3.f4.length c7, .string x.f4], rfl, rfl, ⟨[.int .i64 x.f2], [.int .i64 x.f3.f0, .int .i64 x.f3.f1, .int .i64 x.f3.f2, .int .i64 x.f3.f3, .slice A7 x.f3.f4.length c7, .string x.f4], rfl, rfl, ⟨[.int .i64 x.f3.f0, .int .i64 x.f3.f1, .int .i64 x.f3.f2, .int .i64 x.f3.f3, .slice A7 x.f3.f4.length c7], [.string x.f4], rfl, (k80_mk w x.f3 l7 g7), rfl⟩⟩⟩⟩
theorem k82_mkM (w : World) (base : Nat) (ok : Nat → Prop) (x : S82) {v7 : Value} (g7 : k80.R 80 w base ok v7 x.f3.f4) : k82.M w base ok x [.string x.f0, .bool x.f1, .int .i64 x.f2, .int .i64 x.f3.f0, .int .i64 x.f3.f1, .int .i64 x.f3.f2, .int .i64 x.f3.f3, v7, .string x.f4] := ⟨[.string x.f0], [.bool x.f1, .int .i64 x.f2, .int .i64 x.f3.f0, .int .i64 x.f3.f1, .int .i64 x.f3.f2, .int .i64 x.f3.f3, v7, .string x.f4], rfl, rfl, ⟨[.bool x.f1], [.int .i64 x.f2, .int .i64 x.f3.f0, .int .i64 x.f3.f1, .int .i64 x.f3.f2, .int .i64 x.f3.f3, v7, .string x.f4], rfl, rfl, ⟨[.int .i64 x.f2], [.int .i64 x.f3.f0, .int .i64 x.f3.f1, .int .i64 x.f3.f2, .int .i64 x.f3.f3, v7, .string x.f4], rfl, rfl, ⟨[.int .i64 x.f3.f0, .int .i64 x.f3.f1, .int .i64 x.f3.f2, .int .i64 x.f3.f3, v7], [.string x.f4], rfl, (k80_mkM w base ok x.f3 g7), rfl⟩⟩⟩⟩
def rd_T82 (xs : List S82) (i : Int) : S82 := xs.getD i.toNat z82
theorem at_T82 {w : World} {A : Option Addr} {n : Nat} {xs : List S82} (h : Kd.C k82 w A n xs) (i : Int) (h0 : 0 ≤ i) (h1 : i < n) : ∃ ad A7 c7, A = some ad ∧ w.cell? (ad.add (i.toNat * 9)) = some (.string (rd_T82 xs i).f0) ∧ w.cell? ⟨(ad.add (i.toNat * 9)).block, (ad.add (i.toNat * 9)).off + 1, none⟩ = some (.bool (rd_T82 xs i).f1) ∧ w.cell? ⟨(ad.add (i.toNat * 9)).block, (ad.add (i.toNat * 9)).off + 2, none⟩ = some (.int .i64 (rd_T82 xs i).f2) ∧ w.cell? ⟨(ad.add (i.toNat * 9)).block, (ad.add (i.toNat * 9)).off + 3, none⟩ = some (.int .i64 (rd_T82 xs i).f3.f0) ∧ w.cell? ⟨(ad.add (i.toNat * 9)).block, (ad.add (i.toNat * 9)).off + 4, none⟩ = some (.int .i64 (rd_T82 xs i).f3.f1) ∧ w.cell? ⟨(ad.add (i.toNat * 9)).block, (ad.add (i.toNat * 9)).off + 5, none⟩ = some (.int .i64 (rd_T82 xs i).f3.f2) ∧ w.cell? ⟨(ad.add (i.toNat * 9)).block, (ad.add (i.toNat * 9)).off + 6, none⟩ = some (.int .i64 (rd_T82 xs i).f3.f3) ∧ w.cell? ⟨(ad.add (i.toNat * 9)).block, (ad.add (i.toNat * 9)).off + 7, none⟩ = some (.slice A7 (rd_T82 xs i).f3.f4.length c7) ∧ w.cell? ⟨(ad.add (i.toNat * 9)).block, (ad.add (i.toNat * 9)).off + 8, none⟩ = some (.string (rd_T82 xs i).f4) ∧ (rd_T82 xs i).f3.f4.length ≤ c7 ∧ k80.C w A7 (rd_T82 xs i).f3.f4.length (rd_T82 xs i).f3.f4 := by
  obtain ⟨ad, c, e, _, hK, hc0⟩ := Kd.C_get h z82 i h0 h1
  have hc : ∀ j u, c[j]? = some u → w.cell? (ad.add (i.toNat * 9 + j)) = some u := hc0
  obtain ⟨A7, c7, rfl, l7, g7⟩ := k82_open hK
  exact ⟨ad, A7, c7, e, hc 0 _ rfl, by rw [← add_field _ _ 1 (by omega)]; exact hc 1 _ rfl, by rw [← add_field _ _ 2 (by omega)]; exact hc 2 _ rfl, by rw [← add_field _ _ 3 (by omega)]; exact hc 3 _ rfl, by rw [← add_field _ _ 4 (by omega)]; exact hc 4 _ rfl, by rw [← add_field _ _ 5 (by omega)]; exact hc 5 _ rfl, by rw [← add_field _ _ 6 (by omega)]; exact hc 6 _ rfl, by rw [← add_field _ _ 7 (by omega)]; exact hc 7 _ rfl, by rw [← add_field _ _ 8 (by omega)]; exact hc 8 _ rfl, l7, g7⟩
end Go.Proofs.Ytpbdkkahodaloaa.PS
end

section
namespace Go.Proofs.Ytpbdkkahodaloaa.PS
open Go.RowKit Go.Proofs.YtpbdkkahodaloaaW.PrintWords Go.Proofs.YtpbdkkahodaloaaW.PrintLast Go.Proofs.YtpbdkkahodaloaaW.PrintMore
attribute [local go_sem] max2_int min2_int max_two min_two max_three min_three max_four min_four
set_option linter.unusedVariables false
set_option linter.unusedSimpArgs false
mutual
def levylaw7_sameExpr.j0 : Nat → Bool → Int → Int → Int → Int → List (S80) → Int → Int → Int → Int → List (S80) → Option (Bool)
 | 0, _, _, _, _, _, _, _, _, _, _, _ => none
 | k + 1, x40, x124000, x124001, x124002, x124003, x124004, x125000, x125001, x125002, x125003, x125004 => if x40 = true then (some false) else (levylaw7_sameExpr.l0 k 0 x124000 x124001 x124002 x124003 x124004 x125000 x125001 x125002 x125003 x125004)
def levylaw7_sameExpr.l0 : Nat → Int → Int → Int → Int → Int → List (S80) → Int → Int → Int → Int → List (S80) → Option (Bool)
 | 0, _, _, _, _, _, _, _, _, _, _, _ => none
 | k + 1, x5, x124000, x124001, x124002, x124003, x124004, x125000, x125001, x125002, x125003, x125004 => if x5 < (x124004.length : Int) then (if 0 ≤ x5 then (if x5 < (x125004.length : Int) then ((levylaw7_sameExpr.f k ((rd_T80 x124004 x5).f0) ((rd_T80 x124004 x5).f1) ((rd_T80 x124004 x5).f2) ((rd_T80 x124004 x5).f3) ((rd_T80 x124004 x5).f4) ((rd_T80 x125004 x5).f0) ((rd_T80 x125004 x5).f1) ((rd_T80 x125004 x5).f2) ((rd_T80 x125004 x5).f3) ((rd_T80 x125004 x5).f4)).bind fun t127 => (if t127 = true then (levylaw7_sameExpr.l0 k (wrap64 (x5 + 1)) x124000 x124001 x124002 x124003 x124004 x125000 x125001 x125002 x125003 x125004) else (some false))) else (none)) else (none)) else (some true)
def levylaw7_sameExpr.f : Nat → Int → Int → Int → Int → List (S80) → Int → Int → Int → Int → List (S80) → Option (Bool)
 | 0, _, _, _, _, _, _, _, _, _, _ => none
 | k + 1, a0_0, a0_1, a0_2, a0_3, l0_4, a1_0, a1_1, a1_2, a1_3, l1_4 => if a0_0 = a1_0 then (if a0_1 = a1_1 then (if a0_2 = a1_2 then (if a0_3 = a1_3 then (levylaw7_sameExpr.j0 k ((l0_4.length : Int) != (l1_4.length : Int)) a0_0 a0_1 a0_2 a0_3 l0_4 a1_0 a1_1 a1_2 a1_3 l1_4) else (levylaw7_sameExpr.j0 k true a0_0 a0_1 a0_2 a0_3 l0_4 a1_0 a1_1 a1_2 a1_3 l1_4)) else (levylaw7_sameExpr.j0 k true a0_0 a0_1 a0_2 a0_3 l0_4 a1_0 a1_1 a1_2 a1_3 l1_4)) else (levylaw7_sameExpr.j0 k true a0_0 a0_1 a0_2 a0_3 l0_4 a1_0 a1_1 a1_2 a1_3 l1_4)) else (levylaw7_sameExpr.j0 k true a0_0 a0_1 a0_2 a0_3 l0_4 a1_0 a1_1 a1_2 a1_3 l1_4)
end
theorem levylaw7_sameExpr.mono_l : ∀ k, (∀ y0 y1 y2 y3 y4 y5 y6 y7 y8 y9, LeO (levylaw7_sameExpr.f k y0 y1 y2 y3 y4 y5 y6 y7 y8 y9) (levylaw7_sameExpr.f (k + 1) y0 y1 y2 y3 y4 y5 y6 y7 y8 y9)) ∧ (∀ y0 y1 y2 y3 y4 y5 y6 y7 y8 y9 y10, LeO (levylaw7_sameExpr.j0 k y0 y1 y2 y3 y4 y5 y6 y7 y8 y9 y10) (levylaw7_sameExpr.j0 (k + 1) y0 y1 y2 y3 y4 y5 y6 y7 y8 y9 y10)) ∧ (∀ y0 y1 y2 y3 y4 y5 y6 y7 y8 y9 y10, LeO (levylaw7_sameExpr.l0 k y0 y1 y2 y3 y4 y5 y6 y7 y8 y9 y10) (levylaw7_sameExpr.l0 (k + 1) y0 y1 y2 y3 y4 y5 y6 y7 y8 y9 y10))
 | 0 => ⟨fun _ _ _ _ _ _ _ _ _ _ r h => by simp [levylaw7_sameExpr.f] at h, fun _ _ _ _ _ _ _ _ _ _ _ r h => by simp [levylaw7_sameExpr.j0] at h, fun _ _ _ _ _ _ _ _ _ _ _ r h => by simp [levylaw7_sameExpr.l0] at h⟩
 | k + 1 => by
  obtain ⟨ih0, ih1, ih2⟩ := levylaw7_sameExpr.mono_l k
  refine ⟨?_, ?_, ?_⟩
  ·intro y0 y1 y2 y3 y4 y5 y6 y7 y8 y9
   unfold levylaw7_sameExpr.f
   repeat' first
   | (with_reducible exact ih0 _ _ _ _ _ _ _ _ _ _)
   | (with_reducible exact ih1 _ _ _ _ _ _ _ _ _ _ _)
   | (with_reducible exact ih2 _ _ _ _ _ _ _ _ _ _ _)
   | (with_reducible exact LeO.refl _)
   | (with_reducible exact LeO.none _)
   | (with_reducible refine LeO.ite ?_ ?_)
   | (with_reducible refine LeO.bind ?_ (fun _ => ?_))
   | exact ih0 _ _ _ _ _ _ _ _ _ _
   | exact ih1 _ _ _ _ _ _ _ _ _ _ _
   | exact ih2 _ _ _ _ _ _ _ _ _ _ _
   | exact LeO.none _
   | refine LeO.ite ?_ ?_
   | refine LeO.bind ?_ (fun _ => ?_)
  ·intro y0 y1 y2 y3 y4 y5 y6 y7 y8 y9 y10
   unfold levylaw7_sameExpr.j0
   repeat' first
   | (with_reducible exact ih0 _ _ _ _ _ _ _ _ _ _)
   | (with_reducible exact ih1 _ _ _ _ _ _ _ _ _ _ _)
   | (with_reducible exact ih2 _ _ _ _ _ _ _ _ _ _ _)
   | (with_reducible exact LeO.refl _)
   | (with_reducible exact LeO.none _)
   | (with_reducible refine LeO.ite ?_ ?_)
   | (with_reducible refine LeO.bind ?_ (fun _ => ?_))
   | exact ih0 _ _ _ _ _ _ _ _ _ _
   | exact ih1 _ _ _ _ _ _ _ _ _ _ _
   | exact ih2 _ _ _ _ _ _ _ _ _ _ _
   | exact LeO.none _
   | refine LeO.ite ?_ ?_
   | refine LeO.bind ?_ (fun _ => ?_)
  ·intro y0 y1 y2 y3 y4 y5 y6 y7 y8 y9 y10
   unfold levylaw7_sameExpr.l0
   repeat' first
   | (with_reducible exact ih0 _ _ _ _ _ _ _ _ _ _)
   | (with_reducible exact ih1 _ _ _ _ _ _ _ _ _ _ _)
   | (with_reducible exact ih2 _ _ _ _ _ _ _ _ _ _ _)
   | (with_reducible exact LeO.refl _)
   | (with_reducible exact LeO.none _)
   | (with_reducible refine LeO.ite ?_ ?_)
   | (with_reducible refine LeO.bind ?_ (fun _ => ?_))
   | exact ih0 _ _ _ _ _ _ _ _ _ _
   | exact ih1 _ _ _ _ _ _ _ _ _ _ _
   | exact ih2 _ _ _ _ _ _ _ _ _ _ _
   | exact LeO.none _
   | refine LeO.ite ?_ ?_
   | refine LeO.bind ?_ (fun _ => ?_)
theorem levylaw7_sameExpr.mono : ∀ a0 a1 a2 a3 a4 a5 a6 a7 a8 a9 k, LeO (levylaw7_sameExpr.f k a0 a1 a2 a3 a4 a5 a6 a7 a8 a9) (levylaw7_sameExpr.f (k + 1) a0 a1 a2 a3 a4 a5 a6 a7 a8 a9) := by
 intro a0 a1 a2 a3 a4 a5 a6 a7 a8 a9 k
 obtain ⟨ih0, ih1, ih2⟩ := levylaw7_sameExpr.mono_l k
 exact ih0 a0 a1 a2 a3 a4 a5 a6 a7 a8 a9
def levylaw7_sameExpr.T6 : Bool × List (List Nat × List Nat) := (true, [([], []), ([0], [0]), ([], []), ([1, 2], [1, 2]), ([3], [3]), ([], []), ([5], [5]), ([], []), ([6, 7], [6, 7]), ([8], [8]), ([4, 9], [4, 9]), ([10], [10])])
def levylaw7_sameExpr.B6 : List Nat := [0, 1, 0, 7, 15, 0, 32, 0, 224, 480, 1023, 2047]
theorem levylaw7_sameExpr.tab6 : rtab .any (opsOf Try.f59 6) = levylaw7_sameExpr.T6 := by kernel_rfl
theorem levylaw7_sameExpr.bits6 : waitsOk levylaw7_sameExpr.T6.2 levylaw7_sameExpr.B6 = true := by kernel_rfl
set_option maxHeartbeats 8000000 in
set_option maxRecDepth 100000 in
theorem levylaw7_sameExpr.calls (k : Nat) : ∀ (a0_0 : Int) (a0_1 : Int) (a0_2 : Int) (a0_3 : Int) (A0_4 : Option Addr) (c0_4 : Nat) (l0_4 : List (S80)) (a1_0 : Int) (a1_1 : Int) (a1_2 : Int) (a1_3 : Int) (A1_4 : Option Addr) (c1_4 : Nat) (l1_4 : List (S80)) (r : Bool) (w : World) (hr0_4 : Kd.C k80 w A0_4 l0_4.length l0_4) (hc0_4 : l0_4.length ≤ c0_4) (hr1_4 : Kd.C k80 w A1_4 l1_4.length l1_4) (hc1_4 : l1_4.length ≤ c1_4) (h : levylaw7_sameExpr.f k a0_0 a0_1 a0_2 a0_3 l0_4 a1_0 a1_1 a1_2 a1_3 l1_4 = some r),
  Calls Try.prog 59 #[.agg #[.int .i64 a0_0, .int .i64 a0_1, .int .i64 a0_2, .int .i64 a0_3, .slice A0_4 l0_4.length c0_4], .agg #[.int .i64 a1_0, .int .i64 a1_1, .int .i64 a1_2, .int .i64 a1_3, .slice A1_4 l1_4.length c1_4]] w fun e w' => e = .returned (.bool r) ∧ Below w.heap.size w w' := by
 induction k using Nat.strongRecOn with
 | _ k ih =>
 intro a0_0 a0_1 a0_2 a0_3 A0_4 c0_4 l0_4 a1_0 a1_1 a1_2 a1_3 A1_4 c1_4 l1_4 r w hr0_4 hc0_4 hr1_4 hc1_4 h
 cases k with
 | zero => exact absurd h (by simp [levylaw7_sameExpr.f])
 | succ k =>
 simp only [levylaw7_sameExpr.f] at h
 have hu80 := Try.underlying80
 have HR0_4 := Aside0.mk hr0_4
 have HC0_4 := Aside0.mk hc0_4
 clear hr0_4 hc0_4
 have HR1_4 := Aside0.mk hr1_4
 have HC1_4 := Aside0.mk hc1_4
 clear hr1_4 hc1_4
 have HB := Aside0.mk (Below.refl w.heap.size w)
 have H : (if a0_0 = a1_0 then (if a0_1 = a1_1 then (if a0_2 = a1_2 then (if a0_3 = a1_3 then (levylaw7_sameExpr.j0 k ((l0_4.length : Int) != (l1_4.length : Int)) a0_0 a0_1 a0_2 a0_3 l0_4 a1_0 a1_1 a1_2 a1_3 l1_4) else (levylaw7_sameExpr.j0 k true a0_0 a0_1 a0_2 a0_3 l0_4 a1_0 a1_1 a1_2 a1_3 l1_4)) else (levylaw7_sameExpr.j0 k true a0_0 a0_1 a0_2 a0_3 l0_4 a1_0 a1_1 a1_2 a1_3 l1_4)) else (levylaw7_sameExpr.j0 k true a0_0 a0_1 a0_2 a0_3 l0_4 a1_0 a1_1 a1_2 a1_3 l1_4)) else (levylaw7_sameExpr.j0 k true a0_0 a0_1 a0_2 a0_3 l0_4 a1_0 a1_1 a1_2 a1_3 l1_4)) = some r := h
 clear h
 have HC3 := Aside0.mk H
 clear H
 go_enter Try.func59, Try.ntmps59
 go_upto_region 1 with (first | ((with_reducible refine gate_dst (N := 2) rfl ?_); (try (refine gate_guard (by rfl) ?_; dsimp only)); refine box_event ?hg (N := 2) ?hd (cs := #[.int .i64 a0_0, .int .i64 a0_1, .int .i64 a0_2, .int .i64 a0_3, .slice A0_4 l0_4.length c0_4]) (t := 80) ?hr ?_; (case hd => rfl); (case hg => rfl); (case hr => first | (go_simp; done) | (go_simp; rfl)); intro gb123 hg w4 hbox hb; have n0_ := Aside0.mk (below_step blx hb); have n1_ := Aside0.mk (hbox); have n2_ := Aside0.mk ((by rw [hg]; exact (below_size blx) : w.heap.size ≤ gb123)); have n3_ := Aside0.mk ((by rw [hg]; exact (below_size blx) : w.heap.size ≤ gb123)); clear HB; have HB := n0_; have BK123 := n1_; have GW123 := n2_; have GE123 := n3_; clear n0_ n1_ n2_ n3_; clear hb hbox hg) | ((with_reducible refine gate_dst (N := 3) rfl ?_); (try (refine gate_guard (by rfl) ?_; dsimp only)); refine box_event ?hg (N := 3) ?hd (cs := #[.int .i64 a1_0, .int .i64 a1_1, .int .i64 a1_2, .int .i64 a1_3, .slice A1_4 l1_4.length c1_4]) (t := 80) ?hr ?_; (case hd => rfl); (case hg => rfl); (case hr => first | (go_simp; done) | (go_simp; rfl)); intro gb124 hg w5 hbox hb; have n0_ := Aside0.mk (blk_below (g := gb123) (o := .cells #[.int .i64 a0_0, .int .i64 a0_1, .int .i64 a0_2, .int .i64 a0_3, .slice A0_4 l0_4.length c0_4] 80 (0, 0)) bkx hb); have n1_ := Aside0.mk (below_step blx hb); have n2_ := Aside0.mk (hbox); have n3_ := Aside0.mk ((by rw [hg]; exact (below_size blx) : w.heap.size ≤ gb124)); have n4_ := Aside0.mk ((by rw [hg]; exact (below_size blx) : w.heap.size ≤ gb124)); have n5_ := Aside0.mk ((by rw [hg]; exact Nat.ne_of_lt (blk_lt (g := gb123) (o := .cells #[.int .i64 a0_0, .int .i64 a0_1, .int .i64 a0_2, .int .i64 a0_3, .slice A0_4 l0_4.length c0_4] 80 (0, 0)) bkx) : gb123 ≠ gb124)); have n6_ := Aside0.mk ((by rw [hg]; exact Nat.ne_of_gt (blk_lt (g := gb123) (o := .cells #[.int .i64 a0_0, .int .i64 a0_1, .int .i64 a0_2, .int .i64 a0_3, .slice A0_4 l0_4.length c0_4] 80 (0, 0)) bkx) : gb124 ≠ gb123)); clear BK123; clear HB; have BK123 := n0_; have HB := n1_; have BK124 := n2_; have GW124 := n3_; have GE124 := n4_; have NB123_124 := n5_; have NB124_123 := n6_; clear n0_ n1_ n2_ n3_ n4_ n5_ n6_; clear hb hbox hg))
 (try simp only [Act.put, List.setIfInBounds_toArray, List.set_cons_zero, List.set_cons_succ])
 go_cut [40] (fun v40 wc => ∃ (kq : Nat) (x40_2 : Bool), v40 = .bool x40_2 ∧ Aside0 (levylaw7_sameExpr.j0 kq x40_2 a0_0 a0_1 a0_2 a0_3 l0_4 a1_0 a1_1 a1_2 a1_3 l1_4 = some r) ∧ Aside0 (kq ≤ k) ∧ Aside0 (wc.heap[gb123]? = some (.cells #[.int .i64 a0_0, .int .i64 a0_1, .int .i64 a0_2, .int .i64 a0_3, (.slice A0_4 l0_4.length c0_4)] 80 (0, 0))) ∧ Aside0 (wc.heap[gb124]? = some (.cells #[.int .i64 a1_0, .int .i64 a1_1, .int .i64 a1_2, .int .i64 a1_3, (.slice A1_4 l1_4.length c1_4)] 80 (0, 0))) ∧ Aside0 (Below w.heap.size w wc))
 case first =>
  have H := HC3.out
  clear HC3
  by_cases c6 : a0_0 = a1_0
  ·rw [if_pos c6] at H
   have c6b0 : (a0_0 == a1_0) = true := beq_iff_eq.mpr c6
   have c6b1 : (a0_0 != a1_0) = false := bne_eq_false_iff_eq.mpr c6
   clear c6
   (first | rw [c6b0] | (simp only [i64_w, i32_w]; rw [c6b0]) | skip)
   by_cases c7 : a0_1 = a1_1
   ·rw [if_pos c7] at H
    have c7b0 : (a0_1 == a1_1) = true := beq_iff_eq.mpr c7
    have c7b1 : (a0_1 != a1_1) = false := bne_eq_false_iff_eq.mpr c7
    clear c7
    by_cases c8 : a0_2 = a1_2
    ·rw [if_pos c8] at H
     have c8b0 : (a0_2 == a1_2) = true := beq_iff_eq.mpr c8
     have c8b1 : (a0_2 != a1_2) = false := bne_eq_false_iff_eq.mpr c8
     clear c8
     by_cases c9 : a0_3 = a1_3
     ·rw [if_pos c9] at H
      have c9b0 : (a0_3 == a1_3) = true := beq_iff_eq.mpr c9
      have c9b1 : (a0_3 != a1_3) = false := bne_eq_false_iff_eq.mpr c9
      clear c9
      have H' := Aside0.mk H
      clear H
      have hnb10 := NB123_124.out
      have hnc10 := NB124_123.out
      have hcz11_0 : w5.cell? ⟨gb123, 0, none⟩ = some (.int .i64 a0_0) := (blk_cell BK123.out 0).trans rfl
      have hcz11_1 : w5.cell? ⟨gb123, 1, none⟩ = some (.int .i64 a0_1) := (blk_cell BK123.out 1).trans rfl
      have hcz11_2 : w5.cell? ⟨gb123, 2, none⟩ = some (.int .i64 a0_2) := (blk_cell BK123.out 2).trans rfl
      have hcz11_3 : w5.cell? ⟨gb123, 3, none⟩ = some (.int .i64 a0_3) := (blk_cell BK123.out 3).trans rfl
      have hcz11_4 : w5.cell? ⟨gb123, 4, none⟩ = some (.slice A0_4 l0_4.length c0_4) := (blk_cell BK123.out 4).trans rfl
      have hfz11_0 := blk_frozen BK123.out 0
      have hfz11_1 := blk_frozen BK123.out 1
      have hfz11_2 := blk_frozen BK123.out 2
      have hfz11_3 := blk_frozen BK123.out 3
      have hfz11_4 := blk_frozen BK123.out 4
      have hcz12_0 : w5.cell? ⟨gb124, 0, none⟩ = some (.int .i64 a1_0) := (blk_cell BK124.out 0).trans rfl
      have hcz12_1 : w5.cell? ⟨gb124, 1, none⟩ = some (.int .i64 a1_1) := (blk_cell BK124.out 1).trans rfl
      have hcz12_2 : w5.cell? ⟨gb124, 2, none⟩ = some (.int .i64 a1_2) := (blk_cell BK124.out 2).trans rfl
      have hcz12_3 : w5.cell? ⟨gb124, 3, none⟩ = some (.int .i64 a1_3) := (blk_cell BK124.out 3).trans rfl
      have hcz12_4 : w5.cell? ⟨gb124, 4, none⟩ = some (.slice A1_4 l1_4.length c1_4) := (blk_cell BK124.out 4).trans rfl
      have hfz12_0 := blk_frozen BK124.out 0
      have hfz12_1 := blk_frozen BK124.out 1
      have hfz12_2 := blk_frozen BK124.out 2
      have hfz12_3 := blk_frozen BK124.out 3
      have hfz12_4 := blk_frozen BK124.out 4
      go_wp2
      go_meet
      case rel => exact ⟨_, (((l0_4.length : Int) != (l1_4.length : Int))), (by first | rfl | (simp; done) | (simp [*]; done)), H', ⟨by first | omega | exact Nat.le_refl _⟩, ⟨bkx⟩, ⟨bkx⟩, ⟨blx⟩⟩
     ·rw [if_neg c9] at H
      have c9b0 : (a0_3 == a1_3) = false := beq_eq_false_iff_ne.mpr c9
      have c9b1 : (a0_3 != a1_3) = true := bne_iff_ne.mpr c9
      have H' := Aside0.mk H
      clear H
      have hnb13 := NB123_124.out
      have hnc13 := NB124_123.out
      have hcz14_0 : w5.cell? ⟨gb123, 0, none⟩ = some (.int .i64 a0_0) := (blk_cell BK123.out 0).trans rfl
      have hcz14_1 : w5.cell? ⟨gb123, 1, none⟩ = some (.int .i64 a0_1) := (blk_cell BK123.out 1).trans rfl
      have hcz14_2 : w5.cell? ⟨gb123, 2, none⟩ = some (.int .i64 a0_2) := (blk_cell BK123.out 2).trans rfl
      have hcz14_3 : w5.cell? ⟨gb123, 3, none⟩ = some (.int .i64 a0_3) := (blk_cell BK123.out 3).trans rfl
      have hcz14_4 : w5.cell? ⟨gb123, 4, none⟩ = some (.slice A0_4 l0_4.length c0_4) := (blk_cell BK123.out 4).trans rfl
      have hfz14_0 := blk_frozen BK123.out 0
      have hfz14_1 := blk_frozen BK123.out 1
      have hfz14_2 := blk_frozen BK123.out 2
      have hfz14_3 := blk_frozen BK123.out 3
      have hfz14_4 := blk_frozen BK123.out 4
      have hcz15_0 : w5.cell? ⟨gb124, 0, none⟩ = some (.int .i64 a1_0) := (blk_cell BK124.out 0).trans rfl
      have hcz15_1 : w5.cell? ⟨gb124, 1, none⟩ = some (.int .i64 a1_1) := (blk_cell BK124.out 1).trans rfl
      have hcz15_2 : w5.cell? ⟨gb124, 2, none⟩ = some (.int .i64 a1_2) := (blk_cell BK124.out 2).trans rfl
      have hcz15_3 : w5.cell? ⟨gb124, 3, none⟩ = some (.int .i64 a1_3) := (blk_cell BK124.out 3).trans rfl
      have hcz15_4 : w5.cell? ⟨gb124, 4, none⟩ = some (.slice A1_4 l1_4.length c1_4) := (blk_cell BK124.out 4).trans rfl
      have hfz15_0 := blk_frozen BK124.out 0
      have hfz15_1 := blk_frozen BK124.out 1
      have hfz15_2 := blk_frozen BK124.out 2
      have hfz15_3 := blk_frozen BK124.out 3
      have hfz15_4 := blk_frozen BK124.out 4
      go_wp2
      go_meet
      case rel => exact ⟨_, (true), (by first | rfl | (simp; done) | (simp [*]; done)), H', ⟨by first | omega | exact Nat.le_refl _⟩, ⟨bkx⟩, ⟨bkx⟩, ⟨blx⟩⟩
    ·rw [if_neg c8] at H
     have c8b0 : (a0_2 == a1_2) = false := beq_eq_false_iff_ne.mpr c8
     have c8b1 : (a0_2 != a1_2) = true := bne_iff_ne.mpr c8
     have H' := Aside0.mk H
     clear H
     have hnb16 := NB123_124.out
     have hnc16 := NB124_123.out
     have hcz17_0 : w5.cell? ⟨gb123, 0, none⟩ = some (.int .i64 a0_0) := (blk_cell BK123.out 0).trans rfl
     have hcz17_1 : w5.cell? ⟨gb123, 1, none⟩ = some (.int .i64 a0_1) := (blk_cell BK123.out 1).trans rfl
     have hcz17_2 : w5.cell? ⟨gb123, 2, none⟩ = some (.int .i64 a0_2) := (blk_cell BK123.out 2).trans rfl
     have hcz17_3 : w5.cell? ⟨gb123, 3, none⟩ = some (.int .i64 a0_3) := (blk_cell BK123.out 3).trans rfl
     have hcz17_4 : w5.cell? ⟨gb123, 4, none⟩ = some (.slice A0_4 l0_4.length c0_4) := (blk_cell BK123.out 4).trans rfl
     have hfz17_0 := blk_frozen BK123.out 0
     have hfz17_1 := blk_frozen BK123.out 1
     have hfz17_2 := blk_frozen BK123.out 2
     have hfz17_3 := blk_frozen BK123.out 3
     have hfz17_4 := blk_frozen BK123.out 4
     have hcz18_0 : w5.cell? ⟨gb124, 0, none⟩ = some (.int .i64 a1_0) := (blk_cell BK124.out 0).trans rfl
     have hcz18_1 : w5.cell? ⟨gb124, 1, none⟩ = some (.int .i64 a1_1) := (blk_cell BK124.out 1).trans rfl
     have hcz18_2 : w5.cell? ⟨gb124, 2, none⟩ = some (.int .i64 a1_2) := (blk_cell BK124.out 2).trans rfl
     have hcz18_3 : w5.cell? ⟨gb124, 3, none⟩ = some (.int .i64 a1_3) := (blk_cell BK124.out 3).trans rfl
     have hcz18_4 : w5.cell? ⟨gb124, 4, none⟩ = some (.slice A1_4 l1_4.length c1_4) := (blk_cell BK124.out 4).trans rfl
     have hfz18_0 := blk_frozen BK124.out 0
     have hfz18_1 := blk_frozen BK124.out 1
     have hfz18_2 := blk_frozen BK124.out 2
     have hfz18_3 := blk_frozen BK124.out 3
     have hfz18_4 := blk_frozen BK124.out 4
     go_wp2
     go_meet
     case rel => exact ⟨_, (true), (by first | rfl | (simp; done) | (simp [*]; done)), H', ⟨by first | omega | exact Nat.le_refl _⟩, ⟨bkx⟩, ⟨bkx⟩, ⟨blx⟩⟩
   ·rw [if_neg c7] at H
    have c7b0 : (a0_1 == a1_1) = false := beq_eq_false_iff_ne.mpr c7
    have c7b1 : (a0_1 != a1_1) = true := bne_iff_ne.mpr c7
    have H' := Aside0.mk H
    clear H
    have hnb19 := NB123_124.out
    have hnc19 := NB124_123.out
    have hcz20_0 : w5.cell? ⟨gb123, 0, none⟩ = some (.int .i64 a0_0) := (blk_cell BK123.out 0).trans rfl
    have hcz20_1 : w5.cell? ⟨gb123, 1, none⟩ = some (.int .i64 a0_1) := (blk_cell BK123.out 1).trans rfl
    have hcz20_2 : w5.cell? ⟨gb123, 2, none⟩ = some (.int .i64 a0_2) := (blk_cell BK123.out 2).trans rfl
    have hcz20_3 : w5.cell? ⟨gb123, 3, none⟩ = some (.int .i64 a0_3) := (blk_cell BK123.out 3).trans rfl
    have hcz20_4 : w5.cell? ⟨gb123, 4, none⟩ = some (.slice A0_4 l0_4.length c0_4) := (blk_cell BK123.out 4).trans rfl
    have hfz20_0 := blk_frozen BK123.out 0
    have hfz20_1 := blk_frozen BK123.out 1
    have hfz20_2 := blk_frozen BK123.out 2
    have hfz20_3 := blk_frozen BK123.out 3
    have hfz20_4 := blk_frozen BK123.out 4
    have hcz21_0 : w5.cell? ⟨gb124, 0, none⟩ = some (.int .i64 a1_0) := (blk_cell BK124.out 0).trans rfl
    have hcz21_1 : w5.cell? ⟨gb124, 1, none⟩ = some (.int .i64 a1_1) := (blk_cell BK124.out 1).trans rfl
    have hcz21_2 : w5.cell? ⟨gb124, 2, none⟩ = some (.int .i64 a1_2) := (blk_cell BK124.out 2).trans rfl
    have hcz21_3 : w5.cell? ⟨gb124, 3, none⟩ = some (.int .i64 a1_3) := (blk_cell BK124.out 3).trans rfl
    have hcz21_4 : w5.cell? ⟨gb124, 4, none⟩ = some (.slice A1_4 l1_4.length c1_4) := (blk_cell BK124.out 4).trans rfl
    have hfz21_0 := blk_frozen BK124.out 0
    have hfz21_1 := blk_frozen BK124.out 1
    have hfz21_2 := blk_frozen BK124.out 2
    have hfz21_3 := blk_frozen BK124.out 3
    have hfz21_4 := blk_frozen BK124.out 4
    go_wp2
    go_meet
    case rel => exact ⟨_, (true), (by first | rfl | (simp; done) | (simp [*]; done)), H', ⟨by first | omega | exact Nat.le_refl _⟩, ⟨bkx⟩, ⟨bkx⟩, ⟨blx⟩⟩
  ·rw [if_neg c6] at H
   have c6b0 : (a0_0 == a1_0) = false := beq_eq_false_iff_ne.mpr c6
   have c6b1 : (a0_0 != a1_0) = true := bne_iff_ne.mpr c6
   (first | rw [c6b0] | (simp only [i64_w, i32_w]; rw [c6b0]) | skip)
   have H' := Aside0.mk H
   clear H
   have hnb22 := NB123_124.out
   have hnc22 := NB124_123.out
   have hcz23_0 : w5.cell? ⟨gb123, 0, none⟩ = some (.int .i64 a0_0) := (blk_cell BK123.out 0).trans rfl
   have hcz23_1 : w5.cell? ⟨gb123, 1, none⟩ = some (.int .i64 a0_1) := (blk_cell BK123.out 1).trans rfl
   have hcz23_2 : w5.cell? ⟨gb123, 2, none⟩ = some (.int .i64 a0_2) := (blk_cell BK123.out 2).trans rfl
   have hcz23_3 : w5.cell? ⟨gb123, 3, none⟩ = some (.int .i64 a0_3) := (blk_cell BK123.out 3).trans rfl
   have hcz23_4 : w5.cell? ⟨gb123, 4, none⟩ = some (.slice A0_4 l0_4.length c0_4) := (blk_cell BK123.out 4).trans rfl
   have hfz23_0 := blk_frozen BK123.out 0
   have hfz23_1 := blk_frozen BK123.out 1
   have hfz23_2 := blk_frozen BK123.out 2
   have hfz23_3 := blk_frozen BK123.out 3
   have hfz23_4 := blk_frozen BK123.out 4
   have hcz24_0 : w5.cell? ⟨gb124, 0, none⟩ = some (.int .i64 a1_0) := (blk_cell BK124.out 0).trans rfl
   have hcz24_1 : w5.cell? ⟨gb124, 1, none⟩ = some (.int .i64 a1_1) := (blk_cell BK124.out 1).trans rfl
   have hcz24_2 : w5.cell? ⟨gb124, 2, none⟩ = some (.int .i64 a1_2) := (blk_cell BK124.out 2).trans rfl
   have hcz24_3 : w5.cell? ⟨gb124, 3, none⟩ = some (.int .i64 a1_3) := (blk_cell BK124.out 3).trans rfl
   have hcz24_4 : w5.cell? ⟨gb124, 4, none⟩ = some (.slice A1_4 l1_4.length c1_4) := (blk_cell BK124.out 4).trans rfl
   have hfz24_0 := blk_frozen BK124.out 0
   have hfz24_1 := blk_frozen BK124.out 1
   have hfz24_2 := blk_frozen BK124.out 2
   have hfz24_3 := blk_frozen BK124.out 3
   have hfz24_4 := blk_frozen BK124.out 4
   go_wp2
   go_meet
   case rel => exact ⟨_, (true), (by first | rfl | (simp; done) | (simp [*]; done)), H', ⟨by first | omega | exact Nat.le_refl _⟩, ⟨bkx⟩, ⟨bkx⟩, ⟨blx⟩⟩
 case rest =>
  clear HC3
  try clear c1
  try clear c2
  try clear p2
  try clear c5
  try clear c6
  try clear c6b0
  try clear c6b1
  try clear c7
  try clear c7b0
  try clear c7b1
  try clear c8
  try clear c8b0
  try clear c8b1
  try clear c9
  try clear c9b0
  try clear c9b1
  try clear c10
  try clear c13
  try clear c16
  try clear c19
  try clear c22
  try clear hcz11_0
  try clear hcz11_1
  try clear hcz11_2
  try clear hcz11_3
  try clear hcz11_4
  try clear hcz12_0
  try clear hcz12_1
  try clear hcz12_2
  try clear hcz12_3
  try clear hcz12_4
  try clear hcz14_0
  try clear hcz14_1
  try clear hcz14_2
  try clear hcz14_3
  try clear hcz14_4
  try clear hcz15_0
  try clear hcz15_1
  try clear hcz15_2
  try clear hcz15_3
  try clear hcz15_4
  try clear hcz17_0
  try clear hcz17_1
  try clear hcz17_2
  try clear hcz17_3
  try clear hcz17_4
  try clear hcz18_0
  try clear hcz18_1
  try clear hcz18_2
  try clear hcz18_3
  try clear hcz18_4
  try clear hcz20_0
  try clear hcz20_1
  try clear hcz20_2
  try clear hcz20_3
  try clear hcz20_4
  try clear hcz21_0
  try clear hcz21_1
  try clear hcz21_2
  try clear hcz21_3
  try clear hcz21_4
  try clear hcz23_0
  try clear hcz23_1
  try clear hcz23_2
  try clear hcz23_3
  try clear hcz23_4
  try clear hcz24_0
  try clear hcz24_1
  try clear hcz24_2
  try clear hcz24_3
  try clear hcz24_4
  try clear hfz11_0
  try clear hfz11_1
  try clear hfz11_2
  try clear hfz11_3
  try clear hfz11_4
  try clear hfz12_0
  try clear hfz12_1
  try clear hfz12_2
  try clear hfz12_3
  try clear hfz12_4
  try clear hfz14_0
  try clear hfz14_1
  try clear hfz14_2
  try clear hfz14_3
  try clear hfz14_4
  try clear hfz15_0
  try clear hfz15_1
  try clear hfz15_2
  try clear hfz15_3
  try clear hfz15_4
  try clear hfz17_0
  try clear hfz17_1
  try clear hfz17_2
  try clear hfz17_3
  try clear hfz17_4
  try clear hfz18_0
  try clear hfz18_1
  try clear hfz18_2
  try clear hfz18_3
  try clear hfz18_4
  try clear hfz20_0
  try clear hfz20_1
  try clear hfz20_2
  try clear hfz20_3
  try clear hfz20_4
  try clear hfz21_0
  try clear hfz21_1
  try clear hfz21_2
  try clear hfz21_3
  try clear hfz21_4
  try clear hfz23_0
  try clear hfz23_1
  try clear hfz23_2
  try clear hfz23_3
  try clear hfz23_4
  try clear hfz24_0
  try clear hfz24_1
  try clear hfz24_2
  try clear hfz24_3
  try clear hfz24_4
  obtain ⟨kq, x40_2, rfl, HA, HJ2, BK123, BK124, HB⟩ := hcut
  cases kq with
  | zero => exact absurd HA.out (by simp [levylaw7_sameExpr.j0])
  | succ kj2 =>
   have H := HA.out
   clear HA
   simp only [levylaw7_sameExpr.j0] at H
   by_cases c25 : x40_2 = true
   ·subst c25
    have H1 : (some false) = some r := by rw [if_pos rfl] at H; exact H
    clear H
    have H := H1
    clear H1
    obtain rfl := Option.some.inj H
    go_wp2
    go_ret
    exact ⟨by first | rfl | (simp [errW_none, errW_some] <;> rfl) | (simp [*, errW_none, errW_some] <;> rfl), blx⟩
   ·replace c25 := Bool.eq_false_iff.mpr c25
    subst c25
    have H1 : (levylaw7_sameExpr.l0 kj2 0 a0_0 a0_1 a0_2 a0_3 l0_4 a1_0 a1_1 a1_2 a1_3 l1_4) = some r := by rw [if_neg (show ¬ (false = true) by decide)] at H; exact H
    clear H
    have H := H1
    clear H1
    have H' := Aside0.mk H
    clear H
    go_wp2
    go_loopg [5] kj2 (fun kq v5 w' => ∃ (x5_2 : Int), v5 = .int .i64 x5_2 ∧ Aside0 (levylaw7_sameExpr.l0 kq x5_2 a0_0 a0_1 a0_2 a0_3 l0_4 a1_0 a1_1 a1_2 a1_3 l1_4 = some r) ∧ Aside0 (kq ≤ kj2) ∧ Aside0 (w'.heap[gb123]? = some (.cells #[.int .i64 a0_0, .int .i64 a0_1, .int .i64 a0_2, .int .i64 a0_3, (.slice A0_4 l0_4.length c0_4)] 80 (0, 0))) ∧ Aside0 (w'.heap[gb124]? = some (.cells #[.int .i64 a1_0, .int .i64 a1_1, .int .i64 a1_2, .int .i64 a1_3, (.slice A1_4 l1_4.length c1_4)] 80 (0, 0))) ∧ Aside0 (Below w.heap.size w w'))
    case atStart => exact ⟨(0), (by first | rfl | (simp; done) | (simp [*]; done)), H', ⟨Nat.le_refl _⟩, ⟨bkx⟩, ⟨bkx⟩, ⟨blx⟩⟩
    case round =>
     clear H'
     try clear c1
     try clear c2
     try clear p2
     try clear c5
     try clear c6
     try clear c6b0
     try clear c6b1
     try clear c7
     try clear c7b0
     try clear c7b1
     try clear c8
     try clear c8b0
     try clear c8b1
     try clear c9
     try clear c9b0
     try clear c9b1
     try clear c10
     try clear c13
     try clear c16
     try clear c19
     try clear c22
     try clear c25
     try clear hcz11_0
     try clear hcz11_1
     try clear hcz11_2
     try clear hcz11_3
     try clear hcz11_4
     try clear hcz12_0
     try clear hcz12_1
     try clear hcz12_2
     try clear hcz12_3
     try clear hcz12_4
     try clear hcz14_0
     try clear hcz14_1
     try clear hcz14_2
     try clear hcz14_3
     try clear hcz14_4
     try clear hcz15_0
     try clear hcz15_1
     try clear hcz15_2
     try clear hcz15_3
     try clear hcz15_4
     try clear hcz17_0
     try clear hcz17_1
     try clear hcz17_2
     try clear hcz17_3
     try clear hcz17_4
     try clear hcz18_0
     try clear hcz18_1
     try clear hcz18_2
     try clear hcz18_3
     try clear hcz18_4
     try clear hcz20_0
     try clear hcz20_1
     try clear hcz20_2
     try clear hcz20_3
     try clear hcz20_4
     try clear hcz21_0
     try clear hcz21_1
     try clear hcz21_2
     try clear hcz21_3
     try clear hcz21_4
     try clear hcz23_0
     try clear hcz23_1
     try clear hcz23_2
     try clear hcz23_3
     try clear hcz23_4
     try clear hcz24_0
     try clear hcz24_1
     try clear hcz24_2
     try clear hcz24_3
     try clear hcz24_4
     try clear hfz11_0
     try clear hfz11_1
     try clear hfz11_2
     try clear hfz11_3
     try clear hfz11_4
     try clear hfz12_0
     try clear hfz12_1
     try clear hfz12_2
     try clear hfz12_3
     try clear hfz12_4
     try clear hfz14_0
     try clear hfz14_1
     try clear hfz14_2
     try clear hfz14_3
     try clear hfz14_4
     try clear hfz15_0
     try clear hfz15_1
     try clear hfz15_2
     try clear hfz15_3
     try clear hfz15_4
     try clear hfz17_0
     try clear hfz17_1
     try clear hfz17_2
     try clear hfz17_3
     try clear hfz17_4
     try clear hfz18_0
     try clear hfz18_1
     try clear hfz18_2
     try clear hfz18_3
     try clear hfz18_4
     try clear hfz20_0
     try clear hfz20_1
     try clear hfz20_2
     try clear hfz20_3
     try clear hfz20_4
     try clear hfz21_0
     try clear hfz21_1
     try clear hfz21_2
     try clear hfz21_3
     try clear hfz21_4
     try clear hfz23_0
     try clear hfz23_1
     try clear hfz23_2
     try clear hfz23_3
     try clear hfz23_4
     try clear hfz24_0
     try clear hfz24_1
     try clear hfz24_2
     try clear hfz24_3
     try clear hfz24_4
     try clear p2
     obtain ⟨x5_2, rfl, HA, HK2, BK123, BK124, HB⟩ := hrel
     cases gk with
     | zero => exact absurd HA.out (by simp [levylaw7_sameExpr.l0])
     | succ k2 =>
      have H := HA.out
      clear HA
      simp only [levylaw7_sameExpr.l0] at H
      by_cases c26 : x5_2 < (l0_4.length : Int)
      ·rw [if_pos c26] at H
       have c26b0 : decide (x5_2 < (l0_4.length : Int)) = true := decide_eq_true c26
       clear c26
       by_cases c27 : 0 ≤ x5_2
       ·rw [if_pos c27] at H
        have c27b0 : decide (0 ≤ x5_2) = true := decide_eq_true c27
        clear c27
        by_cases c28 : x5_2 < (l1_4.length : Int)
        ·rw [if_pos c28] at H
         have c28b0 : decide (x5_2 < (l1_4.length : Int)) = true := decide_eq_true c28
         clear c28
         replace H := Option.bind_eq_some_iff.mp H
         obtain ⟨t127, A290, H⟩ := H
         replace H : (if t127 = true then (levylaw7_sameExpr.l0 k2 (wrap64 (x5_2 + 1)) a0_0 a0_1 a0_2 a0_3 l0_4 a1_0 a1_1 a1_2 a1_3 l1_4) else (some false)) = some r := H
         have A29 := Aside0.mk A290
         clear A290
         by_cases c30 : t127 = true
         ·subst c30
          have H1 : (levylaw7_sameExpr.l0 k2 (wrap64 (x5_2 + 1)) a0_0 a0_1 a0_2 a0_3 l0_4 a1_0 a1_1 a1_2 a1_3 l1_4) = some r := by rw [if_pos rfl] at H; exact H
          clear H
          have H := H1
          clear H1
          have H' := Aside0.mk H
          clear H
          have hnb31 := NB123_124.out
          have hnc31 := NB124_123.out
          have hcz32_0 : wr.cell? ⟨gb123, 0, none⟩ = some (.int .i64 a0_0) := (blk_cell BK123.out 0).trans rfl
          have hcz32_1 : wr.cell? ⟨gb123, 1, none⟩ = some (.int .i64 a0_1) := (blk_cell BK123.out 1).trans rfl
          have hcz32_2 : wr.cell? ⟨gb123, 2, none⟩ = some (.int .i64 a0_2) := (blk_cell BK123.out 2).trans rfl
          have hcz32_3 : wr.cell? ⟨gb123, 3, none⟩ = some (.int .i64 a0_3) := (blk_cell BK123.out 3).trans rfl
          have hcz32_4 : wr.cell? ⟨gb123, 4, none⟩ = some (.slice A0_4 l0_4.length c0_4) := (blk_cell BK123.out 4).trans rfl
          have hfz32_0 := blk_frozen BK123.out 0
          have hfz32_1 := blk_frozen BK123.out 1
          have hfz32_2 := blk_frozen BK123.out 2
          have hfz32_3 := blk_frozen BK123.out 3
          have hfz32_4 := blk_frozen BK123.out 4
          try go_wp2
          have n0_ := Aside0.mk (blk_drew BK123.out)
          have n1_ := Aside0.mk (blk_drew BK124.out)
          have n2_ := Aside0.mk (below_drew1 HB.out)
          clear BK123
          clear BK124
          clear HB
          have BK123 := n0_
          have BK124 := n1_
          have HB := n2_
          clear n0_ n1_ n2_
          have p125 : 0 ≤ (x5_2 : Int) := odx
          have q125 : x5_2 < (l0_4.length : Int) := odx
          obtain ⟨ad125, A125_4, c125_4, e125, hx125_0, hx125_1, hx125_2, hx125_3, hx125_4, hl125_4, hi125_4⟩ := at_T80 HR0_4.out x5_2 p125 q125
          have hw125_4 := hx125_4
          have hw125_3 := hx125_3
          have hw125_2 := hx125_2
          have hw125_1 := hx125_1
          have hw125_0 := hx125_0
          cases e125
          replace hx125_0 := (HB.out.cell (World.block_lt_of_cell? w _ hx125_0)).trans hx125_0
          replace hx125_1 := (HB.out.cell (World.block_lt_of_cell? w _ hx125_1)).trans hx125_1
          replace hx125_2 := (HB.out.cell (World.block_lt_of_cell? w _ hx125_2)).trans hx125_2
          replace hx125_3 := (HB.out.cell (World.block_lt_of_cell? w _ hx125_3)).trans hx125_3
          replace hx125_4 := (HB.out.cell (World.block_lt_of_cell? w _ hx125_4)).trans hx125_4
          have HR125_4 := Aside0.mk hi125_4
          have HC125_4 := Aside0.mk hl125_4
          clear hi125_4 hl125_4
          replace p125 := eq_true p125
          replace q125 := eq_true q125
          have p126 : 0 ≤ (x5_2 : Int) := odx
          have q126 : x5_2 < (l1_4.length : Int) := odx
          obtain ⟨ad126, A126_4, c126_4, e126, hx126_0, hx126_1, hx126_2, hx126_3, hx126_4, hl126_4, hi126_4⟩ := at_T80 HR1_4.out x5_2 p126 q126
          have hw126_4 := hx126_4
          have hw126_3 := hx126_3
          have hw126_2 := hx126_2
          have hw126_1 := hx126_1
          have hw126_0 := hx126_0
          cases e126
          replace hx126_0 := (HB.out.cell (World.block_lt_of_cell? w _ hx126_0)).trans hx126_0
          replace hx126_1 := (HB.out.cell (World.block_lt_of_cell? w _ hx126_1)).trans hx126_1
          replace hx126_2 := (HB.out.cell (World.block_lt_of_cell? w _ hx126_2)).trans hx126_2
          replace hx126_3 := (HB.out.cell (World.block_lt_of_cell? w _ hx126_3)).trans hx126_3
          replace hx126_4 := (HB.out.cell (World.block_lt_of_cell? w _ hx126_4)).trans hx126_4
          have HR126_4 := Aside0.mk hi126_4
          have HC126_4 := Aside0.mk hl126_4
          clear hi126_4 hl126_4
          replace p126 := eq_true p126
          replace q126 := eq_true q126
          refine start_ (n := 12) (S := fun w' => w'.cell? ⟨gb123, 0, none⟩ = some (.int .i64 a0_0) ∧ w'.cell? ⟨gb123, 1, none⟩ = some (.int .i64 a0_1) ∧ w'.cell? ⟨gb123, 2, none⟩ = some (.int .i64 a0_2) ∧ w'.cell? ⟨gb123, 3, none⟩ = some (.int .i64 a0_3) ∧ w'.cell? ⟨gb123, 4, none⟩ = some (.slice (some ad125) l0_4.length c0_4) ∧ w'.cell? ⟨gb124, 0, none⟩ = some (.int .i64 a1_0) ∧ w'.cell? ⟨gb124, 1, none⟩ = some (.int .i64 a1_1) ∧ w'.cell? ⟨gb124, 2, none⟩ = some (.int .i64 a1_2) ∧ w'.cell? ⟨gb124, 3, none⟩ = some (.int .i64 a1_3) ∧ w'.cell? ⟨gb124, 4, none⟩ = some (.slice (some ad126) l1_4.length c1_4) ∧ w'.cell? (ad125.add ((x5_2).toNat * 5)) = some (.int .i64 ((rd_T80 l0_4 x5_2).f0)) ∧ w'.cell? ⟨(ad125.add ((x5_2).toNat * 5)).block, (ad125.add ((x5_2).toNat * 5)).off + 1, none⟩ = some (.int .i64 ((rd_T80 l0_4 x5_2).f1)) ∧ w'.cell? ⟨(ad125.add ((x5_2).toNat * 5)).block, (ad125.add ((x5_2).toNat * 5)).off + 2, none⟩ = some (.int .i64 ((rd_T80 l0_4 x5_2).f2)) ∧ w'.cell? ⟨(ad125.add ((x5_2).toNat * 5)).block, (ad125.add ((x5_2).toNat * 5)).off + 3, none⟩ = some (.int .i64 ((rd_T80 l0_4 x5_2).f3)) ∧ w'.cell? ⟨(ad125.add ((x5_2).toNat * 5)).block, (ad125.add ((x5_2).toNat * 5)).off + 4, none⟩ = some (.slice A125_4 ((rd_T80 l0_4 x5_2).f4).length c125_4) ∧ w'.cell? (ad126.add ((x5_2).toNat * 5)) = some (.int .i64 ((rd_T80 l1_4 x5_2).f0)) ∧ w'.cell? ⟨(ad126.add ((x5_2).toNat * 5)).block, (ad126.add ((x5_2).toNat * 5)).off + 1, none⟩ = some (.int .i64 ((rd_T80 l1_4 x5_2).f1)) ∧ w'.cell? ⟨(ad126.add ((x5_2).toNat * 5)).block, (ad126.add ((x5_2).toNat * 5)).off + 2, none⟩ = some (.int .i64 ((rd_T80 l1_4 x5_2).f2)) ∧ w'.cell? ⟨(ad126.add ((x5_2).toNat * 5)).block, (ad126.add ((x5_2).toNat * 5)).off + 3, none⟩ = some (.int .i64 ((rd_T80 l1_4 x5_2).f3)) ∧ w'.cell? ⟨(ad126.add ((x5_2).toNat * 5)).block, (ad126.add ((x5_2).toNat * 5)).off + 4, none⟩ = some (.slice A126_4 ((rd_T80 l1_4 x5_2).f4).length c126_4)) (ds := []) #[false, false, false, false, false, false, false, false, false, false, false, false] (by kernel_rfl) rfl rfl ⟨(blk_cell BK123.out 0).trans rfl, (blk_cell BK123.out 1).trans rfl, (blk_cell BK123.out 2).trans rfl, (blk_cell BK123.out 3).trans rfl, (blk_cell BK123.out 4).trans rfl, (blk_cell BK124.out 0).trans rfl, (blk_cell BK124.out 1).trans rfl, (blk_cell BK124.out 2).trans rfl, (blk_cell BK124.out 3).trans rfl, (blk_cell BK124.out 4).trans rfl, ((HB.out.cell (World.block_lt_of_cell? w _ hw125_0)).trans hw125_0), ((HB.out.cell (World.block_lt_of_cell? w _ hw125_1)).trans hw125_1), ((HB.out.cell (World.block_lt_of_cell? w _ hw125_2)).trans hw125_2), ((HB.out.cell (World.block_lt_of_cell? w _ hw125_3)).trans hw125_3), ((HB.out.cell (World.block_lt_of_cell? w _ hw125_4)).trans hw125_4), ((HB.out.cell (World.block_lt_of_cell? w _ hw126_0)).trans hw126_0), ((HB.out.cell (World.block_lt_of_cell? w _ hw126_1)).trans hw126_1), ((HB.out.cell (World.block_lt_of_cell? w _ hw126_2)).trans hw126_2), ((HB.out.cell (World.block_lt_of_cell? w _ hw126_3)).trans hw126_3), ((HB.out.cell (World.block_lt_of_cell? w _ hw126_4)).trans hw126_4)⟩ (fun hHeld => ?_); refine with_tabW levylaw7_sameExpr.tab6 levylaw7_sameExpr.bits6 (fun HT_ HW_ => ?_)
          generalize wr.drew = w33 at BK123 BK124 HB HR125_4 HR126_4 hx125_0 hx125_1 hx125_2 hx125_3 hx125_4 hx126_0 hx126_1 hx126_2 hx126_3 hx126_4 hHeld ⊢
          refine pure_ (i := 0) (N := some 48) (v := ?_) (a' := ?_) #[true, false, false, false, false, false, false, false, false, false, false, false] rfl rfl (any_of HT_.out (by kernel_rfl)) (fun _ _ _ h => h) (Or.inl ⟨by rfl, ?_⟩) ?_ ?_
          rotate_left
          ·intro w'
           go_simp
           with_reducible rfl
          rotate_left
          ·simp only [Act.put, List.setIfInBounds_toArray, List.set_cons_zero, List.set_cons_succ, i64_w, i32_w]
           rfl
          refine pure_ (i := 2) (N := some 50) (v := ?_) (a' := ?_) #[true, false, true, false, false, false, false, false, false, false, false, false] rfl rfl (any_of HT_.out (by kernel_rfl)) (fun _ _ _ h => h) (Or.inl ⟨by rfl, ?_⟩) ?_ ?_
          rotate_left
          ·intro w'
           go_simp
           with_reducible rfl
          rotate_left
          ·simp only [Act.put, List.setIfInBounds_toArray, List.set_cons_zero, List.set_cons_succ, i64_w, i32_w]
           rfl
          refine pure_ (i := 5) (N := some 53) (v := ?_) (a' := ?_) #[true, false, true, false, false, true, false, false, false, false, false, false] rfl rfl (any_of HT_.out (by kernel_rfl)) (fun _ _ _ h => h) (Or.inl ⟨by rfl, ?_⟩) ?_ ?_
          rotate_left
          ·intro w'
           go_simp
           with_reducible rfl
          rotate_left
          ·simp only [Act.put, List.setIfInBounds_toArray, List.set_cons_zero, List.set_cons_succ, i64_w, i32_w]
           rfl
          refine pure_ (i := 7) (N := some 55) (v := ?_) (a' := ?_) #[true, false, true, false, false, true, false, true, false, false, false, false] rfl rfl (any_of HT_.out (by kernel_rfl)) (fun _ _ _ h => h) (Or.inl ⟨by rfl, ?_⟩) ?_ ?_
          rotate_left
          ·intro w'
           go_simp
           with_reducible rfl
          rotate_left
          ·simp only [Act.put, List.setIfInBounds_toArray, List.set_cons_zero, List.set_cons_succ, i64_w, i32_w]
           rfl
          refine take_ (i := 1) (N := some 49) (v := ?_) (a' := ?_) #[true, true, true, false, false, true, false, true, false, false, false, false] rfl rfl (take_ofW HT_.out HW_.out (by kernel_rfl)) (fun _ _ _ h => h) (Or.inl ⟨by rfl, ?_⟩) hHeld ?_ ?_
          rotate_left
          ·rintro w' ⟨s0, s1, s2, s3, s4, s5, s6, s7, s8, s9, s10, s11, s12, s13, s14, s15, s16, s17, s18, s19⟩
           go_simp
           with_reducible rfl
          rotate_left
          ·simp only [Act.put, List.setIfInBounds_toArray, List.set_cons_zero, List.set_cons_succ, i64_w, i32_w]
           rfl
          refine pure_ (i := 3) (N := some 51) (v := ?_) (a' := ?_) #[true, true, true, true, false, true, false, true, false, false, false, false] rfl rfl (any_of HT_.out (by kernel_rfl)) (fun _ _ _ h => h) (Or.inl ⟨by rfl, ?_⟩) ?_ ?_
          rotate_left
          ·intro w'
           go_simp
           with_reducible rfl
          rotate_left
          ·simp only [Act.put, List.setIfInBounds_toArray, List.set_cons_zero, List.set_cons_succ, i64_w, i32_w]
           rfl
          refine take_ (i := 4) (N := some 52) (v := ?_) (a' := ?_) #[true, true, true, true, true, true, false, true, false, false, false, false] rfl rfl (take_ofW HT_.out HW_.out (by kernel_rfl)) (fun _ _ _ h => h) (Or.inl ⟨by rfl, ?_⟩) hHeld ?_ ?_
          rotate_left
          ·rintro w' ⟨s0, s1, s2, s3, s4, s5, s6, s7, s8, s9, s10, s11, s12, s13, s14, s15, s16, s17, s18, s19⟩
           go_simp
           with_reducible rfl
          rotate_left
          ·simp only [Act.put, List.setIfInBounds_toArray, List.set_cons_zero, List.set_cons_succ, i64_w, i32_w]
           rfl
          refine take_ (i := 6) (N := some 54) (v := ?_) (a' := ?_) #[true, true, true, true, true, true, true, true, false, false, false, false] rfl rfl (take_ofW HT_.out HW_.out (by kernel_rfl)) (fun _ _ _ h => h) (Or.inl ⟨by rfl, ?_⟩) hHeld ?_ ?_
          rotate_left
          ·rintro w' ⟨s0, s1, s2, s3, s4, s5, s6, s7, s8, s9, s10, s11, s12, s13, s14, s15, s16, s17, s18, s19⟩
           go_simp
           with_reducible rfl
          rotate_left
          ·simp only [Act.put, List.setIfInBounds_toArray, List.set_cons_zero, List.set_cons_succ, i64_w, i32_w]
           rfl
          refine pure_ (i := 8) (N := some 56) (v := ?_) (a' := ?_) #[true, true, true, true, true, true, true, true, true, false, false, false] rfl rfl (any_of HT_.out (by kernel_rfl)) (fun _ _ _ h => h) (Or.inl ⟨by rfl, ?_⟩) ?_ ?_
          rotate_left
          ·intro w'
           go_simp
           with_reducible rfl
          rotate_left
          ·simp only [Act.put, List.setIfInBounds_toArray, List.set_cons_zero, List.set_cons_succ, i64_w, i32_w]
           rfl
          refine take_ (i := 9) (N := some 57) (v := ?_) (a' := ?_) #[true, true, true, true, true, true, true, true, true, true, false, false] rfl rfl (take_ofW HT_.out HW_.out (by kernel_rfl)) (fun _ _ _ h => h) (Or.inl ⟨by rfl, ?_⟩) hHeld ?_ ?_
          rotate_left
          ·rintro w' ⟨s0, s1, s2, s3, s4, s5, s6, s7, s8, s9, s10, s11, s12, s13, s14, s15, s16, s17, s18, s19⟩
           go_simp
           with_reducible rfl
          rotate_left
          ·simp only [Act.put, List.setIfInBounds_toArray, List.set_cons_zero, List.set_cons_succ, i64_w, i32_w]
           rfl
          refine one_ (i := 10) (N := some 58) #[true, true, true, true, true, true, true, true, true, true, true, false] rfl rfl (one_of HT_.out (by kernel_rfl)) (by decide) (fun K hK => ?_)
          refine goes_ Try.func59 (by kernel_rfl) rfl #[.agg #[.int .i64 ((rd_T80 l0_4 x5_2).f0), .int .i64 ((rd_T80 l0_4 x5_2).f1), .int .i64 ((rd_T80 l0_4 x5_2).f2), .int .i64 ((rd_T80 l0_4 x5_2).f3), .slice A125_4 ((rd_T80 l0_4 x5_2).f4).length c125_4], .agg #[.int .i64 ((rd_T80 l1_4 x5_2).f0), .int .i64 ((rd_T80 l1_4 x5_2).f1), .int .i64 ((rd_T80 l1_4 x5_2).f2), .int .i64 ((rd_T80 l1_4 x5_2).f3), .slice A126_4 ((rd_T80 l1_4 x5_2).f4).length c126_4]] (by rfl) rfl rfl agx ?_
          with_reducible refine (ih k2 (by have := HJ2.out; have := HK2.out; omega) ((rd_T80 l0_4 x5_2).f0) ((rd_T80 l0_4 x5_2).f1) ((rd_T80 l0_4 x5_2).f2) ((rd_T80 l0_4 x5_2).f3) _ _ ((rd_T80 l0_4 x5_2).f4) ((rd_T80 l1_4 x5_2).f0) ((rd_T80 l1_4 x5_2).f1) ((rd_T80 l1_4 x5_2).f2) ((rd_T80 l1_4 x5_2).f3) _ _ ((rd_T80 l1_4 x5_2).f4) true _ ?side1 ?side2 ?side3 ?side4 A29.out).mono ?_
          (case side1 => repeat (first | exact (Kd.C_below HR125_4.out HB.out) | (with_reducible refine Kd.C_alloc ?_ _) | (with_reducible refine Kd.C_drewN ?_ _) | (with_reducible refine Kd.C_drew ?_)))
          (case side2 => exact HC125_4.out)
          (case side3 => repeat (first | exact (Kd.C_below HR126_4.out HB.out) | (with_reducible refine Kd.C_alloc ?_ _) | (with_reducible refine Kd.C_drewN ?_ _) | (with_reducible refine Kd.C_drew ?_)))
          (case side4 => exact HC126_4.out)
          rintro e w34 ⟨rfl, hb⟩
          refine ⟨_, rfl, ?_⟩
          have n0_ := Aside0.mk (blk_below (g := gb123) (o := .cells #[.int .i64 a0_0, .int .i64 a0_1, .int .i64 a0_2, .int .i64 a0_3, .slice (some ad125) l0_4.length c0_4] 80 (0, 0)) bkx hb)
          have n1_ := Aside0.mk (blk_below (g := gb124) (o := .cells #[.int .i64 a1_0, .int .i64 a1_1, .int .i64 a1_2, .int .i64 a1_3, .slice (some ad126) l1_4.length c1_4] 80 (0, 0)) bkx hb)
          have n2_ := Aside0.mk (below_step blx hb)
          clear BK123
          clear BK124
          clear HB
          have BK123 := n0_
          have BK124 := n1_
          have HB := n2_
          clear n0_ n1_ n2_
          (try clear hb)
          (try clear hb2)
          (try clear hk)
          (try clear hi)
          refine hK.out _ _ ⟨(blk_cell BK123.out 0).trans rfl, (blk_cell BK123.out 1).trans rfl, (blk_cell BK123.out 2).trans rfl, (blk_cell BK123.out 3).trans rfl, (blk_cell BK123.out 4).trans rfl, (blk_cell BK124.out 0).trans rfl, (blk_cell BK124.out 1).trans rfl, (blk_cell BK124.out 2).trans rfl, (blk_cell BK124.out 3).trans rfl, (blk_cell BK124.out 4).trans rfl, ((HB.out.cell (World.block_lt_of_cell? w _ hw125_0)).trans hw125_0), ((HB.out.cell (World.block_lt_of_cell? w _ hw125_1)).trans hw125_1), ((HB.out.cell (World.block_lt_of_cell? w _ hw125_2)).trans hw125_2), ((HB.out.cell (World.block_lt_of_cell? w _ hw125_3)).trans hw125_3), ((HB.out.cell (World.block_lt_of_cell? w _ hw125_4)).trans hw125_4), ((HB.out.cell (World.block_lt_of_cell? w _ hw126_0)).trans hw126_0), ((HB.out.cell (World.block_lt_of_cell? w _ hw126_1)).trans hw126_1), ((HB.out.cell (World.block_lt_of_cell? w _ hw126_2)).trans hw126_2), ((HB.out.cell (World.block_lt_of_cell? w _ hw126_3)).trans hw126_3), ((HB.out.cell (World.block_lt_of_cell? w _ hw126_4)).trans hw126_4)⟩ (fun hHeld => ?_)
          clear hK K
          refine norm_ (a' := ?_) ?_ ?_
          rotate_left
          ·show Act.put _ (some 58) _ = _
           simp only [Act.put, List.setIfInBounds_toArray, List.set_cons_zero, List.set_cons_succ, i64_w, i32_w]
           rfl
          refine pure_ (i := 11) (N := some 59) (v := ?_) (a' := ?_) #[true, true, true, true, true, true, true, true, true, true, true, true] rfl rfl (any_of HT_.out (by kernel_rfl)) (fun _ _ _ h => h) (Or.inl ⟨by rfl, ?_⟩) ?_ ?_
          rotate_left
          ·intro w'
           go_simp
           with_reducible rfl
          rotate_left
          ·simp only [Act.put, List.setIfInBounds_toArray, List.set_cons_zero, List.set_cons_succ, i64_w, i32_w]
           rfl
          refine done_ (done_of HT_.out (by kernel_rfl)) ?_
          try go_wp2
          go_roundg k2
          case measure => have := HJ2.out; have := HK2.out; omega
          case rel => exact ⟨(wrap64 (x5_2 + 1)), (by first | rfl | (simp; done) | (simp [*]; done)), H', ⟨by have := HJ2.out; have := HK2.out; omega⟩, ⟨bkx⟩, ⟨bkx⟩, ⟨blx⟩⟩
         ·replace c30 := Bool.eq_false_iff.mpr c30
          subst c30
          have H1 : (some false) = some r := by rw [if_neg (show ¬ (false = true) by decide)] at H; exact H
          clear H
          have H := H1
          clear H1
          obtain rfl := Option.some.inj H
          have hnb35 := NB123_124.out
          have hnc35 := NB124_123.out
          have hcz36_0 : wr.cell? ⟨gb123, 0, none⟩ = some (.int .i64 a0_0) := (blk_cell BK123.out 0).trans rfl
          have hcz36_1 : wr.cell? ⟨gb123, 1, none⟩ = some (.int .i64 a0_1) := (blk_cell BK123.out 1).trans rfl
          have hcz36_2 : wr.cell? ⟨gb123, 2, none⟩ = some (.int .i64 a0_2) := (blk_cell BK123.out 2).trans rfl
          have hcz36_3 : wr.cell? ⟨gb123, 3, none⟩ = some (.int .i64 a0_3) := (blk_cell BK123.out 3).trans rfl
          have hcz36_4 : wr.cell? ⟨gb123, 4, none⟩ = some (.slice A0_4 l0_4.length c0_4) := (blk_cell BK123.out 4).trans rfl
          have hfz36_0 := blk_frozen BK123.out 0
          have hfz36_1 := blk_frozen BK123.out 1
          have hfz36_2 := blk_frozen BK123.out 2
          have hfz36_3 := blk_frozen BK123.out 3
          have hfz36_4 := blk_frozen BK123.out 4
          try go_wp2
          have n0_ := Aside0.mk (blk_drew BK123.out)
          have n1_ := Aside0.mk (blk_drew BK124.out)
          have n2_ := Aside0.mk (below_drew1 HB.out)
          clear BK123
          clear BK124
          clear HB
          have BK123 := n0_
          have BK124 := n1_
          have HB := n2_
          clear n0_ n1_ n2_
          have p125 : 0 ≤ (x5_2 : Int) := odx
          have q125 : x5_2 < (l0_4.length : Int) := odx
          obtain ⟨ad125, A125_4, c125_4, e125, hx125_0, hx125_1, hx125_2, hx125_3, hx125_4, hl125_4, hi125_4⟩ := at_T80 HR0_4.out x5_2 p125 q125
          have hw125_4 := hx125_4
          have hw125_3 := hx125_3
          have hw125_2 := hx125_2
          have hw125_1 := hx125_1
          have hw125_0 := hx125_0
          cases e125
          replace hx125_0 := (HB.out.cell (World.block_lt_of_cell? w _ hx125_0)).trans hx125_0
          replace hx125_1 := (HB.out.cell (World.block_lt_of_cell? w _ hx125_1)).trans hx125_1
          replace hx125_2 := (HB.out.cell (World.block_lt_of_cell? w _ hx125_2)).trans hx125_2
          replace hx125_3 := (HB.out.cell (World.block_lt_of_cell? w _ hx125_3)).trans hx125_3
          replace hx125_4 := (HB.out.cell (World.block_lt_of_cell? w _ hx125_4)).trans hx125_4
          have HR125_4 := Aside0.mk hi125_4
          have HC125_4 := Aside0.mk hl125_4
          clear hi125_4 hl125_4
          replace p125 := eq_true p125
          replace q125 := eq_true q125
          have p126 : 0 ≤ (x5_2 : Int) := odx
          have q126 : x5_2 < (l1_4.length : Int) := odx
          obtain ⟨ad126, A126_4, c126_4, e126, hx126_0, hx126_1, hx126_2, hx126_3, hx126_4, hl126_4, hi126_4⟩ := at_T80 HR1_4.out x5_2 p126 q126
          have hw126_4 := hx126_4
          have hw126_3 := hx126_3
          have hw126_2 := hx126_2
          have hw126_1 := hx126_1
          have hw126_0 := hx126_0
          cases e126
          replace hx126_0 := (HB.out.cell (World.block_lt_of_cell? w _ hx126_0)).trans hx126_0
          replace hx126_1 := (HB.out.cell (World.block_lt_of_cell? w _ hx126_1)).trans hx126_1
          replace hx126_2 := (HB.out.cell (World.block_lt_of_cell? w _ hx126_2)).trans hx126_2
          replace hx126_3 := (HB.out.cell (World.block_lt_of_cell? w _ hx126_3)).trans hx126_3
          replace hx126_4 := (HB.out.cell (World.block_lt_of_cell? w _ hx126_4)).trans hx126_4
          have HR126_4 := Aside0.mk hi126_4
          have HC126_4 := Aside0.mk hl126_4
          clear hi126_4 hl126_4
          replace p126 := eq_true p126
          replace q126 := eq_true q126
          refine start_ (n := 12) (S := fun w' => w'.cell? ⟨gb123, 0, none⟩ = some (.int .i64 a0_0) ∧ w'.cell? ⟨gb123, 1, none⟩ = some (.int .i64 a0_1) ∧ w'.cell? ⟨gb123, 2, none⟩ = some (.int .i64 a0_2) ∧ w'.cell? ⟨gb123, 3, none⟩ = some (.int .i64 a0_3) ∧ w'.cell? ⟨gb123, 4, none⟩ = some (.slice (some ad125) l0_4.length c0_4) ∧ w'.cell? ⟨gb124, 0, none⟩ = some (.int .i64 a1_0) ∧ w'.cell? ⟨gb124, 1, none⟩ = some (.int .i64 a1_1) ∧ w'.cell? ⟨gb124, 2, none⟩ = some (.int .i64 a1_2) ∧ w'.cell? ⟨gb124, 3, none⟩ = some (.int .i64 a1_3) ∧ w'.cell? ⟨gb124, 4, none⟩ = some (.slice (some ad126) l1_4.length c1_4) ∧ w'.cell? (ad125.add ((x5_2).toNat * 5)) = some (.int .i64 ((rd_T80 l0_4 x5_2).f0)) ∧ w'.cell? ⟨(ad125.add ((x5_2).toNat * 5)).block, (ad125.add ((x5_2).toNat * 5)).off + 1, none⟩ = some (.int .i64 ((rd_T80 l0_4 x5_2).f1)) ∧ w'.cell? ⟨(ad125.add ((x5_2).toNat * 5)).block, (ad125.add ((x5_2).toNat * 5)).off + 2, none⟩ = some (.int .i64 ((rd_T80 l0_4 x5_2).f2)) ∧ w'.cell? ⟨(ad125.add ((x5_2).toNat * 5)).block, (ad125.add ((x5_2).toNat * 5)).off + 3, none⟩ = some (.int .i64 ((rd_T80 l0_4 x5_2).f3)) ∧ w'.cell? ⟨(ad125.add ((x5_2).toNat * 5)).block, (ad125.add ((x5_2).toNat * 5)).off + 4, none⟩ = some (.slice A125_4 ((rd_T80 l0_4 x5_2).f4).length c125_4) ∧ w'.cell? (ad126.add ((x5_2).toNat * 5)) = some (.int .i64 ((rd_T80 l1_4 x5_2).f0)) ∧ w'.cell? ⟨(ad126.add ((x5_2).toNat * 5)).block, (ad126.add ((x5_2).toNat * 5)).off + 1, none⟩ = some (.int .i64 ((rd_T80 l1_4 x5_2).f1)) ∧ w'.cell? ⟨(ad126.add ((x5_2).toNat * 5)).block, (ad126.add ((x5_2).toNat * 5)).off + 2, none⟩ = some (.int .i64 ((rd_T80 l1_4 x5_2).f2)) ∧ w'.cell? ⟨(ad126.add ((x5_2).toNat * 5)).block, (ad126.add ((x5_2).toNat * 5)).off + 3, none⟩ = some (.int .i64 ((rd_T80 l1_4 x5_2).f3)) ∧ w'.cell? ⟨(ad126.add ((x5_2).toNat * 5)).block, (ad126.add ((x5_2).toNat * 5)).off + 4, none⟩ = some (.slice A126_4 ((rd_T80 l1_4 x5_2).f4).length c126_4)) (ds := []) #[false, false, false, false, false, false, false, false, false, false, false, false] (by kernel_rfl) rfl rfl ⟨(blk_cell BK123.out 0).trans rfl, (blk_cell BK123.out 1).trans rfl, (blk_cell BK123.out 2).trans rfl, (blk_cell BK123.out 3).trans rfl, (blk_cell BK123.out 4).trans rfl, (blk_cell BK124.out 0).trans rfl, (blk_cell BK124.out 1).trans rfl, (blk_cell BK124.out 2).trans rfl, (blk_cell BK124.out 3).trans rfl, (blk_cell BK124.out 4).trans rfl, ((HB.out.cell (World.block_lt_of_cell? w _ hw125_0)).trans hw125_0), ((HB.out.cell (World.block_lt_of_cell? w _ hw125_1)).trans hw125_1), ((HB.out.cell (World.block_lt_of_cell? w _ hw125_2)).trans hw125_2), ((HB.out.cell (World.block_lt_of_cell? w _ hw125_3)).trans hw125_3), ((HB.out.cell (World.block_lt_of_cell? w _ hw125_4)).trans hw125_4), ((HB.out.cell (World.block_lt_of_cell? w _ hw126_0)).trans hw126_0), ((HB.out.cell (World.block_lt_of_cell? w _ hw126_1)).trans hw126_1), ((HB.out.cell (World.block_lt_of_cell? w _ hw126_2)).trans hw126_2), ((HB.out.cell (World.block_lt_of_cell? w _ hw126_3)).trans hw126_3), ((HB.out.cell (World.block_lt_of_cell? w _ hw126_4)).trans hw126_4)⟩ (fun hHeld => ?_); refine with_tabW levylaw7_sameExpr.tab6 levylaw7_sameExpr.bits6 (fun HT_ HW_ => ?_)
          generalize wr.drew = w37 at BK123 BK124 HB HR125_4 HR126_4 hx125_0 hx125_1 hx125_2 hx125_3 hx125_4 hx126_0 hx126_1 hx126_2 hx126_3 hx126_4 hHeld ⊢
          refine pure_ (i := 0) (N := some 48) (v := ?_) (a' := ?_) #[true, false, false, false, false, false, false, false, false, false, false, false] rfl rfl (any_of HT_.out (by kernel_rfl)) (fun _ _ _ h => h) (Or.inl ⟨by rfl, ?_⟩) ?_ ?_
          rotate_left
          ·intro w'
           go_simp
           with_reducible rfl
          rotate_left
          ·simp only [Act.put, List.setIfInBounds_toArray, List.set_cons_zero, List.set_cons_succ, i64_w, i32_w]
           rfl
          refine pure_ (i := 2) (N := some 50) (v := ?_) (a' := ?_) #[true, false, true, false, false, false, false, false, false, false, false, false] rfl rfl (any_of HT_.out (by kernel_rfl)) (fun _ _ _ h => h) (Or.inl ⟨by rfl, ?_⟩) ?_ ?_
          rotate_left
          ·intro w'
           go_simp
           with_reducible rfl
          rotate_left
          ·simp only [Act.put, List.setIfInBounds_toArray, List.set_cons_zero, List.set_cons_succ, i64_w, i32_w]
           rfl
          refine pure_ (i := 5) (N := some 53) (v := ?_) (a' := ?_) #[true, false, true, false, false, true, false, false, false, false, false, false] rfl rfl (any_of HT_.out (by kernel_rfl)) (fun _ _ _ h => h) (Or.inl ⟨by rfl, ?_⟩) ?_ ?_
          rotate_left
          ·intro w'
           go_simp
           with_reducible rfl
          rotate_left
          ·simp only [Act.put, List.setIfInBounds_toArray, List.set_cons_zero, List.set_cons_succ, i64_w, i32_w]
           rfl
          refine pure_ (i := 7) (N := some 55) (v := ?_) (a' := ?_) #[true, false, true, false, false, true, false, true, false, false, false, false] rfl rfl (any_of HT_.out (by kernel_rfl)) (fun _ _ _ h => h) (Or.inl ⟨by rfl, ?_⟩) ?_ ?_
          rotate_left
          ·intro w'
           go_simp
           with_reducible rfl
          rotate_left
          ·simp only [Act.put, List.setIfInBounds_toArray, List.set_cons_zero, List.set_cons_succ, i64_w, i32_w]
           rfl
          refine take_ (i := 1) (N := some 49) (v := ?_) (a' := ?_) #[true, true, true, false, false, true, false, true, false, false, false, false] rfl rfl (take_ofW HT_.out HW_.out (by kernel_rfl)) (fun _ _ _ h => h) (Or.inl ⟨by rfl, ?_⟩) hHeld ?_ ?_
          rotate_left
          ·rintro w' ⟨s0, s1, s2, s3, s4, s5, s6, s7, s8, s9, s10, s11, s12, s13, s14, s15, s16, s17, s18, s19⟩
           go_simp
           with_reducible rfl
          rotate_left
          ·simp only [Act.put, List.setIfInBounds_toArray, List.set_cons_zero, List.set_cons_succ, i64_w, i32_w]
           rfl
          refine pure_ (i := 3) (N := some 51) (v := ?_) (a' := ?_) #[true, true, true, true, false, true, false, true, false, false, false, false] rfl rfl (any_of HT_.out (by kernel_rfl)) (fun _ _ _ h => h) (Or.inl ⟨by rfl, ?_⟩) ?_ ?_
          rotate_left
          ·intro w'
           go_simp
           with_reducible rfl
          rotate_left
          ·simp only [Act.put, List.setIfInBounds_toArray, List.set_cons_zero, List.set_cons_succ, i64_w, i32_w]
           rfl
          refine take_ (i := 4) (N := some 52) (v := ?_) (a' := ?_) #[true, true, true, true, true, true, false, true, false, false, false, false] rfl rfl (take_ofW HT_.out HW_.out (by kernel_rfl)) (fun _ _ _ h => h) (Or.inl ⟨by rfl, ?_⟩) hHeld ?_ ?_
          rotate_left
          ·rintro w' ⟨s0, s1, s2, s3, s4, s5, s6, s7, s8, s9, s10, s11, s12, s13, s14, s15, s16, s17, s18, s19⟩
           go_simp
           with_reducible rfl
          rotate_left
          ·simp only [Act.put, List.setIfInBounds_toArray, List.set_cons_zero, List.set_cons_succ, i64_w, i32_w]
           rfl
          refine take_ (i := 6) (N := some 54) (v := ?_) (a' := ?_) #[true, true, true, true, true, true, true, true, false, false, false, false] rfl rfl (take_ofW HT_.out HW_.out (by kernel_rfl)) (fun _ _ _ h => h) (Or.inl ⟨by rfl, ?_⟩) hHeld ?_ ?_
          rotate_left
          ·rintro w' ⟨s0, s1, s2, s3, s4, s5, s6, s7, s8, s9, s10, s11, s12, s13, s14, s15, s16, s17, s18, s19⟩
           go_simp
           with_reducible rfl
          rotate_left
          ·simp only [Act.put, List.setIfInBounds_toArray, List.set_cons_zero, List.set_cons_succ, i64_w, i32_w]
           rfl
          refine pure_ (i := 8) (N := some 56) (v := ?_) (a' := ?_) #[true, true, true, true, true, true, true, true, true, false, false, false] rfl rfl (any_of HT_.out (by kernel_rfl)) (fun _ _ _ h => h) (Or.inl ⟨by rfl, ?_⟩) ?_ ?_
          rotate_left
          ·intro w'
           go_simp
           with_reducible rfl
          rotate_left
          ·simp only [Act.put, List.setIfInBounds_toArray, List.set_cons_zero, List.set_cons_succ, i64_w, i32_w]
           rfl
          refine take_ (i := 9) (N := some 57) (v := ?_) (a' := ?_) #[true, true, true, true, true, true, true, true, true, true, false, false] rfl rfl (take_ofW HT_.out HW_.out (by kernel_rfl)) (fun _ _ _ h => h) (Or.inl ⟨by rfl, ?_⟩) hHeld ?_ ?_
          rotate_left
          ·rintro w' ⟨s0, s1, s2, s3, s4, s5, s6, s7, s8, s9, s10, s11, s12, s13, s14, s15, s16, s17, s18, s19⟩
           go_simp
           with_reducible rfl
          rotate_left
          ·simp only [Act.put, List.setIfInBounds_toArray, List.set_cons_zero, List.set_cons_succ, i64_w, i32_w]
           rfl
          refine one_ (i := 10) (N := some 58) #[true, true, true, true, true, true, true, true, true, true, true, false] rfl rfl (one_of HT_.out (by kernel_rfl)) (by decide) (fun K hK => ?_)
          refine goes_ Try.func59 (by kernel_rfl) rfl #[.agg #[.int .i64 ((rd_T80 l0_4 x5_2).f0), .int .i64 ((rd_T80 l0_4 x5_2).f1), .int .i64 ((rd_T80 l0_4 x5_2).f2), .int .i64 ((rd_T80 l0_4 x5_2).f3), .slice A125_4 ((rd_T80 l0_4 x5_2).f4).length c125_4], .agg #[.int .i64 ((rd_T80 l1_4 x5_2).f0), .int .i64 ((rd_T80 l1_4 x5_2).f1), .int .i64 ((rd_T80 l1_4 x5_2).f2), .int .i64 ((rd_T80 l1_4 x5_2).f3), .slice A126_4 ((rd_T80 l1_4 x5_2).f4).length c126_4]] (by rfl) rfl rfl agx ?_
          with_reducible refine (ih k2 (by have := HJ2.out; have := HK2.out; omega) ((rd_T80 l0_4 x5_2).f0) ((rd_T80 l0_4 x5_2).f1) ((rd_T80 l0_4 x5_2).f2) ((rd_T80 l0_4 x5_2).f3) _ _ ((rd_T80 l0_4 x5_2).f4) ((rd_T80 l1_4 x5_2).f0) ((rd_T80 l1_4 x5_2).f1) ((rd_T80 l1_4 x5_2).f2) ((rd_T80 l1_4 x5_2).f3) _ _ ((rd_T80 l1_4 x5_2).f4) false _ ?side1 ?side2 ?side3 ?side4 A29.out).mono ?_
          (case side1 => repeat (first | exact (Kd.C_below HR125_4.out HB.out) | (with_reducible refine Kd.C_alloc ?_ _) | (with_reducible refine Kd.C_drewN ?_ _) | (with_reducible refine Kd.C_drew ?_)))
          (case side2 => exact HC125_4.out)
          (case side3 => repeat (first | exact (Kd.C_below HR126_4.out HB.out) | (with_reducible refine Kd.C_alloc ?_ _) | (with_reducible refine Kd.C_drewN ?_ _) | (with_reducible refine Kd.C_drew ?_)))
          (case side4 => exact HC126_4.out)
          rintro e w38 ⟨rfl, hb⟩
          refine ⟨_, rfl, ?_⟩
          have n0_ := Aside0.mk (blk_below (g := gb123) (o := .cells #[.int .i64 a0_0, .int .i64 a0_1, .int .i64 a0_2, .int .i64 a0_3, .slice (some ad125) l0_4.length c0_4] 80 (0, 0)) bkx hb)
          have n1_ := Aside0.mk (blk_below (g := gb124) (o := .cells #[.int .i64 a1_0, .int .i64 a1_1, .int .i64 a1_2, .int .i64 a1_3, .slice (some ad126) l1_4.length c1_4] 80 (0, 0)) bkx hb)
          have n2_ := Aside0.mk (below_step blx hb)
          clear BK123
          clear BK124
          clear HB
          have BK123 := n0_
          have BK124 := n1_
          have HB := n2_
          clear n0_ n1_ n2_
          (try clear hb)
          (try clear hb2)
          (try clear hk)
          (try clear hi)
          refine hK.out _ _ ⟨(blk_cell BK123.out 0).trans rfl, (blk_cell BK123.out 1).trans rfl, (blk_cell BK123.out 2).trans rfl, (blk_cell BK123.out 3).trans rfl, (blk_cell BK123.out 4).trans rfl, (blk_cell BK124.out 0).trans rfl, (blk_cell BK124.out 1).trans rfl, (blk_cell BK124.out 2).trans rfl, (blk_cell BK124.out 3).trans rfl, (blk_cell BK124.out 4).trans rfl, ((HB.out.cell (World.block_lt_of_cell? w _ hw125_0)).trans hw125_0), ((HB.out.cell (World.block_lt_of_cell? w _ hw125_1)).trans hw125_1), ((HB.out.cell (World.block_lt_of_cell? w _ hw125_2)).trans hw125_2), ((HB.out.cell (World.block_lt_of_cell? w _ hw125_3)).trans hw125_3), ((HB.out.cell (World.block_lt_of_cell? w _ hw125_4)).trans hw125_4), ((HB.out.cell (World.block_lt_of_cell? w _ hw126_0)).trans hw126_0), ((HB.out.cell (World.block_lt_of_cell? w _ hw126_1)).trans hw126_1), ((HB.out.cell (World.block_lt_of_cell? w _ hw126_2)).trans hw126_2), ((HB.out.cell (World.block_lt_of_cell? w _ hw126_3)).trans hw126_3), ((HB.out.cell (World.block_lt_of_cell? w _ hw126_4)).trans hw126_4)⟩ (fun hHeld => ?_)
          clear hK K
          refine norm_ (a' := ?_) ?_ ?_
          rotate_left
          ·show Act.put _ (some 58) _ = _
           simp only [Act.put, List.setIfInBounds_toArray, List.set_cons_zero, List.set_cons_succ, i64_w, i32_w]
           rfl
          refine pure_ (i := 11) (N := some 59) (v := ?_) (a' := ?_) #[true, true, true, true, true, true, true, true, true, true, true, true] rfl rfl (any_of HT_.out (by kernel_rfl)) (fun _ _ _ h => h) (Or.inl ⟨by rfl, ?_⟩) ?_ ?_
          rotate_left
          ·intro w'
           go_simp
           with_reducible rfl
          rotate_left
          ·simp only [Act.put, List.setIfInBounds_toArray, List.set_cons_zero, List.set_cons_succ, i64_w, i32_w]
           rfl
          refine done_ (done_of HT_.out (by kernel_rfl)) ?_
          try go_wp2
          go_ret
          exact ⟨by first | rfl | (simp [errW_none, errW_some] <;> rfl) | (simp [*, errW_none, errW_some] <;> rfl), blx⟩
        ·rw [if_neg c28] at H
         exact absurd H (by simp)
       ·rw [if_neg c27] at H
        exact absurd H (by simp)
      ·rw [if_neg c26] at H
       have c26b0 : decide (x5_2 < (l0_4.length : Int)) = false := decide_eq_false c26
       clear c26
       obtain rfl := Option.some.inj H
       have hnb39 := NB123_124.out
       have hnc39 := NB124_123.out
       have hcz40_0 : wr.cell? ⟨gb123, 0, none⟩ = some (.int .i64 a0_0) := (blk_cell BK123.out 0).trans rfl
       have hcz40_1 : wr.cell? ⟨gb123, 1, none⟩ = some (.int .i64 a0_1) := (blk_cell BK123.out 1).trans rfl
       have hcz40_2 : wr.cell? ⟨gb123, 2, none⟩ = some (.int .i64 a0_2) := (blk_cell BK123.out 2).trans rfl
       have hcz40_3 : wr.cell? ⟨gb123, 3, none⟩ = some (.int .i64 a0_3) := (blk_cell BK123.out 3).trans rfl
       have hcz40_4 : wr.cell? ⟨gb123, 4, none⟩ = some (.slice A0_4 l0_4.length c0_4) := (blk_cell BK123.out 4).trans rfl
       have hfz40_0 := blk_frozen BK123.out 0
       have hfz40_1 := blk_frozen BK123.out 1
       have hfz40_2 := blk_frozen BK123.out 2
       have hfz40_3 := blk_frozen BK123.out 3
       have hfz40_4 := blk_frozen BK123.out 4
       go_wp2
       go_ret
       exact ⟨by first | rfl | (simp [errW_none, errW_some] <;> rfl) | (simp [*, errW_none, errW_some] <;> rfl), blx⟩
end Go.Proofs.Ytpbdkkahodaloaa.PS
end

section
namespace Go.Proofs.Ytpbdkkahodaloaa.PS
open Go.RowKit Go.Proofs.YtpbdkkahodaloaaW.PrintWords Go.Proofs.YtpbdkkahodaloaaW.PrintLast Go.Proofs.YtpbdkkahodaloaaW.PrintMore
attribute [local go_sem] max2_int min2_int max_two min_two max_three min_three max_four min_four
set_option linter.unusedVariables false
set_option linter.unusedSimpArgs false
mutual
def levylaw7_nodes.l0 : Nat → Int → Int → Int → Int → Int → Int → Int → List (S80) → Option (Int)
 | 0, _, _, _, _, _, _, _, _ => none
 | k + 1, x1, x5, x6, x210000, x210001, x210002, x210003, x210004 => if x6 < (x210004.length : Int) then (if x5 ≤ x1 then (if 0 ≤ x6 then ((levylaw7_nodes.f k ((rd_T80 x210004 x6).f0) ((rd_T80 x210004 x6).f1) ((rd_T80 x210004 x6).f2) ((rd_T80 x210004 x6).f3) ((rd_T80 x210004 x6).f4) (wrap64 (x1 - x5))).bind fun t211 => (levylaw7_nodes.l0 k x1 (wrap64 (x5 + t211)) (wrap64 (x6 + 1)) x210000 x210001 x210002 x210003 x210004)) else (none)) else (some x5)) else (some x5)
def levylaw7_nodes.f : Nat → Int → Int → Int → Int → List (S80) → Int → Option (Int)
 | 0, _, _, _, _, _, _ => none
 | k + 1, a0_0, a0_1, a0_2, a0_3, l0_4, a1 => levylaw7_nodes.l0 k a1 1 0 a0_0 a0_1 a0_2 a0_3 l0_4
end
theorem levylaw7_nodes.mono_l : ∀ k, (∀ y0 y1 y2 y3 y4 y5, LeO (levylaw7_nodes.f k y0 y1 y2 y3 y4 y5) (levylaw7_nodes.f (k + 1) y0 y1 y2 y3 y4 y5)) ∧ (∀ y0 y1 y2 y3 y4 y5 y6 y7, LeO (levylaw7_nodes.l0 k y0 y1 y2 y3 y4 y5 y6 y7) (levylaw7_nodes.l0 (k + 1) y0 y1 y2 y3 y4 y5 y6 y7))
 | 0 => ⟨fun _ _ _ _ _ _ r h => by simp [levylaw7_nodes.f] at h, fun _ _ _ _ _ _ _ _ r h => by simp [levylaw7_nodes.l0] at h⟩
 | k + 1 => by
  obtain ⟨ih0, ih1⟩ := levylaw7_nodes.mono_l k
  refine ⟨?_, ?_⟩
  ·intro y0 y1 y2 y3 y4 y5
   unfold levylaw7_nodes.f
   repeat' first
   | (with_reducible exact ih0 _ _ _ _ _ _)
   | (with_reducible exact ih1 _ _ _ _ _ _ _ _)
   | (with_reducible exact LeO.refl _)
   | (with_reducible exact LeO.none _)
   | (with_reducible refine LeO.ite ?_ ?_)
   | (with_reducible refine LeO.bind ?_ (fun _ => ?_))
   | exact ih0 _ _ _ _ _ _
   | exact ih1 _ _ _ _ _ _ _ _
   | exact LeO.none _
   | refine LeO.ite ?_ ?_
   | refine LeO.bind ?_ (fun _ => ?_)
  ·intro y0 y1 y2 y3 y4 y5 y6 y7
   unfold levylaw7_nodes.l0
   repeat' first
   | (with_reducible exact ih0 _ _ _ _ _ _)
   | (with_reducible exact ih1 _ _ _ _ _ _ _ _)
   | (with_reducible exact LeO.refl _)
   | (with_reducible exact LeO.none _)
   | (with_reducible refine LeO.ite ?_ ?_)
   | (with_reducible refine LeO.bind ?_ (fun _ => ?_))
   | exact ih0 _ _ _ _ _ _
   | exact ih1 _ _ _ _ _ _ _ _
   | exact LeO.none _
   | refine LeO.ite ?_ ?_
   | refine LeO.bind ?_ (fun _ => ?_)
theorem levylaw7_nodes.mono : ∀ a0 a1 a2 a3 a4 a5 k, LeO (levylaw7_nodes.f k a0 a1 a2 a3 a4 a5) (levylaw7_nodes.f (k + 1) a0 a1 a2 a3 a4 a5) := by
 intro a0 a1 a2 a3 a4 a5 k
 obtain ⟨ih0, ih1⟩ := levylaw7_nodes.mono_l k
 exact ih0 a0 a1 a2 a3 a4 a5
set_option maxHeartbeats 8000000 in
set_option maxRecDepth 100000 in
theorem levylaw7_nodes.calls (k : Nat) : ∀ (a0_0 : Int) (a0_1 : Int) (a0_2 : Int) (a0_3 : Int) (A0_4 : Option Addr) (c0_4 : Nat) (l0_4 : List (S80)) (a1 : Int) (r : Int) (w : World) (hr0_4 : Kd.C k80 w A0_4 l0_4.length l0_4) (hc0_4 : l0_4.length ≤ c0_4) (h : levylaw7_nodes.f k a0_0 a0_1 a0_2 a0_3 l0_4 a1 = some r),
  Calls Try.prog 27 #[.agg #[.int .i64 a0_0, .int .i64 a0_1, .int .i64 a0_2, .int .i64 a0_3, .slice A0_4 l0_4.length c0_4], .int .i64 a1] w fun e w' => e = .returned (.int .i64 r) ∧ Below w.heap.size w w' := by
 induction k using Nat.strongRecOn with
 | _ k ih =>
 intro a0_0 a0_1 a0_2 a0_3 A0_4 c0_4 l0_4 a1 r w hr0_4 hc0_4 h
 cases k with
 | zero => exact absurd h (by simp [levylaw7_nodes.f])
 | succ k =>
 simp only [levylaw7_nodes.f] at h
 have hu80 := Try.underlying80
 have HR0_4 := Aside0.mk hr0_4
 have HC0_4 := Aside0.mk hc0_4
 clear hr0_4 hc0_4
 have HB := Aside0.mk (Below.refl w.heap.size w)
 have H : (levylaw7_nodes.l0 k a1 1 0 a0_0 a0_1 a0_2 a0_3 l0_4) = some r := h
 clear h
 have H' := Aside0.mk H
 clear H
 go_enter Try.func27, Try.ntmps27
 go_wp2_with (first | ((with_reducible refine gate_dst (N := 2) rfl ?_); refine box_event ?hg (N := 2) ?hd (cs := #[.int .i64 a0_0, .int .i64 a0_1, .int .i64 a0_2, .int .i64 a0_3, .slice A0_4 l0_4.length c0_4]) (t := 80) ?hr ?_; (case hd => rfl); (case hg => rfl); (case hr => first | (go_simp; done) | (go_simp; rfl)); intro gb209 hg w3 hbox hb; have n0_ := Aside0.mk (below_step blx hb); have n1_ := Aside0.mk (hbox); have n2_ := Aside0.mk ((by rw [hg]; exact (below_size blx) : w.heap.size ≤ gb209)); have n3_ := Aside0.mk ((by rw [hg]; exact (below_size blx) : w.heap.size ≤ gb209)); clear HB; have HB := n0_; have BK209 := n1_; have GW209 := n2_; have GE209 := n3_; clear n0_ n1_ n2_ n3_; clear hb hbox hg))
 go_loopg [5, 6] k (fun kq v5 v6 w' => ∃ (x5_1 : Int) (x6_1 : Int), v5 = .int .i64 x5_1 ∧ v6 = .int .i64 x6_1 ∧ Aside0 (levylaw7_nodes.l0 kq a1 x5_1 x6_1 a0_0 a0_1 a0_2 a0_3 l0_4 = some r) ∧ Aside0 (kq ≤ k) ∧ Aside0 (w'.heap[gb209]? = some (.cells #[.int .i64 a0_0, .int .i64 a0_1, .int .i64 a0_2, .int .i64 a0_3, (.slice A0_4 l0_4.length c0_4)] 80 (0, 0))) ∧ Aside0 (Below w.heap.size w w'))
 case atStart => exact ⟨(1), (0), (by first | rfl | (simp; done) | (simp [*]; done)), (by first | rfl | (simp; done) | (simp [*]; done)), H', ⟨Nat.le_refl _⟩, ⟨bkx⟩, ⟨blx⟩⟩
 case round =>
  clear H'
  try clear c2
  try clear p2
  obtain ⟨x5_1, x6_1, rfl, rfl, HA, HK1, BK209, HB⟩ := hrel
  cases gk with
  | zero => exact absurd HA.out (by simp [levylaw7_nodes.l0])
  | succ k1 =>
   have H := HA.out
   clear HA
   simp only [levylaw7_nodes.l0] at H
   by_cases c4 : x6_1 < (l0_4.length : Int)
   ·rw [if_pos c4] at H
    have c4b0 : decide (x6_1 < (l0_4.length : Int)) = true := decide_eq_true c4
    clear c4
    by_cases c5 : x5_1 ≤ a1
    ·rw [if_pos c5] at H
     have c5b0 : decide (x5_1 ≤ a1) = true := decide_eq_true c5
     clear c5
     by_cases c6 : 0 ≤ x6_1
     ·rw [if_pos c6] at H
      have c6b0 : decide (0 ≤ x6_1) = true := decide_eq_true c6
      clear c6
      replace H := Option.bind_eq_some_iff.mp H
      obtain ⟨t211, A70, H⟩ := H
      replace H : (levylaw7_nodes.l0 k1 a1 (wrap64 (x5_1 + t211)) (wrap64 (x6_1 + 1)) a0_0 a0_1 a0_2 a0_3 l0_4) = some r := H
      have A7 := Aside0.mk A70
      clear A70
      have H' := Aside0.mk H
      clear H
      have hcz8_0 : wr.cell? ⟨gb209, 0, none⟩ = some (.int .i64 a0_0) := (blk_cell BK209.out 0).trans rfl
      have hcz8_1 : wr.cell? ⟨gb209, 1, none⟩ = some (.int .i64 a0_1) := (blk_cell BK209.out 1).trans rfl
      have hcz8_2 : wr.cell? ⟨gb209, 2, none⟩ = some (.int .i64 a0_2) := (blk_cell BK209.out 2).trans rfl
      have hcz8_3 : wr.cell? ⟨gb209, 3, none⟩ = some (.int .i64 a0_3) := (blk_cell BK209.out 3).trans rfl
      have hcz8_4 : wr.cell? ⟨gb209, 4, none⟩ = some (.slice A0_4 l0_4.length c0_4) := (blk_cell BK209.out 4).trans rfl
      have hfz8_0 := blk_frozen BK209.out 0
      have hfz8_1 := blk_frozen BK209.out 1
      have hfz8_2 := blk_frozen BK209.out 2
      have hfz8_3 := blk_frozen BK209.out 3
      have hfz8_4 := blk_frozen BK209.out 4
      have p210 : 0 ≤ (x6_1 : Int) := odx
      have q210 : x6_1 < (l0_4.length : Int) := odx
      obtain ⟨ad210, A210_4, c210_4, e210, hx210_0, hx210_1, hx210_2, hx210_3, hx210_4, hl210_4, hi210_4⟩ := at_T80 HR0_4.out x6_1 p210 q210
      cases e210
      replace hx210_0 := (HB.out.cell (World.block_lt_of_cell? w _ hx210_0)).trans hx210_0
      replace hx210_1 := (HB.out.cell (World.block_lt_of_cell? w _ hx210_1)).trans hx210_1
      replace hx210_2 := (HB.out.cell (World.block_lt_of_cell? w _ hx210_2)).trans hx210_2
      replace hx210_3 := (HB.out.cell (World.block_lt_of_cell? w _ hx210_3)).trans hx210_3
      replace hx210_4 := (HB.out.cell (World.block_lt_of_cell? w _ hx210_4)).trans hx210_4
      have HR210_4 := Aside0.mk hi210_4
      have HC210_4 := Aside0.mk hl210_4
      clear hi210_4 hl210_4
      replace p210 := eq_true p210
      replace q210 := eq_true q210
      go_wp2_with (first | ((with_reducible refine gate_callee (f := 27) rfl ?_); refine goesL_ (some 28) rfl rfl Try.func27 (by kernel_rfl) rfl #[.agg #[.int .i64 ((rd_T80 l0_4 x6_1).f0), .int .i64 ((rd_T80 l0_4 x6_1).f1), .int .i64 ((rd_T80 l0_4 x6_1).f2), .int .i64 ((rd_T80 l0_4 x6_1).f3), .slice A210_4 ((rd_T80 l0_4 x6_1).f4).length c210_4], .int .i64 (wrap64 (a1 - x5_1))] rfl agx ?_; (with_reducible refine (ih k1 (by have := HK1.out; omega) ((rd_T80 l0_4 x6_1).f0) ((rd_T80 l0_4 x6_1).f1) ((rd_T80 l0_4 x6_1).f2) ((rd_T80 l0_4 x6_1).f3) _ _ ((rd_T80 l0_4 x6_1).f4) (wrap64 (a1 - x5_1)) t211 _ ?side1 ?side2 A7.out).mono ?_); (case side1 => repeat (first | exact (Kd.C_below HR210_4.out HB.out) | (with_reducible refine Kd.C_alloc ?_ _) | (with_reducible refine Kd.C_drewN ?_ _) | (with_reducible refine Kd.C_drew ?_))); (case side2 => exact HC210_4.out); rintro e w9 ⟨rfl, hb⟩; refine ⟨_, rfl, ?_⟩; have n0_ := Aside0.mk (blk_below (g := gb209) (o := .cells #[.int .i64 a0_0, .int .i64 a0_1, .int .i64 a0_2, .int .i64 a0_3, .slice (some ad210) l0_4.length c0_4] 80 (0, 0)) bkx hb); have n1_ := Aside0.mk (below_step blx hb); clear BK209; clear HB; have BK209 := n0_; have HB := n1_; clear n0_ n1_; (try clear hb); (try clear hb2); (try clear hk); (try clear hi)))
      go_roundg k1
      case measure => have := HK1.out; omega
      case rel => exact ⟨(wrap64 (x5_1 + t211)), (wrap64 (x6_1 + 1)), (by first | rfl | (simp; done) | (simp [*]; done)), (by first | rfl | (simp; done) | (simp [*]; done)), H', ⟨by have := HK1.out; omega⟩, ⟨bkx⟩, ⟨blx⟩⟩
     ·rw [if_neg c6] at H
      exact absurd H (by simp)
    ·rw [if_neg c5] at H
     have c5b0 : decide (x5_1 ≤ a1) = false := decide_eq_false c5
     clear c5
     obtain rfl := Option.some.inj H
     have hcz10_0 : wr.cell? ⟨gb209, 0, none⟩ = some (.int .i64 a0_0) := (blk_cell BK209.out 0).trans rfl
     have hcz10_1 : wr.cell? ⟨gb209, 1, none⟩ = some (.int .i64 a0_1) := (blk_cell BK209.out 1).trans rfl
     have hcz10_2 : wr.cell? ⟨gb209, 2, none⟩ = some (.int .i64 a0_2) := (blk_cell BK209.out 2).trans rfl
     have hcz10_3 : wr.cell? ⟨gb209, 3, none⟩ = some (.int .i64 a0_3) := (blk_cell BK209.out 3).trans rfl
     have hcz10_4 : wr.cell? ⟨gb209, 4, none⟩ = some (.slice A0_4 l0_4.length c0_4) := (blk_cell BK209.out 4).trans rfl
     have hfz10_0 := blk_frozen BK209.out 0
     have hfz10_1 := blk_frozen BK209.out 1
     have hfz10_2 := blk_frozen BK209.out 2
     have hfz10_3 := blk_frozen BK209.out 3
     have hfz10_4 := blk_frozen BK209.out 4
     go_wp2
     go_ret
     exact ⟨by first | rfl | (simp [errW_none, errW_some] <;> rfl) | (simp [*, errW_none, errW_some] <;> rfl), blx⟩
   ·rw [if_neg c4] at H
    have c4b0 : decide (x6_1 < (l0_4.length : Int)) = false := decide_eq_false c4
    clear c4
    obtain rfl := Option.some.inj H
    have hcz11_0 : wr.cell? ⟨gb209, 0, none⟩ = some (.int .i64 a0_0) := (blk_cell BK209.out 0).trans rfl
    have hcz11_1 : wr.cell? ⟨gb209, 1, none⟩ = some (.int .i64 a0_1) := (blk_cell BK209.out 1).trans rfl
    have hcz11_2 : wr.cell? ⟨gb209, 2, none⟩ = some (.int .i64 a0_2) := (blk_cell BK209.out 2).trans rfl
    have hcz11_3 : wr.cell? ⟨gb209, 3, none⟩ = some (.int .i64 a0_3) := (blk_cell BK209.out 3).trans rfl
    have hcz11_4 : wr.cell? ⟨gb209, 4, none⟩ = some (.slice A0_4 l0_4.length c0_4) := (blk_cell BK209.out 4).trans rfl
    have hfz11_0 := blk_frozen BK209.out 0
    have hfz11_1 := blk_frozen BK209.out 1
    have hfz11_2 := blk_frozen BK209.out 2
    have hfz11_3 := blk_frozen BK209.out 3
    have hfz11_4 := blk_frozen BK209.out 4
    go_wp2
    go_ret
    exact ⟨by first | rfl | (simp [errW_none, errW_some] <;> rfl) | (simp [*, errW_none, errW_some] <;> rfl), blx⟩
end Go.Proofs.Ytpbdkkahodaloaa.PS
end

section
namespace Go.Proofs.Ytpbdkkahodaloaa.PS
open Go.RowKit Go.Proofs.YtpbdkkahodaloaaW.PrintWords Go.Proofs.YtpbdkkahodaloaaW.PrintLast Go.Proofs.YtpbdkkahodaloaaW.PrintMore
attribute [local go_sem] max2_int min2_int max_two min_two max_three min_three max_four min_four
set_option linter.unusedVariables false
set_option linter.unusedSimpArgs false
def levylaw7_same.f (l0 : List Int) (l1 : List Int) : Option (Bool) := some ((strOfNums l0).toList == (strOfNums l1).toList)
set_option maxHeartbeats 8000000 in
set_option maxRecDepth 100000 in
theorem levylaw7_same.calls (A0 : Option Addr) (c0 : Nat) (l0 : List Int) (A1 : Option Addr) (c1 : Nat) (l1 : List Int) (r : Bool) (w : World) (hr0 : Kd.C (Kd.int .u8) w A0 l0.length l0) (hc0 : l0.length ≤ c0) (hr1 : Kd.C (Kd.int .u8) w A1 l1.length l1) (hc1 : l1.length ≤ c1) (h : levylaw7_same.f l0 l1 = some r) :
  Calls Try.prog 19 #[.slice A0 l0.length c0, .slice A1 l1.length c1] w fun e w' => e = .returned (.bool r) ∧ Drawn0 w w' := by
 have HR0 := Aside0.mk hr0
 have HC0 := Aside0.mk hc0
 clear hr0 hc0
 have HR1 := Aside0.mk hr1
 have HC1 := Aside0.mk hc1
 clear hr1 hc1
 have H : (some ((strOfNums l0).toList == (strOfNums l1).toList)) = some r := h
 clear h
 obtain rfl := Option.some.inj H
 have hcv3 := Kd.C_string (P := Try.prog) (A := A0) (c := c0) Try.underlying23 Try.underlying5 Try.underlying9 HR0.out
 have hcv4 := Kd.C_string (P := Try.prog) (A := A1) (c := c1) Try.underlying23 Try.underlying5 Try.underlying9 HR1.out
 go_enter Try.func19, Try.ntmps19
 go_wp2
 go_ret
 exact ⟨by first | rfl | (simp; done) | (simp [*]; done), by repeat (first | exact Drawn0.refl _ | apply Drawn0.step)⟩
end Go.Proofs.Ytpbdkkahodaloaa.PS
end

section
namespace Go.Proofs.Ytpbdkkahodaloaa.PS
open Go.RowKit Go.Proofs.YtpbdkkahodaloaaW.PrintWords Go.Proofs.YtpbdkkahodaloaaW.PrintLast Go.Proofs.YtpbdkkahodaloaaW.PrintMore
attribute [local go_sem] max2_int min2_int max_two min_two max_three min_three max_four min_four
set_option linter.unusedVariables false
set_option linter.unusedSimpArgs false
def levylaw7_num.f (a0 : Int) : Option (Int) := some a0
set_option maxHeartbeats 8000000 in
set_option maxRecDepth 100000 in
theorem levylaw7_num.calls (a0 : Int) (r : Int) (w : World) (h : levylaw7_num.f a0 = some r) :
  Calls Try.prog 18 #[.int .i64 a0] w fun e w' => e = .returned (.int .i64 r) ∧ Drawn0 w w' := by
 have H : (some a0) = some r := h
 clear h
 obtain rfl := Option.some.inj H
 go_enter Try.func18, Try.ntmps18
 go_wp2
 go_ret
 exact ⟨by first | rfl | (simp; done) | (simp [*]; done), by repeat (first | exact Drawn0.refl _ | apply Drawn0.step)⟩
end Go.Proofs.Ytpbdkkahodaloaa.PS
end

section
namespace Go.Proofs.Ytpbdkkahodaloaa.PS
open Go.RowKit Go.Proofs.YtpbdkkahodaloaaW.PrintWords Go.Proofs.YtpbdkkahodaloaaW.PrintLast Go.Proofs.YtpbdkkahodaloaaW.PrintMore
attribute [local go_sem] max2_int min2_int max_two min_two max_three min_three max_four min_four
set_option linter.unusedVariables false
set_option linter.unusedSimpArgs false
def pack_Sum.l0 : Nat → Int → List Int → Int → Int → Option (Int)
 | 0, _, _, _, _ => none
 | k + 1, x3, x6, x7, x8 => if x8 < x7 then (if 0 ≤ x8 then (if x8 < (x6.length : Int) then (pack_Sum.l0 k (((Go.bits .xor .u32 x3 ((rd x6 x8) % 4294967296)) * 16777619) % 4294967296) x6 x7 (wrap64 (x8 + 1))) else (none)) else (none)) else (some x3)
def pack_Sum.f (k : Nat) (l0 : List Int) : Option (Int) := pack_Sum.l0 k 2166136261 l0 (l0.length : Int) 0
theorem pack_Sum.mono_l : ∀ k, (∀ y0 y1 y2 y3, LeO (pack_Sum.l0 k y0 y1 y2 y3) (pack_Sum.l0 (k + 1) y0 y1 y2 y3))
 | 0 => fun _ _ _ _ r h => by simp [pack_Sum.l0] at h
 | k + 1 => by
  have ih0 := pack_Sum.mono_l k
  ·intro y0 y1 y2 y3
   unfold pack_Sum.l0
   repeat' first
   | (with_reducible exact ih0 _ _ _ _)
   | (with_reducible exact LeO.refl _)
   | (with_reducible exact LeO.none _)
   | (with_reducible refine LeO.ite ?_ ?_)
   | (with_reducible refine LeO.bind ?_ (fun _ => ?_))
   | exact ih0 _ _ _ _
   | exact LeO.none _
   | refine LeO.ite ?_ ?_
   | refine LeO.bind ?_ (fun _ => ?_)
theorem pack_Sum.mono : ∀ a0 k, LeO (pack_Sum.f k a0) (pack_Sum.f (k + 1) a0) := by
 intro a0 k
 have ih0 := pack_Sum.mono_l k
 unfold pack_Sum.f
 repeat' first
   | (with_reducible exact ih0 _ _ _ _)
   | (with_reducible exact LeO.refl _)
   | (with_reducible exact LeO.none _)
   | (with_reducible refine LeO.ite ?_ ?_)
   | (with_reducible refine LeO.bind ?_ (fun _ => ?_))
   | exact ih0 _ _ _ _
   | exact LeO.none _
   | refine LeO.ite ?_ ?_
   | refine LeO.bind ?_ (fun _ => ?_)
set_option maxHeartbeats 8000000 in
set_option maxRecDepth 100000 in
theorem pack_Sum.calls (k : Nat) (A0 : Option Addr) (c0 : Nat) (l0 : List Int) (r : Int) (w : World) (hr0 : Kd.C (Kd.int .u8) w A0 l0.length l0) (hc0 : l0.length ≤ c0) (h : pack_Sum.f k l0 = some r) :
  Calls Try.prog 12 #[.slice A0 l0.length c0] w fun e w' => e = .returned (.int .u32 r) ∧ Drawn0 w w' := by
 have HR0 := Aside0.mk hr0
 have HC0 := Aside0.mk hc0
 clear hr0 hc0
 have H : (pack_Sum.l0 k 2166136261 l0 (l0.length : Int) 0) = some r := h
 clear h
 have H' := Aside0.mk H
 clear H
 go_enter Try.func12, Try.ntmps12
 go_wp2
 go_loopg [3, 8] k (fun kq v3 v8 w' => ∃ (x3_1 : Int) (x8_1 : Int), v3 = .int .u32 x3_1 ∧ v8 = .int .i64 x8_1 ∧ Aside0 (pack_Sum.l0 kq x3_1 l0 (l0.length : Int) x8_1 = some r) ∧ Aside0 (kq ≤ k) ∧ Drawn0 w w')
 case atStart => exact ⟨(2166136261), (0), (by first | rfl | (simp; done) | (simp [*]; done)), (by first | rfl | (simp; done) | (simp [*]; done)), H', ⟨Nat.le_refl _⟩, by repeat (first | exact Drawn0.refl _ | apply Drawn0.step)⟩
 case round =>
  clear H'
  try clear c1
  obtain ⟨x3_1, x8_1, rfl, rfl, HA, HK1, ⟨m1, rfl⟩⟩ := hrel
  cases gk with
  | zero => exact absurd HA.out (by simp [pack_Sum.l0])
  | succ k1 =>
   have H := HA.out
   clear HA
   simp only [pack_Sum.l0] at H
   by_cases c2 : x8_1 < (l0.length : Int)
   ·rw [if_pos c2] at H
    have c2b0 : decide (x8_1 < (l0.length : Int)) = true := decide_eq_true c2
    clear c2
    by_cases c3 : 0 ≤ x8_1
    ·rw [if_pos c3] at H
     have c3b0 : decide (0 ≤ x8_1) = true := decide_eq_true c3
     clear c3
     by_cases c4 : x8_1 < (l0.length : Int)
     ·rw [if_pos c4] at H
      have c4b0 : decide (x8_1 < (l0.length : Int)) = true := decide_eq_true c4
      clear c4
      have H' := Aside0.mk H
      clear H
      have p101 : 0 ≤ (x8_1 : Int) := odx
      have q101 : x8_1 < (l0.length : Int) := odx
      obtain ⟨ad101, e101, hx101_0⟩ := Kd.at_int HR0.out x8_1 p101 q101
      cases e101
      replace p101 := eq_true p101
      replace q101 := eq_true q101
      go_wp2
      go_roundg k1
      case measure => have := HK1.out; omega
      case rel => exact ⟨(((Go.bits .xor .u32 x3_1 ((rd l0 x8_1) % 4294967296)) * 16777619) % 4294967296), (wrap64 (x8_1 + 1)), (by first | rfl | (simp; done) | (simp [*]; done)), (by first | rfl | (simp; done) | (simp [*]; done)), H', ⟨by have := HK1.out; omega⟩, by repeat (first | exact Drawn0.refl _ | apply Drawn0.step)⟩
     ·rw [if_neg c4] at H
      exact absurd H (by simp)
    ·rw [if_neg c3] at H
     exact absurd H (by simp)
   ·rw [if_neg c2] at H
    have c2b0 : decide (x8_1 < (l0.length : Int)) = false := decide_eq_false c2
    clear c2
    obtain rfl := Option.some.inj H
    go_wp2
    go_ret
    exact ⟨by first | rfl | (simp; done) | (simp [*]; done), by repeat (first | exact Drawn0.refl _ | apply Drawn0.step)⟩
end Go.Proofs.Ytpbdkkahodaloaa.PS
end

section
namespace Go.Proofs.Ytpbdkkahodaloaa.U
open Go.RowKit Go.Proofs.Ytpbdkkahodaloaa.PS Go.Proofs.YtpbdkkahodaloaaW.PrintWords Go.Proofs.YtpbdkkahodaloaaW.PrintMore
set_option linter.unusedVariables false
def sumI (h : Int) : List Int → Int
  | [] => h
  | c :: l => sumI (((bits .xor .u32 h (c % 4294967296)) * 16777619) % 4294967296) l
theorem rdrop {l : List Int} {i : Nat} (h : i < l.length) : l.drop i = rd l i :: l.drop (i + 1) := by
  rw [List.drop_eq_getElem_cons h]
  simp [rd, List.getD_eq_getElem?_getD, List.getElem?_eq_getElem h]
theorem sum_from (l : List Int) (hn : l.length ≤ 9223372036854775806) : ∀ (d i : Nat) (h : Int), i + d = l.length → Ev (fun k => pack_Sum.l0 k h l (l.length : Int) (i : Int)) (sumI h (l.drop i))
  | 0, i, h, hi => by
    rw [List.drop_of_length_le (by omega)]
    refine Ev.step (f := fun _ => some h) (fun k => ?_) (Ev.now _)
    simp only [pack_Sum.l0]
    rw [if_neg (by omega)]
  | d + 1, i, h, hi => by
    have hw : wrap64 ((i : Int) + 1) = ((i + 1 : Nat) : Int) := by unfold wrap64; omega
    rw [rdrop (by omega : i < l.length)]
    refine Ev.step (fun k => ?_) (sum_from l hn d (i + 1) _ (by omega))
    simp only [pack_Sum.l0]
    rw [if_pos (by omega), if_pos (by omega), if_pos (by omega), hw]
theorem sum_any (l : List Int) (hn : l.length ≤ 9223372036854775806) : ∃ k, pack_Sum.f k l = some (sumI 2166136261 l) := by
  obtain ⟨k, hk⟩ := sum_from l hn l.length 0 2166136261 (by omega)
  exact ⟨k, hk k (Nat.le_refl _)⟩
structure Pk where
  name : ByteArray
  year : Int
  options : List S97
  tables : List S72
  groups : List S69
  lines : List S77
  checks : List S82
end Go.Proofs.Ytpbdkkahodaloaa.U
end

section
namespace Go.Proofs.Ytpbdkkahodaloaa.T
open Go.RowKit Go.Proofs.Ytpbdkkahodaloaa.PS Go.Proofs.Ytpbdkkahodaloaa.U Go.Proofs.YtpbdkkahodaloaaW.PrintWords Go.Proofs.YtpbdkkahodaloaaW.PrintMore
set_option linter.unusedVariables false
inductive WideE : S80 → Prop
  | mk (x : S80) : x.f4.length ≤ 9223372036854775807 → (∀ a ∈ x.f4, WideE a) → WideE x
theorem wide_of : ∀ (n : Nat) (x : S80) (w : World) (cs : List Value), SizeOf.sizeOf x < n → k80.K w x cs → WideE x
  | 0, x, w, cs, h, _ => absurd h (Nat.not_lt_zero _)
  | n + 1, ⟨a0, a1, a2, a3, l⟩, w, cs, h, hK => by
    obtain ⟨A4, c4, _, _, hC⟩ := k80_open hK
    refine .mk _ hC.2.1 (fun a ha => ?_)
    obtain ⟨i, hi⟩ := List.getElem?_of_mem ha
    have hi0 := (List.getElem?_eq_some_iff.1 hi).1
    obtain ⟨ad, c, _, _, hKa, _⟩ := Kd.C_get hC z80 (i : Int) (by omega) (by omega)
    have e : (l.getD (i : Int).toNat z80) = a := by rw [Int.toNat_natCast, List.getD_eq_getElem?_getD, hi]; rfl
    have hKa : k80.K w (l.getD (i : Int).toNat z80) c := hKa
    rw [e] at hKa
    refine wide_of n a w c ?_ hKa
    have s1 : SizeOf.sizeOf a < SizeOf.sizeOf l := List.sizeOf_lt_of_mem ha
    have s2 : SizeOf.sizeOf (⟨a0, a1, a2, a3, l⟩ : S80) = 1 + SizeOf.sizeOf a0 + SizeOf.sizeOf a1 + SizeOf.sizeOf a2 + SizeOf.sizeOf a3 + SizeOf.sizeOf l := S80.mk.sizeOf_spec a0 a1 a2 a3 l
    omega
theorem wide_list {w : World} {A : Option Addr} {n : Nat} {l : List S80} (hC : Kd.C k80 w A n l) (hn : l.length = n) : n ≤ 9223372036854775807 ∧ ∀ a ∈ l, WideE a := by
  refine ⟨hC.2.1, fun a ha => ?_⟩
  obtain ⟨i, hi⟩ := List.getElem?_of_mem ha
  have hi0 := (List.getElem?_eq_some_iff.1 hi).1
  obtain ⟨ad, c, _, _, hKa, _⟩ := Kd.C_get hC z80 (i : Int) (by omega) (by omega)
  have e : (l.getD (i : Int).toNat z80) = a := by rw [Int.toNat_natCast, List.getD_eq_getElem?_getD, hi]; rfl
  have hKa : k80.K w (l.getD (i : Int).toNat z80) c := hKa
  rw [e] at hKa
  exact wide_of _ a w c (Nat.lt_succ_self _) hKa
theorem rdT80 {l : List S80} {i : Nat} {a : S80} (h : l[i]? = some a) : rd_T80 l (i : Int) = a := by
  unfold rd_T80; rw [Int.toNat_natCast, List.getD_eq_getElem?_getD, h]; rfl
theorem same_from (a0 a1 a2 a3 b0 b1 b2 b3 : Int) (l m : List S80) (hl : l.length ≤ 9223372036854775807) (hm : l.length = m.length)
    (ih : ∀ a ∈ l, ∀ y : S80, ∃ v, Ev (fun k => levylaw7_sameExpr.f k a.f0 a.f1 a.f2 a.f3 a.f4 y.f0 y.f1 y.f2 y.f3 y.f4) v ∧ (v = true ↔ a = y)) :
    ∀ (d i : Nat), i + d = l.length → ∃ v, Ev (fun k => levylaw7_sameExpr.l0 k (i : Int) a0 a1 a2 a3 l b0 b1 b2 b3 m) v ∧ (v = true ↔ l.drop i = m.drop i)
  | 0, i, hi => by
    refine ⟨true, Ev.step (f := fun _ => some true) (fun k => ?_) (Ev.now _), ?_⟩
    · simp only [levylaw7_sameExpr.l0]
      rw [if_neg (by omega)]
    · rw [List.drop_of_length_le (by omega), List.drop_of_length_le (by omega)]; simp
  | d + 1, i, hi => by
    obtain ⟨a, ha⟩ : ∃ a, l[i]? = some a := ⟨_, List.getElem?_eq_getElem (by omega)⟩
    obtain ⟨b, hb⟩ : ∃ b, m[i]? = some b := ⟨_, List.getElem?_eq_getElem (by omega)⟩
    have hw : wrap64 ((i : Int) + 1) = ((i + 1 : Nat) : Int) := by unfold wrap64; omega
    obtain ⟨v, hv, hvi⟩ := ih a (List.mem_of_getElem? ha) b
    obtain ⟨u, hu, hui⟩ := same_from a0 a1 a2 a3 b0 b1 b2 b3 l m hl hm ih d (i + 1) (by omega)
    have dl : l.drop i = a :: l.drop (i + 1) := by
      rw [List.drop_eq_getElem_cons (by omega), (List.getElem?_eq_some_iff.1 ha).2]
    have dm : m.drop i = b :: m.drop (i + 1) := by
      rw [List.drop_eq_getElem_cons (by omega), (List.getElem?_eq_some_iff.1 hb).2]
    refine ⟨v && u, ?_, ?_⟩
    · refine Ev.step (fun k => ?_) (Ev.bind (f := fun k t => if t = true then levylaw7_sameExpr.l0 k ((i + 1 : Nat) : Int) a0 a1 a2 a3 l b0 b1 b2 b3 m else some false) hv ?_)
      · simp only [levylaw7_sameExpr.l0]
        rw [if_pos (by omega), if_pos (by omega), if_pos (by omega), rdT80 ha, rdT80 hb, hw]
      · cases v with
        | true => simpa using hu
        | false => simpa using Ev.now false
    · rw [dl, dm, List.cons.injEq, Bool.and_eq_true, hvi, hui]
theorem same_ev {x : S80} (hx : WideE x) : ∀ y : S80, ∃ v, Ev (fun k => levylaw7_sameExpr.f k x.f0 x.f1 x.f2 x.f3 x.f4 y.f0 y.f1 y.f2 y.f3 y.f4) v ∧ (v = true ↔ x = y) := by
  induction hx with
  | mk x hl _ ih =>
    obtain ⟨x0, x1, x2, x3, l⟩ := x
    intro y
    obtain ⟨y0, y1, y2, y3, m⟩ := y
    have no : ∀ (z0 z1 z2 z3 : Int) (n : List S80), Ev (fun k => levylaw7_sameExpr.j0 k true x0 x1 x2 x3 l z0 z1 z2 z3 n) false := fun z0 z1 z2 z3 n => by
      refine Ev.step (f := fun _ => some false) (fun k => ?_) (Ev.now _)
      simp only [levylaw7_sameExpr.j0]; rfl
    by_cases h : x0 = y0 ∧ x1 = y1 ∧ x2 = y2 ∧ x3 = y3 ∧ l.length = m.length
    · obtain ⟨rfl, rfl, rfl, rfl, hm⟩ := h
      obtain ⟨v, hv, hvi⟩ := same_from x0 x1 x2 x3 x0 x1 x2 x3 l m hl hm ih l.length 0 (by omega)
      refine ⟨v, ?_, ?_⟩
      · refine Ev.step (f := fun k => levylaw7_sameExpr.j0 k false x0 x1 x2 x3 l x0 x1 x2 x3 m) (fun k => ?_) (Ev.step (f := fun k => levylaw7_sameExpr.l0 k 0 x0 x1 x2 x3 l x0 x1 x2 x3 m) (fun k => ?_) hv)
        · simp only [levylaw7_sameExpr.f]
          rw [if_pos trivial, if_pos trivial, if_pos trivial, if_pos trivial, hm]
          rw [show ((m.length : Int) != (m.length : Int)) = false by simp]
        · simp only [levylaw7_sameExpr.j0]
          rw [if_neg (by simp)]
      · rw [hvi]; simp
    · refine ⟨false, ?_, ?_⟩
      · refine Ev.step (f := fun k => levylaw7_sameExpr.j0 k true x0 x1 x2 x3 l y0 y1 y2 y3 m) (fun k => ?_) (no _ _ _ _ _)
        simp only [levylaw7_sameExpr.f]
        by_cases h0 : x0 = y0
        · rw [if_pos h0]
          by_cases h1 : x1 = y1
          · rw [if_pos h1]
            by_cases h2 : x2 = y2
            · rw [if_pos h2]
              by_cases h3 : x3 = y3
              · rw [if_pos h3]
                have hne : ((l.length : Int) != (m.length : Int)) = true := by
                  have : ¬ l.length = m.length := fun e => h ⟨h0, h1, h2, h3, e⟩
                  simp; omega
                rw [hne]
              · rw [if_neg h3]
            · rw [if_neg h2]
          · rw [if_neg h1]
        · rw [if_neg h0]
      · constructor
        · intro h; cases h
        · intro e; exact absurd (by cases e; exact ⟨rfl, rfl, rfl, rfl, rfl⟩) h
theorem nodes_from (most a0 a1 a2 a3 : Int) (l : List S80) (hl : l.length ≤ 9223372036854775807)
    (ih : ∀ a ∈ l, ∀ m : Int, ∃ v, Ev (fun k => levylaw7_nodes.f k a.f0 a.f1 a.f2 a.f3 a.f4 m) v) :
    ∀ (d i : Nat) (n : Int), i + d = l.length → ∃ v, Ev (fun k => levylaw7_nodes.l0 k most n (i : Int) a0 a1 a2 a3 l) v
  | 0, i, n, hi => by
    refine ⟨n, Ev.step (f := fun _ => some n) (fun k => ?_) (Ev.now _)⟩
    simp only [levylaw7_nodes.l0]
    rw [if_neg (by omega)]
  | d + 1, i, n, hi => by
    obtain ⟨a, ha⟩ : ∃ a, l[i]? = some a := ⟨_, List.getElem?_eq_getElem (by omega)⟩
    have hw : wrap64 ((i : Int) + 1) = ((i + 1 : Nat) : Int) := by unfold wrap64; omega
    by_cases h : n ≤ most
    · obtain ⟨v, hv⟩ := ih a (List.mem_of_getElem? ha) (wrap64 (most - n))
      obtain ⟨u, hu⟩ := nodes_from most a0 a1 a2 a3 l hl ih d (i + 1) (wrap64 (n + v)) (by omega)
      refine ⟨u, Ev.step (fun k => ?_) (Ev.bind (f := fun k t => levylaw7_nodes.l0 k most (wrap64 (n + t)) ((i + 1 : Nat) : Int) a0 a1 a2 a3 l) hv hu)⟩
      simp only [levylaw7_nodes.l0]
      rw [if_pos (by omega), if_pos h, if_pos (by omega), rdT80 ha, hw]
    · refine ⟨n, Ev.step (f := fun _ => some n) (fun k => ?_) (Ev.now _)⟩
      simp only [levylaw7_nodes.l0]
      rw [if_pos (by omega), if_neg h]
theorem nodes_ev {x : S80} (hx : WideE x) : ∀ m : Int, ∃ v, Ev (fun k => levylaw7_nodes.f k x.f0 x.f1 x.f2 x.f3 x.f4 m) v := by
  induction hx with
  | mk x hl _ ih =>
    intro m
    obtain ⟨v, hv⟩ := nodes_from m x.f0 x.f1 x.f2 x.f3 x.f4 hl ih x.f4.length 0 1 (by omega)
    refine ⟨v, Ev.step (fun k => ?_) hv⟩
    simp only [levylaw7_nodes.f]; rfl
def SamePost {α : Type} (a b : α) (w : World) (e : Ending) (w' : World) : Prop := ∃ v, e = .returned (.bool v) ∧ (v = true ↔ a = b) ∧ Below w.heap.size w w'
theorem expr_same (x y : S80) (A : Option Addr) (c : Nat) (B : Option Addr) (d : Nat) (w : World) (hx : k80.C w A x.f4.length x.f4) (hc : x.f4.length ≤ c) (hy : k80.C w B y.f4.length y.f4) (hd : y.f4.length ≤ d) :
    Calls Try.prog 59 #[.agg #[.int .i64 x.f0, .int .i64 x.f1, .int .i64 x.f2, .int .i64 x.f3, .slice A x.f4.length c], .agg #[.int .i64 y.f0, .int .i64 y.f1, .int .i64 y.f2, .int .i64 y.f3, .slice B y.f4.length d]] w (SamePost x y w) := by
  obtain ⟨h1, h2⟩ := wide_list hx rfl
  obtain ⟨v, hv, hvi⟩ := same_ev (.mk x h1 h2) y
  obtain ⟨k, hk⟩ := hv.rounds
  refine (levylaw7_sameExpr.calls k x.f0 x.f1 x.f2 x.f3 A c x.f4 y.f0 y.f1 y.f2 y.f3 B d y.f4 v w hx hc hy hd hk).mono ?_
  rintro e w' ⟨rfl, hb⟩
  exact ⟨v, rfl, hvi, hb⟩
def Lies (w : World) (u : Value) (p : Pk) : Prop := ∃ A2 c2 A3 c3 A4 c4 A5 c5 A6 c6, u = .agg #[.string p.name, .int .i64 p.year, .slice A2 p.options.length c2, .slice A3 p.tables.length c3, .slice A4 p.groups.length c4, .slice A5 p.lines.length c5, .slice A6 p.checks.length c6] ∧
  k97.C w A2 p.options.length p.options ∧ k72.C w A3 p.tables.length p.tables ∧ k69.C w A4 p.groups.length p.groups ∧ k77.C w A5 p.lines.length p.lines ∧ k82.C w A6 p.checks.length p.checks ∧ p.options.length ≤ c2 ∧ p.tables.length ≤ c3 ∧ p.groups.length ≤ c4 ∧ p.lines.length ≤ c5 ∧ p.checks.length ≤ c6
theorem Lies.below {w w' : World} {u : Value} {p : Pk} (h : Lies w u p) (hb : Below w.heap.size w w') : Lies w' u p := by
  obtain ⟨A2, c2, A3, c3, A4, c4, A5, c5, A6, c6, rfl, h2, h3, h4, h5, h6, h7⟩ := h
  exact ⟨A2, c2, A3, c3, A4, c4, A5, c5, A6, c6, rfl, Kd.C_below h2 hb, Kd.C_below h3 hb, Kd.C_below h4 hb, Kd.C_below h5 hb, Kd.C_below h6 hb, h7⟩
end Go.Proofs.Ytpbdkkahodaloaa.T
end

section
namespace Go.Proofs.Ytpbdkkahodaloaa.PS
open Go.RowKit Go.Proofs.YtpbdkkahodaloaaW.PrintWords Go.Proofs.YtpbdkkahodaloaaW.PrintLast Go.Proofs.YtpbdkkahodaloaaW.PrintMore
attribute [local go_sem] max2_int min2_int max_two min_two max_three min_three max_four min_four
set_option linter.unusedVariables false
set_option linter.unusedSimpArgs false
def IsS151 (w0 W : World) (g : Nat) (f0 : List Int) (f1 : Int) (f2 : Int) (f3 : Int) : Prop := ∃ A0 c0, W.heap[g]? = some (.cells #[.slice A0 f0.length c0, .int .i64 f1, .int .i64 f2, .int .i64 f3] 151 (0, 0)) ∧ w0.heap.size ≤ g ∧ Kd.C (Kd.int .u8) w0 A0 f0.length f0 ∧ f0.length ≤ c0
theorem IsS151.grown {w0 W : World} {g : Nat} {f0 : List Int} {f1 : Int} {f2 : Int} {f3 : Int} {W1 : World} {row : Option Nat} (h : IsS151 w0 W g f0 f1 f2 f3) (hw : W.grownBy W1 row) (hne : some g ≠ row) : IsS151 w0 W1 g f0 f1 f2 f3 := by
 obtain ⟨A0, c0, hb, hg, hr0⟩ := h
 exact ⟨A0, c0, blk_grown hb hw hne, hg, hr0⟩
theorem IsS151.own_neN {w0 W : World} {g : Nat} {f0 : List Int} {f1 : Int} {f2 : Int} {f3 : Int} {α : Type} {d : Kd α} {e : Nat} {base : Nat} {ok : Nat → Prop} {v : Value} {xs : List α} (h : IsS151 w0 W g f0 f1 f2 f3) (ho : Kd.N d e W base ok v xs) (ht : e ≠ 151) : some g ≠ v.ownBlock := by
 obtain ⟨A0, c0, hb, hg, hr0⟩ := h
 exact Kd.N_ne ho hb ht
theorem IsS151.fresh {w0 W : World} {g : Nat} {f0 : List Int} {f1 : Int} {f2 : Int} {f3 : Int} (h : IsS151 w0 W g f0 f1 f2 f3) : ∀ k, W.heap.size ≤ k → k ≠ g := by
 obtain ⟨A0, c0, hb, hg, hr0⟩ := h
 exact Kd.freshB hb
theorem IsS151.kept {w0 W : World} {g : Nat} {f0 : List Int} {f1 : Int} {f2 : Int} {f3 : Int} {W1 : World} {S : Nat → Prop} (h : IsS151 w0 W g f0 f1 f2 f3) (hk : Kept W W1 S) (hne : ¬ S g) : IsS151 w0 W1 g f0 f1 f2 f3 := by
 obtain ⟨A0, c0, hb, hg, hr0⟩ := h
 exact ⟨A0, c0, blk_kept hb hk hne, hg, hr0⟩
theorem IsS151.below {w0 W : World} {g : Nat} {f0 : List Int} {f1 : Int} {f2 : Int} {f3 : Int} {W1 : World} (h : IsS151 w0 W g f0 f1 f2 f3) (hw : Below W.heap.size W W1) : IsS151 w0 W1 g f0 f1 f2 f3 := h.grown (grown_of_below hw none) (by simp)
theorem IsS151.alloc {w0 W : World} {g : Nat} {f0 : List Int} {f1 : Int} {f2 : Int} {f3 : Int} (h : IsS151 w0 W g f0 f1 f2 f3) (o : Obj) : IsS151 w0 (W.alloc o) g f0 f1 f2 f3 := h.below (below_alloc (Below.refl _ _) o)
theorem IsS151.drewN {w0 W : World} {g : Nat} {f0 : List Int} {f1 : Int} {f2 : Int} {f3 : Int} (h : IsS151 w0 W g f0 f1 f2 f3) (m : Nat) : IsS151 w0 (W.drewN m) g f0 f1 f2 f3 := h
theorem IsS151.drew {w0 W : World} {g : Nat} {f0 : List Int} {f1 : Int} {f2 : Int} {f3 : Int} (h : IsS151 w0 W g f0 f1 f2 f3) : IsS151 w0 W.drew g f0 f1 f2 f3 := h
theorem IsS151.at_ {w0 W : World} {g : Nat} {f0 : List Int} {f1 : Int} {f2 : Int} {f3 : Int} {w' : World} {m : Nat} (hq : W.drewN m = w') (h : IsS151 w0 W g f0 f1 f2 f3) : IsS151 w0 w' g f0 f1 f2 f3 := by subst hq; exact IsS151.drewN h m
theorem IsS151.apart {w0 W : World} {g : Nat} {f0 : List Int} {f1 : Int} {f2 : Int} {f3 : Int} {α : Type} {d : Kd α} {e : Nat} {base : Nat} {ok : Nat → Prop} {v : Value} {xs : List α} (h : IsS151 w0 W g f0 f1 f2 f3) (ho : d.R e W base ok v xs) (ht : ∀ q, q ∈ e :: d.E → q ≠ 151) : d.R e W base (fun k => ok k ∧ k ≠ g) v xs := by
 obtain ⟨A0, c0, hb, hg, hr0⟩ := h
 exact Kd.R_types ho hb ht
theorem IsS151.own_ne {w0 W : World} {g : Nat} {f0 : List Int} {f1 : Int} {f2 : Int} {f3 : Int} {α : Type} {d : Kd α} {e : Nat} {base : Nat} {ok : Nat → Prop} {v : Value} {xs : List α} (h : IsS151 w0 W g f0 f1 f2 f3) (ho : d.R e W base ok v xs) (ht : e ≠ 151) : some g ≠ v.ownBlock := by
 obtain ⟨A0, c0, hb, hg, hr0⟩ := h
 exact Kd.R_ne ho hb ht
theorem IsS151.apartQ {w0 W : World} {g : Nat} {f0 : List Int} {f1 : Int} {f2 : Int} {f3 : Int} {α : Type} {d : Kd α} {e : Nat} {base : Nat} {ok : Nat → Prop} {v : Value} {xs : List α} (h : IsS151 w0 W g f0 f1 f2 f3) (ho : d.Q e W base ok v xs) (ht : ∀ q, q ∈ e :: d.E → q ≠ 151) : d.Q e W base (fun k => ok k ∧ k ≠ g) v xs := by
 obtain ⟨A0, c0, hb, hg, hr0⟩ := h
 exact Kd.Q_types ho hb ht
theorem IsS151.own_neQ {w0 W : World} {g : Nat} {f0 : List Int} {f1 : Int} {f2 : Int} {f3 : Int} {α : Type} {d : Kd α} {e : Nat} {base : Nat} {ok : Nat → Prop} {v : Value} {xs : List α} (h : IsS151 w0 W g f0 f1 f2 f3) (ho : d.Q e W base ok v xs) (ht : e ≠ 151) : some g ≠ v.ownBlock := by
 obtain ⟨A0, c0, hb, hg, hr0⟩ := h
 exact Kd.Q_ne ho hb ht
theorem IsS151.apartS {w0 W : World} {g : Nat} {f0 : List Int} {f1 : Int} {f2 : Int} {f3 : Int} {α : Type} {d : Kd α} {e : Nat} {base : Nat} {ok : Nat → Prop} {v : Value} {xs : List α} (h : IsS151 w0 W g f0 f1 f2 f3) (ho : d.S e W base ok v xs) (ht : ∀ q, q ∈ e :: d.E → q ≠ 151) : d.S e W base (fun k => ok k ∧ k ≠ g) v xs := by
 obtain ⟨A0, c0, hb, hg, hr0⟩ := h
 exact Kd.S_types ho hb ht
theorem IsS151.own_neS {w0 W : World} {g : Nat} {f0 : List Int} {f1 : Int} {f2 : Int} {f3 : Int} {α : Type} {d : Kd α} {e : Nat} {base : Nat} {ok : Nat → Prop} {v : Value} {xs : List α} (h : IsS151 w0 W g f0 f1 f2 f3) (ho : d.S e W base ok v xs) (ht : e ≠ 151) : some g ≠ v.ownBlock := by
 obtain ⟨A0, c0, hb, hg, hr0⟩ := h
 exact Kd.S_ne ho hb ht
theorem IsS151.lt {w0 W : World} {g : Nat} {f0 : List Int} {f1 : Int} {f2 : Int} {f3 : Int} (h : IsS151 w0 W g f0 f1 f2 f3) : g < W.heap.size := by
 obtain ⟨A0, c0, hb, hg, hr0⟩ := h
 exact blk_lt hb
theorem IsS151.ge {w0 W : World} {g : Nat} {f0 : List Int} {f1 : Int} {f2 : Int} {f3 : Int} (h : IsS151 w0 W g f0 f1 f2 f3) : w0.heap.size ≤ g := by
 obtain ⟨A0, c0, hb, hg, hr0⟩ := h
 exact hg
theorem IsS151.ne_blk {w0 W : World} {g : Nat} {f0 : List Int} {f1 : Int} {f2 : Int} {f3 : Int} {a : Nat} {cs : Array Value} {t : TypeId} {fr : Nat × Nat} (h : IsS151 w0 W g f0 f1 f2 f3) (hb2 : W.heap[a]? = some (.cells cs t fr)) (ht : t ≠ 151) : g ≠ a := by
 obtain ⟨A0, c0, hb, hg, hr0⟩ := h
 rintro rfl
 rw [hb] at hb2
 injection hb2 with hb2
 injection hb2 with _ ht2
 exact ht ht2.symm
theorem IsS151.far {w0 W : World} {g : Nat} {f0 : List Int} {f1 : Int} {f2 : Int} {f3 : Int} {p : Addr} (h : IsS151 w0 W g f0 f1 f2 f3) (hne : g ≠ p.block) (u : Value) : IsS151 w0 (W.setCell p u) g f0 f1 f2 f3 := by
 obtain ⟨A0, c0, hb, hg, hr0⟩ := h
 exact ⟨A0, c0, blk_far hb hne u, hg, hr0⟩
theorem cellS151_0 {W : World} {g : Nat} {A0 : Option Addr} {c0 : Nat} {f0 : List Int} {f1 : Int} {f2 : Int} {f3 : Int} (h : W.heap[g]? = some (.cells #[.slice A0 f0.length c0, .int .i64 f1, .int .i64 f2, .int .i64 f3] 151 (0, 0))) : W.cell? ⟨g, 0, none⟩ = some (.slice A0 f0.length c0) := (blk_cell h 0).trans rfl
theorem cellS151_1 {W : World} {g : Nat} {A0 : Option Addr} {c0 : Nat} {f0 : List Int} {f1 : Int} {f2 : Int} {f3 : Int} (h : W.heap[g]? = some (.cells #[.slice A0 f0.length c0, .int .i64 f1, .int .i64 f2, .int .i64 f3] 151 (0, 0))) : W.cell? ⟨g, 1, none⟩ = some (.int .i64 f1) := (blk_cell h 1).trans rfl
theorem IsS151.set_1 {w0 W : World} {g : Nat} {f0 : List Int} {f1 : Int} {f2 : Int} {f3 : Int} (h : IsS151 w0 W g f0 f1 f2 f3) (x : Int) : IsS151 w0 (W.setCell ⟨g, 1, none⟩ (.int .i64 x)) g f0 x f2 f3 := by
 obtain ⟨A0, c0, hb, hg, hr0⟩ := h
 exact ⟨A0, c0, by simpa using blk_set hb 1 (.int .i64 x), hg, hr0⟩
theorem cellS151_2 {W : World} {g : Nat} {A0 : Option Addr} {c0 : Nat} {f0 : List Int} {f1 : Int} {f2 : Int} {f3 : Int} (h : W.heap[g]? = some (.cells #[.slice A0 f0.length c0, .int .i64 f1, .int .i64 f2, .int .i64 f3] 151 (0, 0))) : W.cell? ⟨g, 2, none⟩ = some (.int .i64 f2) := (blk_cell h 2).trans rfl
theorem IsS151.set_2 {w0 W : World} {g : Nat} {f0 : List Int} {f1 : Int} {f2 : Int} {f3 : Int} (h : IsS151 w0 W g f0 f1 f2 f3) (x : Int) : IsS151 w0 (W.setCell ⟨g, 2, none⟩ (.int .i64 x)) g f0 f1 x f3 := by
 obtain ⟨A0, c0, hb, hg, hr0⟩ := h
 exact ⟨A0, c0, by simpa using blk_set hb 2 (.int .i64 x), hg, hr0⟩
theorem cellS151_3 {W : World} {g : Nat} {A0 : Option Addr} {c0 : Nat} {f0 : List Int} {f1 : Int} {f2 : Int} {f3 : Int} (h : W.heap[g]? = some (.cells #[.slice A0 f0.length c0, .int .i64 f1, .int .i64 f2, .int .i64 f3] 151 (0, 0))) : W.cell? ⟨g, 3, none⟩ = some (.int .i64 f3) := (blk_cell h 3).trans rfl
theorem IsS151.set_3 {w0 W : World} {g : Nat} {f0 : List Int} {f1 : Int} {f2 : Int} {f3 : Int} (h : IsS151 w0 W g f0 f1 f2 f3) (x : Int) : IsS151 w0 (W.setCell ⟨g, 3, none⟩ (.int .i64 x)) g f0 f1 f2 x := by
 obtain ⟨A0, c0, hb, hg, hr0⟩ := h
 exact ⟨A0, c0, by simpa using blk_set hb 3 (.int .i64 x), hg, hr0⟩
theorem IsS151.new (w0 W : World) (A0 : Option Addr) (c0 : Nat) (f0 : List Int) (f1 : Int) (f2 : Int) (f3 : Int) (hB : Below w0.heap.size w0 W) (hr0 : Kd.C (Kd.int .u8) w0 A0 f0.length f0 ∧ f0.length ≤ c0) : IsS151 w0 (W.alloc (.cells #[.slice A0 f0.length c0, .int .i64 f1, .int .i64 f2, .int .i64 f3] 151)) W.heap.size f0 f1 f2 f3 := ⟨A0, c0, by simpa using heap_alloc_new W _, hB.size, hr0⟩
def pack_reader_fail.f (s0_0 : List Int) (s0_1 : Int) (s0_2 : Int) (s0_3 : Int) (a1 : Int) (a2 : Int) : Option (Int × Int × Int) := if s0_2 = 0 then (some (s0_1, a1, a2)) else (some (s0_1, s0_2, s0_3))
set_option maxHeartbeats 8000000 in
set_option maxRecDepth 100000 in
theorem pack_reader_fail.calls (g : Nat) (s0_0 : List Int) (s0_1 : Int) (s0_2 : Int) (s0_3 : Int) (a1 : Int) (a2 : Int) (r1 : Int) (r2 : Int) (r3 : Int) (w0 w : World) (hI : IsS151 w0 w g s0_0 s0_1 s0_2 s0_3) (hB : Below w0.heap.size w0 w) (h : pack_reader_fail.f s0_0 s0_1 s0_2 s0_3 a1 a2 = some (r1, r2, r3)) :
  Calls Try.prog 91 #[.pointer (some ⟨g, 0, none⟩), .int .i64 a1, .int .i64 a2] w fun e w' => e = .returned (.tuple #[]) ∧ IsS151 w0 w' g s0_0 r1 r2 r3 ∧ Below w0.heap.size w0 w' ∧ KeepBut w w' g none := by
 have HI0 := Aside0.mk hI
 have HK := Aside0.mk (KeepBut.refl w g none)
 have HL := Aside0.mk hB.size
 clear hI
 have HW0 := Aside0.mk hB.size
 have HB := Aside0.mk hB
 clear hB
 have H : (if s0_2 = 0 then (some (s0_1, a1, a2)) else (some (s0_1, s0_2, s0_3))) = some (r1, r2, r3) := h
 clear h
 by_cases c4 : s0_2 = 0
 ·rw [if_pos c4] at H
  have c4b0 : (s0_2 == 0) = true := beq_iff_eq.mpr c4
  have c4b1 : (s0_2 != 0) = false := bne_eq_false_iff_eq.mpr c4
  clear c4
  simp only [Option.some.injEq, Prod.mk.injEq] at H
  obtain ⟨rfl, rfl, rfl⟩ := H
  obtain ⟨ASz5_0, cSz5_0, HGz5, hgz5, HSz5_0, hcap_⟩ := HI0.out
  have hcz5_0 := cellS151_0 HGz5
  have hcz5_1 := cellS151_1 HGz5
  have hcz5_2 := cellS151_2 HGz5
  have hcz5_3 := cellS151_3 HGz5
  have hfz5_1 := blk_frozen HGz5 1
  have hfz5_2 := blk_frozen HGz5 2
  have hfz5_3 := blk_frozen HGz5 3
  clear HGz5 hgz5
  go_enter Try.func91, Try.ntmps91
  go_wp2
  first | go_end0 | ((try simp only [Exit.inBlock, Exit.then]); refine bodyPost_ret (results_none rfl _ _ _) rfl ?_)
  exact ⟨by first | rfl | (simp [errW_none, errW_some] <;> rfl) | (simp [*, errW_none, errW_some] <;> rfl), by repeat (first | (with_reducible first | exact HI0.out | apply IsS151.alloc | apply IsS151.drewN | apply IsS151.drew | apply IsS151.set_1 | apply IsS151.set_2 | apply IsS151.set_3) | exact HI0.out), by repeat (first | (with_reducible first | exact HB.out | apply below_alloc | apply pw_below_drewN | apply below_drew1 | refine below_set ?_ (IsS151.ge HI0.out)) | exact HB.out), by repeat (first | (with_reducible first | exact HK.out | apply KeepBut.set_ | apply keep_drewN | apply keep_drew | apply keep_alloc) | exact HK.out)⟩
 ·rw [if_neg c4] at H
  have c4b0 : (s0_2 == 0) = false := beq_eq_false_iff_ne.mpr c4
  have c4b1 : (s0_2 != 0) = true := bne_iff_ne.mpr c4
  simp only [Option.some.injEq, Prod.mk.injEq] at H
  obtain ⟨rfl, rfl, rfl⟩ := H
  obtain ⟨ASz6_0, cSz6_0, HGz6, hgz6, HSz6_0, hcap_⟩ := HI0.out
  have hcz6_0 := cellS151_0 HGz6
  have hcz6_1 := cellS151_1 HGz6
  have hcz6_2 := cellS151_2 HGz6
  have hcz6_3 := cellS151_3 HGz6
  have hfz6_1 := blk_frozen HGz6 1
  have hfz6_2 := blk_frozen HGz6 2
  have hfz6_3 := blk_frozen HGz6 3
  clear HGz6 hgz6
  go_enter Try.func91, Try.ntmps91
  go_wp2
  first | go_end0 | ((try simp only [Exit.inBlock, Exit.then]); refine bodyPost_ret (results_none rfl _ _ _) rfl ?_)
  exact ⟨by first | rfl | (simp [errW_none, errW_some] <;> rfl) | (simp [*, errW_none, errW_some] <;> rfl), by repeat (first | (with_reducible first | exact HI0.out | apply IsS151.alloc | apply IsS151.drewN | apply IsS151.drew | apply IsS151.set_1 | apply IsS151.set_2 | apply IsS151.set_3) | exact HI0.out), by repeat (first | (with_reducible first | exact HB.out | apply below_alloc | apply pw_below_drewN | apply below_drew1 | refine below_set ?_ (IsS151.ge HI0.out)) | exact HB.out), by repeat (first | (with_reducible first | exact HK.out | apply KeepBut.set_ | apply keep_drewN | apply keep_drew | apply keep_alloc) | exact HK.out)⟩
end Go.Proofs.Ytpbdkkahodaloaa.PS
end

section
namespace Go.Proofs.Ytpbdkkahodaloaa.PS
open Go.RowKit Go.Proofs.YtpbdkkahodaloaaW.PrintWords Go.Proofs.YtpbdkkahodaloaaW.PrintLast Go.Proofs.YtpbdkkahodaloaaW.PrintMore
attribute [local go_sem] max2_int min2_int max_two min_two max_three min_three max_four min_four
set_option linter.unusedVariables false
set_option linter.unusedSimpArgs false
def pack_reader_short.f (s0_0 : List Int) (s0_1 : Int) (s0_2 : Int) (s0_3 : Int) : Option (Int × Int × Int) := (pack_reader_fail.f s0_0 s0_1 s0_2 s0_3 70 (s0_0.length : Int)).bind fun bt138 => (some (bt138.1, bt138.2.1, bt138.2.2))
set_option maxHeartbeats 8000000 in
set_option maxRecDepth 100000 in
theorem pack_reader_short.calls (g : Nat) (s0_0 : List Int) (s0_1 : Int) (s0_2 : Int) (s0_3 : Int) (r1 : Int) (r2 : Int) (r3 : Int) (w0 w : World) (hI : IsS151 w0 w g s0_0 s0_1 s0_2 s0_3) (hB : Below w0.heap.size w0 w) (h : pack_reader_short.f s0_0 s0_1 s0_2 s0_3 = some (r1, r2, r3)) :
  Calls Try.prog 90 #[.pointer (some ⟨g, 0, none⟩)] w fun e w' => e = .returned (.tuple #[]) ∧ IsS151 w0 w' g s0_0 r1 r2 r3 ∧ Below w0.heap.size w0 w' ∧ KeepBut w w' g none := by
 have HI0 := Aside0.mk hI
 have HK := Aside0.mk (KeepBut.refl w g none)
 have HL := Aside0.mk hB.size
 clear hI
 have HW0 := Aside0.mk hB.size
 have HB := Aside0.mk hB
 clear hB
 have H : ((pack_reader_fail.f s0_0 s0_1 s0_2 s0_3 70 (s0_0.length : Int)).bind fun bt138 => (some (bt138.1, bt138.2.1, bt138.2.2))) = some (r1, r2, r3) := h
 clear h
 replace H := Option.bind_eq_some_iff.mp H
 obtain ⟨⟨t138, t139, t140⟩, A20, H⟩ := H
 replace H : (some (t138, t139, t140)) = some (r1, r2, r3) := H
 have A2 := Aside0.mk A20
 clear A20
 simp only [Option.some.injEq, Prod.mk.injEq] at H
 obtain ⟨rfl, rfl, rfl⟩ := H
 obtain ⟨ASz3_0, cSz3_0, HGz3, hgz3, HSz3_0, hcap_⟩ := HI0.out
 have hcz3_0 := cellS151_0 HGz3
 have hcz3_1 := cellS151_1 HGz3
 have hcz3_2 := cellS151_2 HGz3
 have hcz3_3 := cellS151_3 HGz3
 have hfz3_1 := blk_frozen HGz3 1
 have hfz3_2 := blk_frozen HGz3 2
 have hfz3_3 := blk_frozen HGz3 3
 clear HGz3 hgz3
 go_enter Try.func90, Try.ntmps90
 go_wp2_with (first | ((with_reducible refine gate_callee (f := 91) rfl ?_); refine goesL_ (some 8) rfl rfl Try.func91 (by kernel_rfl) rfl #[.pointer (some ⟨g, 0, none⟩), .int .i64 70, .int .i64 (s0_0.length : Int)] rfl agx ?_; (with_reducible refine (pack_reader_fail.calls g s0_0 s0_1 s0_2 s0_3 70 (s0_0.length : Int) t138 t139 t140 w0 _ ?side1 ?side2 A2.out).mono ?_); (case side1 => repeat (first | (with_reducible first | exact HI0.out | apply IsS151.alloc | apply IsS151.drewN | apply IsS151.drew | apply IsS151.set_1 | apply IsS151.set_2 | apply IsS151.set_3) | exact HI0.out)); (case side2 => repeat (first | (with_reducible first | exact HB.out | apply below_alloc | apply pw_below_drewN | apply below_drew1 | refine below_set ?_ (IsS151.ge HI0.out)) | exact HB.out)); rintro e w4 ⟨rfl, hi, hb, hk⟩; refine ⟨_, rfl, ?_⟩; have n0_ := Aside0.mk (KeepBut.trans (by repeat (first | (with_reducible first | exact HK.out | apply KeepBut.set_ | apply keep_drewN | apply keep_drew | apply keep_alloc) | exact HK.out)) hk (.inl rfl)); have n1_ := Aside0.mk (hb); have n2_ := Aside0.mk (hi); clear HK; clear HB; clear HI0; have HK := n0_; have HB := n1_; have HI0 := n2_; clear n0_ n1_ n2_; (try clear hb); (try clear hb2); (try clear hk); (try clear hi)))
 first | go_end0 | ((try simp only [Exit.inBlock, Exit.then]); refine bodyPost_ret (results_none rfl _ _ _) rfl ?_)
 exact ⟨by first | rfl | (simp [errW_none, errW_some] <;> rfl) | (simp [*, errW_none, errW_some] <;> rfl), by repeat (first | (with_reducible first | exact HI0.out | apply IsS151.alloc | apply IsS151.drewN | apply IsS151.drew | apply IsS151.set_1 | apply IsS151.set_2 | apply IsS151.set_3) | exact HI0.out), by repeat (first | (with_reducible first | exact HB.out | apply below_alloc | apply pw_below_drewN | apply below_drew1 | refine below_set ?_ (IsS151.ge HI0.out)) | exact HB.out), by repeat (first | (with_reducible first | exact HK.out | apply KeepBut.set_ | apply keep_drewN | apply keep_drew | apply keep_alloc) | exact HK.out)⟩
end Go.Proofs.Ytpbdkkahodaloaa.PS
end

section
namespace Go.Proofs.Ytpbdkkahodaloaa.PS
open Go.RowKit Go.Proofs.YtpbdkkahodaloaaW.PrintWords Go.Proofs.YtpbdkkahodaloaaW.PrintLast Go.Proofs.YtpbdkkahodaloaaW.PrintMore
attribute [local go_sem] max2_int min2_int max_two min_two max_three min_three max_four min_four
set_option linter.unusedVariables false
set_option linter.unusedSimpArgs false
mutual
def pack_reader_number.l0 : Nat → Int → Int → Int → List Int → Int → Int → Int → Option (Int × Int × Int × Int)
 | 0, _, _, _, _, _, _, _ => none
 | k + 1, x3, x4, x5, x1000, x1001, x1002, x1003 => if x1002 = 0 then (if x1001 = (x1000.length : Int) then ((pack_reader_short.f x1000 x1001 x1002 x1003).bind fun bt141 => (some (0, bt141.1, bt141.2.1, bt141.2.2))) else (if 0 ≤ x1001 then (if x1001 < (x1000.length : Int) then (if x5 = 9 then (if (rd x1000 x1001) > 1 then (pack_reader_number.j1 k x3 x4 x5 (rd x1000 x1001) true x1000 x1001 x1002 x1003) else (if x5 > 0 then (pack_reader_number.j1 k x3 x4 x5 (rd x1000 x1001) ((rd x1000 x1001) == 0) x1000 x1001 x1002 x1003) else (pack_reader_number.j1 k x3 x4 x5 (rd x1000 x1001) false x1000 x1001 x1002 x1003))) else (if x5 > 0 then (pack_reader_number.j1 k x3 x4 x5 (rd x1000 x1001) ((rd x1000 x1001) == 0) x1000 x1001 x1002 x1003) else (pack_reader_number.j1 k x3 x4 x5 (rd x1000 x1001) false x1000 x1001 x1002 x1003))) else (none)) else (none))) else (some (0, x1001, x1002, x1003))
def pack_reader_number.j1 : Nat → Int → Int → Int → Int → Bool → List Int → Int → Int → Int → Option (Int × Int × Int × Int)
 | 0, _, _, _, _, _, _, _, _, _ => none
 | k + 1, x3, x4, x5, x6, x53, x1000, x1001, x1002, x1003 => if x53 = true then ((pack_reader_fail.f x1000 x1001 x1002 x1003 71 x3).bind fun bt145 => (some (0, bt145.1, bt145.2.1, bt145.2.2))) else (if 0 ≤ (wrap64 (7 * x5)) then (if x6 < 128 then (some (Go.bits .or .u64 x4 (shl .u64 (IntKind.u64.wrap (Go.bits .and .u8 x6 127)) (wrap64 (7 * x5))), wrap64 (x1001 + 1), x1002, x1003)) else (pack_reader_number.l0 k x3 (Go.bits .or .u64 x4 (shl .u64 (IntKind.u64.wrap (Go.bits .and .u8 x6 127)) (wrap64 (7 * x5)))) (wrap64 (x5 + 1)) x1000 (wrap64 (x1001 + 1)) x1002 x1003)) else (none))
end
def pack_reader_number.f (k : Nat) (s0_0 : List Int) (s0_1 : Int) (s0_2 : Int) (s0_3 : Int) : Option (Int × Int × Int × Int) := pack_reader_number.l0 k s0_1 0 0 s0_0 s0_1 s0_2 s0_3
theorem pack_reader_number.mono_l : ∀ k, (∀ y0 y1 y2 y3 y4 y5 y6, LeO (pack_reader_number.l0 k y0 y1 y2 y3 y4 y5 y6) (pack_reader_number.l0 (k + 1) y0 y1 y2 y3 y4 y5 y6)) ∧ (∀ y0 y1 y2 y3 y4 y5 y6 y7 y8, LeO (pack_reader_number.j1 k y0 y1 y2 y3 y4 y5 y6 y7 y8) (pack_reader_number.j1 (k + 1) y0 y1 y2 y3 y4 y5 y6 y7 y8))
 | 0 => ⟨fun _ _ _ _ _ _ _ r h => by simp [pack_reader_number.l0] at h, fun _ _ _ _ _ _ _ _ _ r h => by simp [pack_reader_number.j1] at h⟩
 | k + 1 => by
  obtain ⟨ih0, ih1⟩ := pack_reader_number.mono_l k
  refine ⟨?_, ?_⟩
  ·intro y0 y1 y2 y3 y4 y5 y6
   unfold pack_reader_number.l0
   repeat' first
   | (with_reducible exact ih0 _ _ _ _ _ _ _)
   | (with_reducible exact ih1 _ _ _ _ _ _ _ _ _)
   | (with_reducible exact LeO.refl _)
   | (with_reducible exact LeO.none _)
   | (with_reducible refine LeO.ite ?_ ?_)
   | (with_reducible refine LeO.bind ?_ (fun _ => ?_))
   | exact ih0 _ _ _ _ _ _ _
   | exact ih1 _ _ _ _ _ _ _ _ _
   | exact LeO.none _
   | refine LeO.ite ?_ ?_
   | refine LeO.bind ?_ (fun _ => ?_)
  ·intro y0 y1 y2 y3 y4 y5 y6 y7 y8
   unfold pack_reader_number.j1
   repeat' first
   | (with_reducible exact ih0 _ _ _ _ _ _ _)
   | (with_reducible exact ih1 _ _ _ _ _ _ _ _ _)
   | (with_reducible exact LeO.refl _)
   | (with_reducible exact LeO.none _)
   | (with_reducible refine LeO.ite ?_ ?_)
   | (with_reducible refine LeO.bind ?_ (fun _ => ?_))
   | exact ih0 _ _ _ _ _ _ _
   | exact ih1 _ _ _ _ _ _ _ _ _
   | exact LeO.none _
   | refine LeO.ite ?_ ?_
   | refine LeO.bind ?_ (fun _ => ?_)
theorem pack_reader_number.mono : ∀ a0 a1 a2 a3 k, LeO (pack_reader_number.f k a0 a1 a2 a3) (pack_reader_number.f (k + 1) a0 a1 a2 a3) := by
 intro a0 a1 a2 a3 k
 obtain ⟨ih0, ih1⟩ := pack_reader_number.mono_l k
 unfold pack_reader_number.f
 repeat' first
   | (with_reducible exact ih0 _ _ _ _ _ _ _)
   | (with_reducible exact ih1 _ _ _ _ _ _ _ _ _)
   | (with_reducible exact LeO.refl _)
   | (with_reducible exact LeO.none _)
   | (with_reducible refine LeO.ite ?_ ?_)
   | (with_reducible refine LeO.bind ?_ (fun _ => ?_))
   | exact ih0 _ _ _ _ _ _ _
   | exact ih1 _ _ _ _ _ _ _ _ _
   | exact LeO.none _
   | refine LeO.ite ?_ ?_
   | refine LeO.bind ?_ (fun _ => ?_)
set_option maxHeartbeats 8000000 in
set_option maxRecDepth 100000 in
theorem pack_reader_number.calls (k : Nat) (g : Nat) (s0_0 : List Int) (s0_1 : Int) (s0_2 : Int) (s0_3 : Int) (r1 : Int) (r2 : Int) (r3 : Int) (r4 : Int) (w0 w : World) (hI : IsS151 w0 w g s0_0 s0_1 s0_2 s0_3) (hB : Below w0.heap.size w0 w) (h : pack_reader_number.f k s0_0 s0_1 s0_2 s0_3 = some (r1, r2, r3, r4)) :
  Calls Try.prog 121 #[.pointer (some ⟨g, 0, none⟩)] w fun e w' => e = .returned (.int .u64 r1) ∧ IsS151 w0 w' g s0_0 r2 r3 r4 ∧ Below w0.heap.size w0 w' ∧ KeepBut w w' g none := by
 have HI0 := Aside0.mk hI
 have HK := Aside0.mk (KeepBut.refl w g none)
 have HL := Aside0.mk hB.size
 clear hI
 have HW0 := Aside0.mk hB.size
 have HB := Aside0.mk hB
 clear hB
 have H : (pack_reader_number.l0 k s0_1 0 0 s0_0 s0_1 s0_2 s0_3) = some (r1, r2, r3, r4) := h
 clear h
 have H' := Aside0.mk H
 clear H
 obtain ⟨ASz2_0, cSz2_0, HGz2, hgz2, HSz2_0, hcap_⟩ := HI0.out
 have hcz2_0 := cellS151_0 HGz2
 have hcz2_1 := cellS151_1 HGz2
 have hcz2_2 := cellS151_2 HGz2
 have hcz2_3 := cellS151_3 HGz2
 have hfz2_1 := blk_frozen HGz2 1
 have hfz2_2 := blk_frozen HGz2 2
 have hfz2_3 := blk_frozen HGz2 3
 clear HGz2 hgz2
 go_enter Try.func121, Try.ntmps121
 go_wp2
 repeat (go_quiet (fail); try go_wp2)
 go_loopg [4, 5] k (fun kq v4 v5 w' => ∃ (x4_1 : Int) (x5_1 : Int) (x1001_1 : Int) (x1002_1 : Int) (x1003_1 : Int), v4 = .int .u64 x4_1 ∧ v5 = .int .i64 x5_1 ∧ Aside0 (pack_reader_number.l0 kq s0_1 x4_1 x5_1 s0_0 x1001_1 x1002_1 x1003_1 = some (r1, r2, r3, r4)) ∧ Aside0 (kq ≤ k) ∧ Aside0 (IsS151 w0 w' g s0_0 x1001_1 x1002_1 x1003_1) ∧ Aside0 (KeepBut w w' g none) ∧ Aside0 (Below w0.heap.size w0 w'))
 case atStart => exact ⟨(0), (0), (s0_1), (s0_2), (s0_3), (by first | rfl | (simp; done) | (simp [*]; done)), (by first | rfl | (simp; done) | (simp [*]; done)), H', ⟨Nat.le_refl _⟩, ⟨by repeat (first | (with_reducible first | exact HI0.out | apply IsS151.alloc | apply IsS151.drewN | apply IsS151.drew | apply IsS151.set_1 | apply IsS151.set_2 | apply IsS151.set_3) | exact HI0.out)⟩, ⟨by repeat (first | (with_reducible first | exact HK.out | apply KeepBut.set_ | apply keep_drewN | apply keep_drew | apply keep_alloc) | exact HK.out)⟩, ⟨by repeat (first | (with_reducible first | exact HB.out | apply below_alloc | apply pw_below_drewN | apply below_drew1 | refine below_set ?_ (IsS151.ge HI0.out)) | exact HB.out)⟩⟩
 case round =>
  clear H'
  try clear c1
  try clear p2
  try clear hcz2_0
  try clear hcz2_1
  try clear hcz2_2
  try clear hcz2_3
  try clear hfz2_1
  try clear hfz2_2
  try clear hfz2_3
  obtain ⟨x4_1, x5_1, x1001_1, x1002_1, x1003_1, rfl, rfl, HA, HK1, HI0, HK, HB⟩ := hrel
  cases gk with
  | zero => exact absurd HA.out (by simp [pack_reader_number.l0])
  | succ k1 =>
   have H := HA.out
   clear HA
   simp only [pack_reader_number.l0] at H
   by_cases c3 : x1002_1 = 0
   ·rw [if_pos c3] at H
    have c3b0 : (x1002_1 == 0) = true := beq_iff_eq.mpr c3
    have c3b1 : (x1002_1 != 0) = false := bne_eq_false_iff_eq.mpr c3
    clear c3
    by_cases c4 : x1001_1 = (s0_0.length : Int)
    ·rw [if_pos c4] at H
     have c4b0 : (x1001_1 == (s0_0.length : Int)) = true := beq_iff_eq.mpr c4
     have c4b1 : (x1001_1 != (s0_0.length : Int)) = false := bne_eq_false_iff_eq.mpr c4
     clear c4
     replace H := Option.bind_eq_some_iff.mp H
     obtain ⟨⟨t141, t142, t143⟩, A50, H⟩ := H
     replace H : (some (0, t141, t142, t143)) = some (r1, r2, r3, r4) := H
     have A5 := Aside0.mk A50
     clear A50
     simp only [Option.some.injEq, Prod.mk.injEq] at H
     obtain ⟨rfl, rfl, rfl, rfl⟩ := H
     obtain ⟨ASz6_0, cSz6_0, HGz6, hgz6, HSz6_0, hcap_⟩ := HI0.out
     have hcz6_0 := cellS151_0 HGz6
     have hcz6_1 := cellS151_1 HGz6
     have hcz6_2 := cellS151_2 HGz6
     have hcz6_3 := cellS151_3 HGz6
     have hfz6_1 := blk_frozen HGz6 1
     have hfz6_2 := blk_frozen HGz6 2
     have hfz6_3 := blk_frozen HGz6 3
     clear HGz6 hgz6
     go_wp2_with (first | (go_at_call 90; (with_reducible refine (pack_reader_short.calls g s0_0 x1001_1 x1002_1 x1003_1 t141 t142 t143 w0 _ ?side1 ?side2 A5.out).mono ?_); (case side1 => repeat (first | (with_reducible first | exact HI0.out | apply IsS151.alloc | apply IsS151.drewN | apply IsS151.drew | apply IsS151.set_1 | apply IsS151.set_2 | apply IsS151.set_3) | exact HI0.out)); (case side2 => repeat (first | (with_reducible first | exact HB.out | apply below_alloc | apply pw_below_drewN | apply below_drew1 | refine below_set ?_ (IsS151.ge HI0.out)) | exact HB.out)); rintro e w7 ⟨rfl, hi, hb, hk⟩; have n0_ := Aside0.mk (KeepBut.trans (by repeat (first | (with_reducible first | exact HK.out | apply KeepBut.set_ | apply keep_drewN | apply keep_drew | apply keep_alloc) | exact HK.out)) hk (.inl rfl)); have n1_ := Aside0.mk (hb); have n2_ := Aside0.mk (hi); clear HK; clear HB; clear HI0; have HK := n0_; have HB := n1_; have HI0 := n2_; clear n0_ n1_ n2_; (try clear hb); (try clear hb2); (try clear hk); (try clear hi)))
     repeat (go_quiet (first | (go_at_call 90; (with_reducible refine (pack_reader_short.calls g s0_0 x1001_1 x1002_1 x1003_1 t141 t142 t143 w0 _ ?side1 ?side2 A5.out).mono ?_); (case side1 => repeat (first | (with_reducible first | exact HI0.out | apply IsS151.alloc | apply IsS151.drewN | apply IsS151.drew | apply IsS151.set_1 | apply IsS151.set_2 | apply IsS151.set_3) | exact HI0.out)); (case side2 => repeat (first | (with_reducible first | exact HB.out | apply below_alloc | apply pw_below_drewN | apply below_drew1 | refine below_set ?_ (IsS151.ge HI0.out)) | exact HB.out)); rintro e w7 ⟨rfl, hi, hb, hk⟩; have n0_ := Aside0.mk (KeepBut.trans (by repeat (first | (with_reducible first | exact HK.out | apply KeepBut.set_ | apply keep_drewN | apply keep_drew | apply keep_alloc) | exact HK.out)) hk (.inl rfl)); have n1_ := Aside0.mk (hb); have n2_ := Aside0.mk (hi); clear HK; clear HB; clear HI0; have HK := n0_; have HB := n1_; have HI0 := n2_; clear n0_ n1_ n2_; (try clear hb); (try clear hb2); (try clear hk); (try clear hi))); try go_wp2_with (first | (go_at_call 90; (with_reducible refine (pack_reader_short.calls g s0_0 x1001_1 x1002_1 x1003_1 t141 t142 t143 w0 _ ?side1 ?side2 A5.out).mono ?_); (case side1 => repeat (first | (with_reducible first | exact HI0.out | apply IsS151.alloc | apply IsS151.drewN | apply IsS151.drew | apply IsS151.set_1 | apply IsS151.set_2 | apply IsS151.set_3) | exact HI0.out)); (case side2 => repeat (first | (with_reducible first | exact HB.out | apply below_alloc | apply pw_below_drewN | apply below_drew1 | refine below_set ?_ (IsS151.ge HI0.out)) | exact HB.out)); rintro e w7 ⟨rfl, hi, hb, hk⟩; have n0_ := Aside0.mk (KeepBut.trans (by repeat (first | (with_reducible first | exact HK.out | apply KeepBut.set_ | apply keep_drewN | apply keep_drew | apply keep_alloc) | exact HK.out)) hk (.inl rfl)); have n1_ := Aside0.mk (hb); have n2_ := Aside0.mk (hi); clear HK; clear HB; clear HI0; have HK := n0_; have HB := n1_; have HI0 := n2_; clear n0_ n1_ n2_; (try clear hb); (try clear hb2); (try clear hk); (try clear hi))))
     go_ret
     exact ⟨by first | rfl | (simp [errW_none, errW_some] <;> rfl) | (simp [*, errW_none, errW_some] <;> rfl), by repeat (first | (with_reducible first | exact HI0.out | apply IsS151.alloc | apply IsS151.drewN | apply IsS151.drew | apply IsS151.set_1 | apply IsS151.set_2 | apply IsS151.set_3) | exact HI0.out), by repeat (first | (with_reducible first | exact HB.out | apply below_alloc | apply pw_below_drewN | apply below_drew1 | refine below_set ?_ (IsS151.ge HI0.out)) | exact HB.out), by repeat (first | (with_reducible first | exact HK.out | apply KeepBut.set_ | apply keep_drewN | apply keep_drew | apply keep_alloc) | exact HK.out)⟩
    ·rw [if_neg c4] at H
     have c4b0 : (x1001_1 == (s0_0.length : Int)) = false := beq_eq_false_iff_ne.mpr c4
     have c4b1 : (x1001_1 != (s0_0.length : Int)) = true := bne_iff_ne.mpr c4
     by_cases c8 : 0 ≤ x1001_1
     ·rw [if_pos c8] at H
      have c8b0 : decide (0 ≤ x1001_1) = true := decide_eq_true c8
      clear c8
      by_cases c9 : x1001_1 < (s0_0.length : Int)
      ·rw [if_pos c9] at H
       have c9b0 : decide (x1001_1 < (s0_0.length : Int)) = true := decide_eq_true c9
       clear c9
       have HC10 := Aside0.mk H
       clear H
       obtain ⟨ASz11_0, cSz11_0, HGz11, hgz11, HSz11_0, hcap_⟩ := HI0.out
       have hcz11_0 := cellS151_0 HGz11
       have hcz11_1 := cellS151_1 HGz11
       have hcz11_2 := cellS151_2 HGz11
       have hcz11_3 := cellS151_3 HGz11
       have hfz11_1 := blk_frozen HGz11 1
       have hfz11_2 := blk_frozen HGz11 2
       have hfz11_3 := blk_frozen HGz11 3
       clear HGz11 hgz11
       have p144 : 0 ≤ (x1001_1 : Int) := odx
       have q144 : x1001_1 < (s0_0.length : Int) := odx
       obtain ⟨ad144, e144, hx144_0⟩ := Kd.at_int HSz11_0 x1001_1 p144 q144
       cases e144
       replace hx144_0 := pw_cell_below HB.out hx144_0
       replace p144 := eq_true p144
       replace q144 := eq_true q144
       go_upto_region 9 with (fail)
       repeat (go_quiet (fail); go_upto_region 9 with (fail))
       go_cut [53] (fun v53 wc => ∃ (kq : Nat) (x53_9 : Bool), v53 = .bool x53_9 ∧ Aside0 (pack_reader_number.j1 kq s0_1 x4_1 x5_1 (rd s0_0 x1001_1) x53_9 s0_0 x1001_1 x1002_1 x1003_1 = some (r1, r2, r3, r4)) ∧ Aside0 (kq ≤ k1) ∧ Aside0 (IsS151 w0 wc g s0_0 x1001_1 x1002_1 x1003_1) ∧ Aside0 (KeepBut w wc g none) ∧ Aside0 (Below w0.heap.size w0 wc))
       case first =>
        have H := HC10.out
        clear HC10
        by_cases c12 : x5_1 = 9
        ·rw [if_pos c12] at H
         have c12b0 : (x5_1 == 9) = true := beq_iff_eq.mpr c12
         have c12b1 : (x5_1 != 9) = false := bne_eq_false_iff_eq.mpr c12
         clear c12
         (first | rw [c12b0] | (simp only [i64_w, i32_w]; rw [c12b0]) | skip)
         by_cases c13 : (rd s0_0 x1001_1) > 1
         ·rw [if_pos c13] at H
          have c13b0 : decide (1 < (rd s0_0 x1001_1)) = true := decide_eq_true c13
          clear c13
          have H' := Aside0.mk H
          clear H
          go_wp2
          repeat (go_quiet (fail); try go_wp2)
          go_meet
          case rel => exact ⟨_, (true), (by first | rfl | (simp; done) | (simp [*]; done)), H', ⟨by have := HK1.out; first | omega | exact Nat.le_refl _⟩, ⟨by repeat (first | (with_reducible first | exact HI0.out | apply IsS151.alloc | apply IsS151.drewN | apply IsS151.drew | apply IsS151.set_1 | apply IsS151.set_2 | apply IsS151.set_3) | exact HI0.out)⟩, ⟨by repeat (first | (with_reducible first | exact HK.out | apply KeepBut.set_ | apply keep_drewN | apply keep_drew | apply keep_alloc) | exact HK.out)⟩, ⟨by repeat (first | (with_reducible first | exact HB.out | apply below_alloc | apply pw_below_drewN | apply below_drew1 | refine below_set ?_ (IsS151.ge HI0.out)) | exact HB.out)⟩⟩
         ·rw [if_neg c13] at H
          have c13b0 : decide (1 < (rd s0_0 x1001_1)) = false := decide_eq_false c13
          clear c13
          by_cases c14 : x5_1 > 0
          ·rw [if_pos c14] at H
           have c14b0 : decide (0 < x5_1) = true := decide_eq_true c14
           clear c14
           have H' := Aside0.mk H
           clear H
           go_wp2
           repeat (go_quiet (fail); try go_wp2)
           go_meet
           case rel => exact ⟨_, (((rd s0_0 x1001_1) == 0)), (by first | rfl | (simp; done) | (simp [*]; done)), H', ⟨by have := HK1.out; first | omega | exact Nat.le_refl _⟩, ⟨by repeat (first | (with_reducible first | exact HI0.out | apply IsS151.alloc | apply IsS151.drewN | apply IsS151.drew | apply IsS151.set_1 | apply IsS151.set_2 | apply IsS151.set_3) | exact HI0.out)⟩, ⟨by repeat (first | (with_reducible first | exact HK.out | apply KeepBut.set_ | apply keep_drewN | apply keep_drew | apply keep_alloc) | exact HK.out)⟩, ⟨by repeat (first | (with_reducible first | exact HB.out | apply below_alloc | apply pw_below_drewN | apply below_drew1 | refine below_set ?_ (IsS151.ge HI0.out)) | exact HB.out)⟩⟩
          ·rw [if_neg c14] at H
           have c14b0 : decide (0 < x5_1) = false := decide_eq_false c14
           clear c14
           have H' := Aside0.mk H
           clear H
           go_wp2
           repeat (go_quiet (fail); try go_wp2)
           go_meet
           case rel => exact ⟨_, (false), (by first | rfl | (simp; done) | (simp [*]; done)), H', ⟨by have := HK1.out; first | omega | exact Nat.le_refl _⟩, ⟨by repeat (first | (with_reducible first | exact HI0.out | apply IsS151.alloc | apply IsS151.drewN | apply IsS151.drew | apply IsS151.set_1 | apply IsS151.set_2 | apply IsS151.set_3) | exact HI0.out)⟩, ⟨by repeat (first | (with_reducible first | exact HK.out | apply KeepBut.set_ | apply keep_drewN | apply keep_drew | apply keep_alloc) | exact HK.out)⟩, ⟨by repeat (first | (with_reducible first | exact HB.out | apply below_alloc | apply pw_below_drewN | apply below_drew1 | refine below_set ?_ (IsS151.ge HI0.out)) | exact HB.out)⟩⟩
        ·rw [if_neg c12] at H
         have c12b0 : (x5_1 == 9) = false := beq_eq_false_iff_ne.mpr c12
         have c12b1 : (x5_1 != 9) = true := bne_iff_ne.mpr c12
         (first | rw [c12b0] | (simp only [i64_w, i32_w]; rw [c12b0]) | skip)
         by_cases c15 : x5_1 > 0
         ·rw [if_pos c15] at H
          have c15b0 : decide (0 < x5_1) = true := decide_eq_true c15
          clear c15
          have H' := Aside0.mk H
          clear H
          go_wp2
          repeat (go_quiet (fail); try go_wp2)
          go_meet
          case rel => exact ⟨_, (((rd s0_0 x1001_1) == 0)), (by first | rfl | (simp; done) | (simp [*]; done)), H', ⟨by have := HK1.out; first | omega | exact Nat.le_refl _⟩, ⟨by repeat (first | (with_reducible first | exact HI0.out | apply IsS151.alloc | apply IsS151.drewN | apply IsS151.drew | apply IsS151.set_1 | apply IsS151.set_2 | apply IsS151.set_3) | exact HI0.out)⟩, ⟨by repeat (first | (with_reducible first | exact HK.out | apply KeepBut.set_ | apply keep_drewN | apply keep_drew | apply keep_alloc) | exact HK.out)⟩, ⟨by repeat (first | (with_reducible first | exact HB.out | apply below_alloc | apply pw_below_drewN | apply below_drew1 | refine below_set ?_ (IsS151.ge HI0.out)) | exact HB.out)⟩⟩
         ·rw [if_neg c15] at H
          have c15b0 : decide (0 < x5_1) = false := decide_eq_false c15
          clear c15
          have H' := Aside0.mk H
          clear H
          go_wp2
          repeat (go_quiet (fail); try go_wp2)
          go_meet
          case rel => exact ⟨_, (false), (by first | rfl | (simp; done) | (simp [*]; done)), H', ⟨by have := HK1.out; first | omega | exact Nat.le_refl _⟩, ⟨by repeat (first | (with_reducible first | exact HI0.out | apply IsS151.alloc | apply IsS151.drewN | apply IsS151.drew | apply IsS151.set_1 | apply IsS151.set_2 | apply IsS151.set_3) | exact HI0.out)⟩, ⟨by repeat (first | (with_reducible first | exact HK.out | apply KeepBut.set_ | apply keep_drewN | apply keep_drew | apply keep_alloc) | exact HK.out)⟩, ⟨by repeat (first | (with_reducible first | exact HB.out | apply below_alloc | apply pw_below_drewN | apply below_drew1 | refine below_set ?_ (IsS151.ge HI0.out)) | exact HB.out)⟩⟩
       case rest =>
        clear HC10
        try clear c1
        try clear p1
        try clear q1
        try clear hx1
        try clear p2
        try clear c3
        try clear c3b0
        try clear c3b1
        try clear c4
        try clear c4b0
        try clear c4b1
        try clear c8
        try clear c8b0
        try clear c9
        try clear c9b0
        try clear c12
        try clear c12b0
        try clear c12b1
        try clear c13
        try clear c13b0
        try clear c14
        try clear c14b0
        try clear p14
        try clear q14
        try clear hx14
        try clear c15
        try clear c15b0
        try clear hcz11_0
        try clear hcz11_1
        try clear hcz11_2
        try clear hcz11_3
        try clear hcz2_0
        try clear hcz2_1
        try clear hcz2_2
        try clear hcz2_3
        try clear hcz6_0
        try clear hcz6_1
        try clear hcz6_2
        try clear hcz6_3
        try clear hfz11_1
        try clear hfz11_2
        try clear hfz11_3
        try clear hfz2_1
        try clear hfz2_2
        try clear hfz2_3
        try clear hfz6_1
        try clear hfz6_2
        try clear hfz6_3
        try clear hx144_0
        try clear p144
        try clear p2
        try clear q144
        obtain ⟨kq, x53_9, rfl, HA, HJ9, HI0, HK, HB⟩ := hcut
        cases kq with
        | zero => exact absurd HA.out (by simp [pack_reader_number.j1])
        | succ kj9 =>
         have H := HA.out
         clear HA
         simp only [pack_reader_number.j1] at H
         by_cases c16 : x53_9 = true
         ·subst c16
          have H1 : ((pack_reader_fail.f s0_0 x1001_1 x1002_1 x1003_1 71 s0_1).bind fun bt145 => (some (0, bt145.1, bt145.2.1, bt145.2.2))) = some (r1, r2, r3, r4) := by rw [if_pos rfl] at H; exact H
          clear H
          have H := H1
          clear H1
          replace H := Option.bind_eq_some_iff.mp H
          obtain ⟨⟨t145, t146, t147⟩, A170, H⟩ := H
          replace H : (some (0, t145, t146, t147)) = some (r1, r2, r3, r4) := H
          have A17 := Aside0.mk A170
          clear A170
          simp only [Option.some.injEq, Prod.mk.injEq] at H
          obtain ⟨rfl, rfl, rfl, rfl⟩ := H
          go_wp2_with (first | (go_at_call 91; (with_reducible refine (pack_reader_fail.calls g s0_0 x1001_1 x1002_1 x1003_1 71 s0_1 t145 t146 t147 w0 _ ?side1 ?side2 A17.out).mono ?_); (case side1 => repeat (first | (with_reducible first | exact HI0.out | apply IsS151.alloc | apply IsS151.drewN | apply IsS151.drew | apply IsS151.set_1 | apply IsS151.set_2 | apply IsS151.set_3) | exact HI0.out)); (case side2 => repeat (first | (with_reducible first | exact HB.out | apply below_alloc | apply pw_below_drewN | apply below_drew1 | refine below_set ?_ (IsS151.ge HI0.out)) | exact HB.out)); rintro e w18 ⟨rfl, hi, hb, hk⟩; have n0_ := Aside0.mk (KeepBut.trans (by repeat (first | (with_reducible first | exact HK.out | apply KeepBut.set_ | apply keep_drewN | apply keep_drew | apply keep_alloc) | exact HK.out)) hk (.inl rfl)); have n1_ := Aside0.mk (hb); have n2_ := Aside0.mk (hi); clear HK; clear HB; clear HI0; have HK := n0_; have HB := n1_; have HI0 := n2_; clear n0_ n1_ n2_; (try clear hb); (try clear hb2); (try clear hk); (try clear hi)))
          repeat (go_quiet (first | (go_at_call 91; (with_reducible refine (pack_reader_fail.calls g s0_0 x1001_1 x1002_1 x1003_1 71 s0_1 t145 t146 t147 w0 _ ?side1 ?side2 A17.out).mono ?_); (case side1 => repeat (first | (with_reducible first | exact HI0.out | apply IsS151.alloc | apply IsS151.drewN | apply IsS151.drew | apply IsS151.set_1 | apply IsS151.set_2 | apply IsS151.set_3) | exact HI0.out)); (case side2 => repeat (first | (with_reducible first | exact HB.out | apply below_alloc | apply pw_below_drewN | apply below_drew1 | refine below_set ?_ (IsS151.ge HI0.out)) | exact HB.out)); rintro e w18 ⟨rfl, hi, hb, hk⟩; have n0_ := Aside0.mk (KeepBut.trans (by repeat (first | (with_reducible first | exact HK.out | apply KeepBut.set_ | apply keep_drewN | apply keep_drew | apply keep_alloc) | exact HK.out)) hk (.inl rfl)); have n1_ := Aside0.mk (hb); have n2_ := Aside0.mk (hi); clear HK; clear HB; clear HI0; have HK := n0_; have HB := n1_; have HI0 := n2_; clear n0_ n1_ n2_; (try clear hb); (try clear hb2); (try clear hk); (try clear hi))); try go_wp2_with (first | (go_at_call 91; (with_reducible refine (pack_reader_fail.calls g s0_0 x1001_1 x1002_1 x1003_1 71 s0_1 t145 t146 t147 w0 _ ?side1 ?side2 A17.out).mono ?_); (case side1 => repeat (first | (with_reducible first | exact HI0.out | apply IsS151.alloc | apply IsS151.drewN | apply IsS151.drew | apply IsS151.set_1 | apply IsS151.set_2 | apply IsS151.set_3) | exact HI0.out)); (case side2 => repeat (first | (with_reducible first | exact HB.out | apply below_alloc | apply pw_below_drewN | apply below_drew1 | refine below_set ?_ (IsS151.ge HI0.out)) | exact HB.out)); rintro e w18 ⟨rfl, hi, hb, hk⟩; have n0_ := Aside0.mk (KeepBut.trans (by repeat (first | (with_reducible first | exact HK.out | apply KeepBut.set_ | apply keep_drewN | apply keep_drew | apply keep_alloc) | exact HK.out)) hk (.inl rfl)); have n1_ := Aside0.mk (hb); have n2_ := Aside0.mk (hi); clear HK; clear HB; clear HI0; have HK := n0_; have HB := n1_; have HI0 := n2_; clear n0_ n1_ n2_; (try clear hb); (try clear hb2); (try clear hk); (try clear hi))))
          go_ret
          exact ⟨by first | rfl | (simp [errW_none, errW_some] <;> rfl) | (simp [*, errW_none, errW_some] <;> rfl), by repeat (first | (with_reducible first | exact HI0.out | apply IsS151.alloc | apply IsS151.drewN | apply IsS151.drew | apply IsS151.set_1 | apply IsS151.set_2 | apply IsS151.set_3) | exact HI0.out), by repeat (first | (with_reducible first | exact HB.out | apply below_alloc | apply pw_below_drewN | apply below_drew1 | refine below_set ?_ (IsS151.ge HI0.out)) | exact HB.out), by repeat (first | (with_reducible first | exact HK.out | apply KeepBut.set_ | apply keep_drewN | apply keep_drew | apply keep_alloc) | exact HK.out)⟩
         ·replace c16 := Bool.eq_false_iff.mpr c16
          subst c16
          have H1 : (if 0 ≤ (wrap64 (7 * x5_1)) then (if (rd s0_0 x1001_1) < 128 then (some (Go.bits .or .u64 x4_1 (shl .u64 (IntKind.u64.wrap (Go.bits .and .u8 (rd s0_0 x1001_1) 127)) (wrap64 (7 * x5_1))), wrap64 (x1001_1 + 1), x1002_1, x1003_1)) else (pack_reader_number.l0 kj9 s0_1 (Go.bits .or .u64 x4_1 (shl .u64 (IntKind.u64.wrap (Go.bits .and .u8 (rd s0_0 x1001_1) 127)) (wrap64 (7 * x5_1)))) (wrap64 (x5_1 + 1)) s0_0 (wrap64 (x1001_1 + 1)) x1002_1 x1003_1)) else (none)) = some (r1, r2, r3, r4) := by rw [if_neg (show ¬ (false = true) by decide)] at H; exact H
          clear H
          have H := H1
          clear H1
          obtain ⟨ji19, hji19⟩ : ∃ j_ : Int, (wrap64 (7 * x5_1)) = j_ := ⟨_, rfl⟩
          replace H : (if 0 ≤ (ji19) then (if (rd s0_0 x1001_1) < 128 then (some (Go.bits .or .u64 x4_1 (shl .u64 (IntKind.u64.wrap (Go.bits .and .u8 (rd s0_0 x1001_1) 127)) (ji19)), wrap64 (x1001_1 + 1), x1002_1, x1003_1)) else (pack_reader_number.l0 kj9 s0_1 (Go.bits .or .u64 x4_1 (shl .u64 (IntKind.u64.wrap (Go.bits .and .u8 (rd s0_0 x1001_1) 127)) (ji19))) (wrap64 (x5_1 + 1)) s0_0 (wrap64 (x1001_1 + 1)) x1002_1 x1003_1)) else (none)) = some (r1, r2, r3, r4) := by first | (rw [hji19] at H; exact H) | (simp only [hji19] at H ⊢; exact H)
          have hji19w : (IntKind.i64.wrap (7 * x5_1)) = ji19 := (i64_w _).trans hji19
          by_cases c20 : 0 ≤ (ji19)
          ·rw [if_pos c20] at H
           have c20b0 := eq_true c20
           have c20b1 : decide (0 ≤ (ji19)) = true := decide_eq_true c20
           clear c20
           obtain ⟨ji21, hji21⟩ : ∃ j_ : Int, (shl .u64 (IntKind.u64.wrap (Go.bits .and .u8 (rd s0_0 x1001_1) 127)) (ji19)) = j_ := ⟨_, rfl⟩
           replace H : (if (rd s0_0 x1001_1) < 128 then (some (Go.bits .or .u64 x4_1 (ji21), wrap64 (x1001_1 + 1), x1002_1, x1003_1)) else (pack_reader_number.l0 kj9 s0_1 (Go.bits .or .u64 x4_1 (ji21)) (wrap64 (x5_1 + 1)) s0_0 (wrap64 (x1001_1 + 1)) x1002_1 x1003_1)) = some (r1, r2, r3, r4) := by first | (rw [hji21] at H; exact H) | (simp only [hji21] at H ⊢; exact H)
           have hji21_ : (IntKind.u64.wrap ((IntKind.u64.wrap (Go.bits .and .u8 (rd s0_0 x1001_1) 127)) * 2 ^ min (ji19).toNat 64)) = ji21 := hji21
           have hji21z : (ji19) ≤ 64 → (IntKind.u64.wrap ((IntKind.u64.wrap (Go.bits .and .u8 (rd s0_0 x1001_1) 127)) * 2 ^ (ji19).toNat)) = ji21 := shl_small hji21
           by_cases c22 : (rd s0_0 x1001_1) < 128
           ·rw [if_pos c22] at H
            have c22b0 : decide ((rd s0_0 x1001_1) < 128) = true := decide_eq_true c22
            clear c22
            simp only [Option.some.injEq, Prod.mk.injEq] at H
            obtain ⟨rfl, rfl, rfl, rfl⟩ := H
            obtain ⟨ASz23_0, cSz23_0, HGz23, hgz23, HSz23_0, hcap_⟩ := HI0.out
            have hcz23_0 := cellS151_0 HGz23
            have hcz23_1 := cellS151_1 HGz23
            have hcz23_2 := cellS151_2 HGz23
            have hcz23_3 := cellS151_3 HGz23
            have hfz23_1 := blk_frozen HGz23 1
            have hfz23_2 := blk_frozen HGz23 2
            have hfz23_3 := blk_frozen HGz23 3
            clear HGz23 hgz23
            go_wp2
            repeat (go_quiet (fail); try go_wp2)
            go_ret
            exact ⟨by first | rfl | (simp [errW_none, errW_some] <;> rfl) | (simp only [← hji19, ← hji21]; first | rfl | (simp [errW_none, errW_some] <;> rfl)) | (simp [*, errW_none, errW_some] <;> rfl), by repeat (first | (with_reducible first | exact HI0.out | apply IsS151.alloc | apply IsS151.drewN | apply IsS151.drew | apply IsS151.set_1 | apply IsS151.set_2 | apply IsS151.set_3) | exact HI0.out), by repeat (first | (with_reducible first | exact HB.out | apply below_alloc | apply pw_below_drewN | apply below_drew1 | refine below_set ?_ (IsS151.ge HI0.out)) | exact HB.out), by repeat (first | (with_reducible first | exact HK.out | apply KeepBut.set_ | apply keep_drewN | apply keep_drew | apply keep_alloc) | exact HK.out)⟩
           ·rw [if_neg c22] at H
            have c22b0 : decide ((rd s0_0 x1001_1) < 128) = false := decide_eq_false c22
            clear c22
            have H' := Aside0.mk H
            clear H
            obtain ⟨ASz24_0, cSz24_0, HGz24, hgz24, HSz24_0, hcap_⟩ := HI0.out
            have hcz24_0 := cellS151_0 HGz24
            have hcz24_1 := cellS151_1 HGz24
            have hcz24_2 := cellS151_2 HGz24
            have hcz24_3 := cellS151_3 HGz24
            have hfz24_1 := blk_frozen HGz24 1
            have hfz24_2 := blk_frozen HGz24 2
            have hfz24_3 := blk_frozen HGz24 3
            clear HGz24 hgz24
            go_wp2
            repeat (go_quiet (fail); try go_wp2)
            go_roundg kj9
            case measure => have := HK1.out; have := HJ9.out; omega
            case rel => exact ⟨(Go.bits .or .u64 x4_1 (ji21)), (wrap64 (x5_1 + 1)), (wrap64 (x1001_1 + 1)), (x1002_1), (x1003_1), (by first | rfl | (simp; done) | (simp only [← hji21] <;> (first | rfl | simp)) | (simp [*]; done)), (by first | rfl | (simp; done) | (simp [*]; done)), H', ⟨by have := HK1.out; have := HJ9.out; omega⟩, ⟨by repeat (first | (with_reducible first | exact HI0.out | apply IsS151.alloc | apply IsS151.drewN | apply IsS151.drew | apply IsS151.set_1 | apply IsS151.set_2 | apply IsS151.set_3) | exact HI0.out)⟩, ⟨by repeat (first | (with_reducible first | exact HK.out | apply KeepBut.set_ | apply keep_drewN | apply keep_drew | apply keep_alloc) | exact HK.out)⟩, ⟨by repeat (first | (with_reducible first | exact HB.out | apply below_alloc | apply pw_below_drewN | apply below_drew1 | refine below_set ?_ (IsS151.ge HI0.out)) | exact HB.out)⟩⟩
          ·rw [if_neg c20] at H
           exact absurd H (by simp)
      ·rw [if_neg c9] at H
       exact absurd H (by simp)
     ·rw [if_neg c8] at H
      exact absurd H (by simp)
   ·rw [if_neg c3] at H
    have c3b0 : (x1002_1 == 0) = false := beq_eq_false_iff_ne.mpr c3
    have c3b1 : (x1002_1 != 0) = true := bne_iff_ne.mpr c3
    simp only [Option.some.injEq, Prod.mk.injEq] at H
    obtain ⟨rfl, rfl, rfl, rfl⟩ := H
    obtain ⟨ASz25_0, cSz25_0, HGz25, hgz25, HSz25_0, hcap_⟩ := HI0.out
    have hcz25_0 := cellS151_0 HGz25
    have hcz25_1 := cellS151_1 HGz25
    have hcz25_2 := cellS151_2 HGz25
    have hcz25_3 := cellS151_3 HGz25
    have hfz25_1 := blk_frozen HGz25 1
    have hfz25_2 := blk_frozen HGz25 2
    have hfz25_3 := blk_frozen HGz25 3
    clear HGz25 hgz25
    go_wp2
    repeat (go_quiet (fail); try go_wp2)
    go_ret
    exact ⟨by first | rfl | (simp [errW_none, errW_some] <;> rfl) | (simp [*, errW_none, errW_some] <;> rfl), by repeat (first | (with_reducible first | exact HI0.out | apply IsS151.alloc | apply IsS151.drewN | apply IsS151.drew | apply IsS151.set_1 | apply IsS151.set_2 | apply IsS151.set_3) | exact HI0.out), by repeat (first | (with_reducible first | exact HB.out | apply below_alloc | apply pw_below_drewN | apply below_drew1 | refine below_set ?_ (IsS151.ge HI0.out)) | exact HB.out), by repeat (first | (with_reducible first | exact HK.out | apply KeepBut.set_ | apply keep_drewN | apply keep_drew | apply keep_alloc) | exact HK.out)⟩
end Go.Proofs.Ytpbdkkahodaloaa.PS
end

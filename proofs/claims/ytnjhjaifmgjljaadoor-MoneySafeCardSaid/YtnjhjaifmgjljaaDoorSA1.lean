-- Part 1 of the texts of the claim SA (wrote by programs: words of the kit's print.sh, printed functions; and my own texts; joined by wip/tools/pack.py).
import Derived.Test.YtnjhjaifmgjljaaDoorSA0
import Derived.Shelf.Small.Bits
import Derived.Shelf.Strconv.Itoa0
import Derived.Shelf.Bits.Mul64
import Derived.Test.YtnjhjaifmgjljaaDoorProg

section
namespace Go.Proofs
open Go.Shelf
def Tryd.lays134_ren : Go.Shelf.Ren := ⟨fun | 134 => 103 | 129 => 104 | n => n, fun | 53 => 84 | 3 => 3 | 4 => 4 | 46 => 116 | 5 => 5 | 9 => 9 | n => n, fun | n => n⟩
theorem Tryd.lays134 : Go.Proofs.Lays.n134 Tryd.prog Tryd.lays134_ren := {
  mixed := by kernel_rfl
  f129 := Tryd.func104.trans (congrArg some (by kernel_rfl))
  f134 := Tryd.func103.trans (congrArg some (by kernel_rfl))
  t3 := Tryd.underlying3
  a3 := Tryd.isAgg3
  z3 := Tryd.sizeOf3
  v3 := Tryd.zeroValue3
  t4 := Tryd.underlying4
  a4 := Tryd.isAgg4
  z4 := Tryd.sizeOf4
  v4 := Tryd.zeroValue4
  t5 := Tryd.underlying5
  a5 := Tryd.isAgg5
  z5 := Tryd.sizeOf5
  v5 := Tryd.zeroValue5
  t9 := Tryd.underlying9
  a9 := Tryd.isAgg9
  z9 := Tryd.sizeOf9
  v9 := Tryd.zeroValue9
  t46 := Tryd.underlying116
  a46 := Tryd.isAgg116
  z46 := Tryd.sizeOf116
  v46 := Tryd.zeroValue116
  t53 := Tryd.underlying84
  a53 := Tryd.isAgg84
  z53 := Tryd.sizeOf84
  v53 := Tryd.zeroValue84 }
theorem Tryd.bits_LeadingZeros64 (x : Int) (w : World) (h0 : 0 ≤ x) (h1 : x ≤ 18446744073709551615) :
    Calls Tryd.prog 103 #[.int .u64 x] w fun e w' => e = .returned (.int .i64 (64 - (Lib.bitLen x.toNat : Int))) ∧ w' = w := Any.bits_LeadingZeros64 Tryd.lays134 x w h0 h1
def Tryd.lays264_ren : Go.Shelf.Ren := ⟨fun | 264 => 75 | n => n, fun | 53 => 84 | 46 => 116 | n => n, fun | n => n⟩
theorem Tryd.lays264 : Go.Proofs.Lays.n264 Tryd.prog Tryd.lays264_ren := {
  mixed := by kernel_rfl
  f264 := Tryd.func75.trans (congrArg some (by kernel_rfl))
  t46 := Tryd.underlying116
  a46 := Tryd.isAgg116
  z46 := Tryd.sizeOf116
  v46 := Tryd.zeroValue116
  t53 := Tryd.underlying84
  a53 := Tryd.isAgg84
  z53 := Tryd.sizeOf84
  v53 := Tryd.zeroValue84 }
open Go.RowKit Go.Lib in
theorem Tryd.bits_Mul64 (x y : Nat) (hx : x < 18446744073709551616) (hy : y < 18446744073709551616) (w : World) :
    Calls Tryd.prog 75 #[.int .u64 x, .int .u64 y] w fun e w' => e = .returned (.tuple #[.int .u64 ((x * y / 18446744073709551616 : Nat) : Int), .int .u64 ((x * y % 18446744073709551616 : Nat) : Int)]) ∧ w' = w := Any.bits_Mul64 Tryd.lays264 x y hx hy w
end Go.Proofs
end

section
namespace Go.Proofs.YtnjhjaifmgjljaaDoor.PM
open Go.RowKit Go.Proofs.YtnjhjaifmgjljaaDoorW.PrintWords Go.Proofs.YtnjhjaifmgjljaaDoorW.PrintLast Go.Proofs.YtnjhjaifmgjljaaDoorW.PrintMore
attribute [local go_sem] max2_int min2_int max_two min_two max_three min_three max_four min_four
set_option linter.unusedVariables false
set_option linter.unusedSimpArgs false
def errW : Option Int → Value
  | none => .nilIface
  | some c => .iface 0 (.int .i64 c)
theorem errW_none : errW none = .nilIface := rfl
theorem errW_some (c : Int) : errW (some c) = .iface 0 (.int .i64 c) := rfl
theorem info3 : (Tryd.prog.info? 3).map (fun i => (i.zero, i.size, i.bytes)) = some (some (.int .i64 0), 1, 8) := by kernel_rfl
theorem info23 : (Tryd.prog.info? 23).map (fun i => (i.zero, i.size, i.bytes)) = some (some (.agg #[(.int .i64 0), (.int .i64 0)]), 2, 16) := by kernel_rfl
theorem info72 : (Tryd.prog.info? 72).map (fun i => (i.zero, i.size, i.bytes)) = some (some (.agg #[(.int .i64 0), (.int .i64 0)]), 2, 16) := by kernel_rfl
structure S87 where
  f0 : Int
  f1 : Int
  f2 : Int
def z87 : S87 := ⟨(0 : Int), (0 : Int), (0 : Int)⟩
def k87 : Kd S87 := Kd.iso (Kd.pair (Kd.int .i64) (Kd.pair (Kd.int .i64) (Kd.int .i64))) (fun x : S87 => (x.f0, x.f1, x.f2))
theorem k87_open {w : World} {x : S87} {cs : List Value} (h : k87.K w x cs) : cs = [.int .i64 x.f0, .int .i64 x.f1, .int .i64 x.f2] := by
  obtain ⟨_, _, rfl, rfl, ⟨_, _, rfl, rfl, rfl⟩⟩ := h
  exact rfl
theorem k87_openM {w : World} {base : Nat} {ok : Nat → Prop} {x : S87} {cs : List Value} (h : k87.M w base ok x cs) : cs = [.int .i64 x.f0, .int .i64 x.f1, .int .i64 x.f2] := by
  obtain ⟨_, _, rfl, rfl, ⟨_, _, rfl, rfl, rfl⟩⟩ := h
  exact rfl
theorem k87_mk (w : World) (x : S87)  : k87.K w x [.int .i64 x.f0, .int .i64 x.f1, .int .i64 x.f2] := ⟨[.int .i64 x.f0], [.int .i64 x.f1, .int .i64 x.f2], rfl, rfl, ⟨[.int .i64 x.f1], [.int .i64 x.f2], rfl, rfl, rfl⟩⟩
theorem k87_mkM (w : World) (base : Nat) (ok : Nat → Prop) (x : S87)  : k87.M w base ok x [.int .i64 x.f0, .int .i64 x.f1, .int .i64 x.f2] := ⟨[.int .i64 x.f0], [.int .i64 x.f1, .int .i64 x.f2], rfl, rfl, ⟨[.int .i64 x.f1], [.int .i64 x.f2], rfl, rfl, rfl⟩⟩
def rd_T87 (xs : List S87) (i : Int) : S87 := xs.getD i.toNat z87
theorem at_T87 {w : World} {A : Option Addr} {n : Nat} {xs : List S87} (h : Kd.C k87 w A n xs) (i : Int) (h0 : 0 ≤ i) (h1 : i < n) : ∃ ad , A = some ad ∧ w.cell? (ad.add (i.toNat * 3)) = some (.int .i64 (rd_T87 xs i).f0) ∧ w.cell? ⟨(ad.add (i.toNat * 3)).block, (ad.add (i.toNat * 3)).off + 1, none⟩ = some (.int .i64 (rd_T87 xs i).f1) ∧ w.cell? ⟨(ad.add (i.toNat * 3)).block, (ad.add (i.toNat * 3)).off + 2, none⟩ = some (.int .i64 (rd_T87 xs i).f2) := by
  obtain ⟨ad, c, e, _, hK, hc0⟩ := Kd.C_get h z87 i h0 h1
  have hc : ∀ j u, c[j]? = some u → w.cell? (ad.add (i.toNat * 3 + j)) = some u := hc0
  obtain rfl := k87_open hK
  exact ⟨ad, e, hc 0 _ rfl, by rw [← add_field _ _ 1 (by omega)]; exact hc 1 _ rfl, by rw [← add_field _ _ 2 (by omega)]; exact hc 2 _ rfl⟩
def rd_L2 (xs : List (List S87)) (i : Int) : (List S87) := xs.getD i.toNat ([] : List S87)
theorem at_L2 {w : World} {A : Option Addr} {n : Nat} {xs : List (List S87)} (h : Kd.C (Kd.slice 87 k87) w A n xs) (i : Int) (h0 : 0 ≤ i) (h1 : i < n) : ∃ ad A0 c0, A = some ad ∧ w.cell? (ad.add i.toNat) = some (.slice A0 (rd_L2 xs i).length c0) ∧ (rd_L2 xs i).length ≤ c0 ∧ k87.C w A0 (rd_L2 xs i).length (rd_L2 xs i) := by
  obtain ⟨ad, c, e, _, hK, hc0⟩ := Kd.C_get h ([] : List S87) i h0 h1
  have hc : ∀ j u, c[j]? = some u → w.cell? (ad.add (i.toNat * 1 + j)) = some u := hc0
  obtain ⟨A0, c0, rfl, l0, g0⟩ := hK
  exact ⟨ad, A0, c0, e, by have hq := hc 0 _ rfl; rwa [Nat.mul_one, Nat.add_zero] at hq, l0, g0⟩
structure S23 where
  f0 : Int
  f1 : Int
def z23 : S23 := ⟨(0 : Int), (0 : Int)⟩
def k23 : Kd S23 := Kd.iso (Kd.pair (Kd.int .i64) (Kd.int .i64)) (fun x : S23 => (x.f0, x.f1))
theorem k23_open {w : World} {x : S23} {cs : List Value} (h : k23.K w x cs) : cs = [.int .i64 x.f0, .int .i64 x.f1] := by
  obtain ⟨_, _, rfl, rfl, rfl⟩ := h
  exact rfl
theorem k23_openM {w : World} {base : Nat} {ok : Nat → Prop} {x : S23} {cs : List Value} (h : k23.M w base ok x cs) : cs = [.int .i64 x.f0, .int .i64 x.f1] := by
  obtain ⟨_, _, rfl, rfl, rfl⟩ := h
  exact rfl
theorem k23_mk (w : World) (x : S23)  : k23.K w x [.int .i64 x.f0, .int .i64 x.f1] := ⟨[.int .i64 x.f0], [.int .i64 x.f1], rfl, rfl, rfl⟩
theorem k23_mkM (w : World) (base : Nat) (ok : Nat → Prop) (x : S23)  : k23.M w base ok x [.int .i64 x.f0, .int .i64 x.f1] := ⟨[.int .i64 x.f0], [.int .i64 x.f1], rfl, rfl, rfl⟩
def rd_T23 (xs : List S23) (i : Int) : S23 := xs.getD i.toNat z23
theorem at_T23 {w : World} {A : Option Addr} {n : Nat} {xs : List S23} (h : Kd.C k23 w A n xs) (i : Int) (h0 : 0 ≤ i) (h1 : i < n) : ∃ ad , A = some ad ∧ w.cell? (ad.add (i.toNat * 2)) = some (.int .i64 (rd_T23 xs i).f0) ∧ w.cell? ⟨(ad.add (i.toNat * 2)).block, (ad.add (i.toNat * 2)).off + 1, none⟩ = some (.int .i64 (rd_T23 xs i).f1) := by
  obtain ⟨ad, c, e, _, hK, hc0⟩ := Kd.C_get h z23 i h0 h1
  have hc : ∀ j u, c[j]? = some u → w.cell? (ad.add (i.toNat * 2 + j)) = some u := hc0
  obtain rfl := k23_open hK
  exact ⟨ad, e, hc 0 _ rfl, by rw [← add_field _ _ 1 (by omega)]; exact hc 1 _ rfl⟩
structure S72 where
  f0 : Int
  f1 : Int
def z72 : S72 := ⟨(0 : Int), (0 : Int)⟩
def k72 : Kd S72 := Kd.iso (Kd.pair (Kd.int .i64) (Kd.int .i64)) (fun x : S72 => (x.f0, x.f1))
theorem k72_open {w : World} {x : S72} {cs : List Value} (h : k72.K w x cs) : cs = [.int .i64 x.f0, .int .i64 x.f1] := by
  obtain ⟨_, _, rfl, rfl, rfl⟩ := h
  exact rfl
theorem k72_openM {w : World} {base : Nat} {ok : Nat → Prop} {x : S72} {cs : List Value} (h : k72.M w base ok x cs) : cs = [.int .i64 x.f0, .int .i64 x.f1] := by
  obtain ⟨_, _, rfl, rfl, rfl⟩ := h
  exact rfl
theorem k72_mk (w : World) (x : S72)  : k72.K w x [.int .i64 x.f0, .int .i64 x.f1] := ⟨[.int .i64 x.f0], [.int .i64 x.f1], rfl, rfl, rfl⟩
theorem k72_mkM (w : World) (base : Nat) (ok : Nat → Prop) (x : S72)  : k72.M w base ok x [.int .i64 x.f0, .int .i64 x.f1] := ⟨[.int .i64 x.f0], [.int .i64 x.f1], rfl, rfl, rfl⟩
def rd_T72 (xs : List S72) (i : Int) : S72 := xs.getD i.toNat z72
theorem at_T72 {w : World} {A : Option Addr} {n : Nat} {xs : List S72} (h : Kd.C k72 w A n xs) (i : Int) (h0 : 0 ≤ i) (h1 : i < n) : ∃ ad , A = some ad ∧ w.cell? (ad.add (i.toNat * 2)) = some (.int .i64 (rd_T72 xs i).f0) ∧ w.cell? ⟨(ad.add (i.toNat * 2)).block, (ad.add (i.toNat * 2)).off + 1, none⟩ = some (.int .i64 (rd_T72 xs i).f1) := by
  obtain ⟨ad, c, e, _, hK, hc0⟩ := Kd.C_get h z72 i h0 h1
  have hc : ∀ j u, c[j]? = some u → w.cell? (ad.add (i.toNat * 2 + j)) = some u := hc0
  obtain rfl := k72_open hK
  exact ⟨ad, e, hc 0 _ rfl, by rw [← add_field _ _ 1 (by omega)]; exact hc 1 _ rfl⟩
def rd_L6 (xs : List (List S72)) (i : Int) : (List S72) := xs.getD i.toNat ([] : List S72)
theorem at_L6 {w : World} {A : Option Addr} {n : Nat} {xs : List (List S72)} (h : Kd.C (Kd.slice 72 k72) w A n xs) (i : Int) (h0 : 0 ≤ i) (h1 : i < n) : ∃ ad A0 c0, A = some ad ∧ w.cell? (ad.add i.toNat) = some (.slice A0 (rd_L6 xs i).length c0) ∧ (rd_L6 xs i).length ≤ c0 ∧ k72.C w A0 (rd_L6 xs i).length (rd_L6 xs i) := by
  obtain ⟨ad, c, e, _, hK, hc0⟩ := Kd.C_get h ([] : List S72) i h0 h1
  have hc : ∀ j u, c[j]? = some u → w.cell? (ad.add (i.toNat * 1 + j)) = some u := hc0
  obtain ⟨A0, c0, rfl, l0, g0⟩ := hK
  exact ⟨ad, A0, c0, e, by have hq := hc 0 _ rfl; rwa [Nat.mul_one, Nat.add_zero] at hq, l0, g0⟩
def rd_L7 (xs : List (List S23)) (i : Int) : (List S23) := xs.getD i.toNat ([] : List S23)
theorem at_L7 {w : World} {A : Option Addr} {n : Nat} {xs : List (List S23)} (h : Kd.C (Kd.slice 23 k23) w A n xs) (i : Int) (h0 : 0 ≤ i) (h1 : i < n) : ∃ ad A0 c0, A = some ad ∧ w.cell? (ad.add i.toNat) = some (.slice A0 (rd_L7 xs i).length c0) ∧ (rd_L7 xs i).length ≤ c0 ∧ k23.C w A0 (rd_L7 xs i).length (rd_L7 xs i) := by
  obtain ⟨ad, c, e, _, hK, hc0⟩ := Kd.C_get h ([] : List S23) i h0 h1
  have hc : ∀ j u, c[j]? = some u → w.cell? (ad.add (i.toNat * 1 + j)) = some u := hc0
  obtain ⟨A0, c0, rfl, l0, g0⟩ := hK
  exact ⟨ad, A0, c0, e, by have hq := hc 0 _ rfl; rwa [Nat.mul_one, Nat.add_zero] at hq, l0, g0⟩
structure S83 where
  f0 : Int
  f1 : S23
  f2 : S23
  f3 : S23
  f4 : Int
  f5 : Int
  f6 : Int
  f7 : (List S72)
  f8 : (List S23)
def z83 : S83 := ⟨(0 : Int), z23, z23, z23, (0 : Int), (0 : Int), (0 : Int), ([] : List S72), ([] : List S23)⟩
def k83 : Kd S83 := Kd.iso (Kd.pair (Kd.int .i64) (Kd.pair k23 (Kd.pair k23 (Kd.pair k23 (Kd.pair (Kd.int .i64) (Kd.pair (Kd.int .i64) (Kd.pair (Kd.int .i64) (Kd.pair (Kd.slice 72 k72) (Kd.slice 23 k23))))))))) (fun x : S83 => (x.f0, x.f1, x.f2, x.f3, x.f4, x.f5, x.f6, x.f7, x.f8))
theorem k83_open {w : World} {x : S83} {cs : List Value} (h : k83.K w x cs) : ∃ A10 c10 A11 c11, cs = [.int .i64 x.f0, .int .i64 x.f1.f0, .int .i64 x.f1.f1, .int .i64 x.f2.f0, .int .i64 x.f2.f1, .int .i64 x.f3.f0, .int .i64 x.f3.f1, .int .i64 x.f4, .int .i64 x.f5, .int .i64 x.f6, .slice A10 x.f7.length c10, .slice A11 x.f8.length c11] ∧ x.f7.length ≤ c10 ∧ k72.C w A10 x.f7.length x.f7 ∧ x.f8.length ≤ c11 ∧ k23.C w A11 x.f8.length x.f8 := by
  obtain ⟨_, _, rfl, rfl, ⟨_, _, rfl, s1, ⟨_, _, rfl, s3, ⟨_, _, rfl, s5, ⟨_, _, rfl, rfl, ⟨_, _, rfl, rfl, ⟨_, _, rfl, rfl, ⟨_, _, rfl, ⟨A10, c10, rfl, l10, g10⟩, ⟨A11, c11, rfl, l11, g11⟩⟩⟩⟩⟩⟩⟩⟩⟩ := h
  obtain rfl := k23_open s1
  obtain rfl := k23_open s3
  obtain rfl := k23_open s5
  exact ⟨A10, c10, A11, c11, rfl, l10, g10, l11, g11⟩
theorem k83_openM {w : World} {base : Nat} {ok : Nat → Prop} {x : S83} {cs : List Value} (h : k83.M w base ok x cs) : ∃ v10 v11, cs = [.int .i64 x.f0, .int .i64 x.f1.f0, .int .i64 x.f1.f1, .int .i64 x.f2.f0, .int .i64 x.f2.f1, .int .i64 x.f3.f0, .int .i64 x.f3.f1, .int .i64 x.f4, .int .i64 x.f5, .int .i64 x.f6, v10, v11] ∧ k72.R 72 w base ok v10 x.f7 ∧ k23.R 23 w base ok v11 x.f8 := by
  obtain ⟨_, _, rfl, rfl, ⟨_, _, rfl, s1, ⟨_, _, rfl, s3, ⟨_, _, rfl, s5, ⟨_, _, rfl, rfl, ⟨_, _, rfl, rfl, ⟨_, _, rfl, rfl, ⟨_, _, rfl, ⟨v10, rfl, g10⟩, ⟨v11, rfl, g11⟩⟩⟩⟩⟩⟩⟩⟩⟩ := h
  obtain rfl := k23_openM s1
  obtain rfl := k23_openM s3
  obtain rfl := k23_openM s5
  exact ⟨v10, v11, rfl, g10, g11⟩
theorem k83_mk (w : World) (x : S83) {A10 : Option Addr} {c10 : Nat} (l10 : x.f7.length ≤ c10) (g10 : k72.C w A10 x.f7.length x.f7) {A11 : Option Addr} {c11 : Nat} (l11 : x.f8.length ≤ c11) (g11 : k23.C w A11 x.f8.length x.f8) : k83.K w x [.int .i64 x.f0, .int .i64 x.f1.f0, .int .i64 x.f1.f1, .int .i64 x.f2.f0, .int .i64 x.f2.f1, .int .i64 x.f3.f0, .int .i64 x.f3.f1, .int .i64 x.f4, .int .i64 x.f5, .int .i64 x.f6, .slice A10 x.f7.length c10, .slice A11 x.f8.length c11] := ⟨[.int .i64 x.f0], [.int .i64 x.f1.f0, .int .i64 x.f1.f1, .int .i64 x.f2.f0, .int .i64 x.f2.f1, .int .i64 x.f3.f0, .int .i64 x.f3.f1, .int .i64 x.f4, .int .i64 x.f5, .int .i64 x.f6, .slice A10 x.f7.length c10, .slice A11 x.f8.length c11], rfl, rfl, ⟨[.int .i64 x.f1.f0, .int .i64 x.f1.f1], [.int .i64 x.f2.f0, .int .i64 x.f2.f1, .int .i64 x.f3.f0, .int .i64 x.f3.f1, .int .i64 x.f4, .int .i64 x.f5, .int .i64 x.f6, .slice A10 x.f7.length c10, .slice A11 x.f8.length c11], rfl, (k23_mk w x.f1 ), ⟨[.int .i64 x.f2.f0, .int .i64 x.f2.f1], [.int .i64 x.f3.f0, .int .i64 x.f3.f1, .int .i64 x.f4, .int .i64 x.f5, .int .i64 x.f6, .slice A10 x.f7.length c10, .slice A11 x.f8.length c11], rfl, (k23_mk w x.f2 ), ⟨[.int .i64 x.f3.f0, .int .i64 x.f3.f1], [.int .i64 x.f4, .int .i64 x.f5, .int .i64 x.f6, .slice A10 x.f7.length c10, .slice A11 x.f8.length c11], rfl, (k23_mk w x.f3 ), ⟨[.int .i64 x.f4], [.int .i64 x.f5, .int .i64 x.f6, .slice A10 x.f7.length c10, .slice A11 x.f8.length c11], rfl, rfl, ⟨[.int .i64 x.f5], [.int .i64 x.f6, .slice A10 x.f7.length c10, .slice A11 x.f8.length c11], rfl, rfl, ⟨[.int .i64 x.f6], [.slice A10 x.f7.length c10, .slice A11 x.f8.length c11], rfl, rfl, ⟨[.slice A10 x.f7.length c10], [.slice A11 x.f8.length c11], rfl, ⟨A10, c10, rfl, l10, g10⟩, ⟨A11, c11, rfl, l11, g11⟩⟩⟩⟩⟩⟩⟩⟩⟩
theorem k83_mkM (w : World) (base : Nat) (ok : Nat → Prop) (x : S83) {v10 : Value} (g10 : k72.R 72 w base ok v10 x.f7) {v11 : Value} (g11 : k23.R 23 w base ok v11 x.f8) : k83.M w base ok x [.int .i64 x.f0, .int .i64 x.f1.f0, .int .i64 x.f1.f1, .int .i64 x.f2.f0, .int .i64 x.f2.f1, .int .i64 x.f3.f0, .int .i64 x.f3.f1, .int .i64 x.f4, .int .i64 x.f5, .int .i64 x.f6, v10, v11] := ⟨[.int .i64 x.f0], [.int .i64 x.f1.f0, .int .i64 x.f1.f1, .int .i64 x.f2.f0, .int .i64 x.f2.f1, .int .i64 x.f3.f0, .int .i64 x.f3.f1, .int .i64 x.f4, .int .i64 x.f5, .int .i64 x.f6, v10, v11], rfl, rfl, ⟨[.int .i64 x.f1.f0, .int .i64 x.f1.f1], [.int .i64 x.f2.f0, .int .i64 x.f2.f1, .int .i64 x.f3.f0, .int .i64 x.f3.f1, .int .i64 x.f4, .int .i64 x.f5, .int .i64 x.f6, v10, v11], rfl, (k23_mkM w base ok x.f1 ), ⟨[.int .i64 x.f2.f0, .int .i64 x.f2.f1], [.int .i64 x.f3.f0, .int .i64 x.f3.f1, .int .i64 x.f4, .int .i64 x.f5, .int .i64 x.f6, v10, v11], rfl, (k23_mkM w base ok x.f2 ), ⟨[.int .i64 x.f3.f0, .int .i64 x.f3.f1], [.int .i64 x.f4, .int .i64 x.f5, .int .i64 x.f6, v10, v11], rfl, (k23_mkM w base ok x.f3 ), ⟨[.int .i64 x.f4], [.int .i64 x.f5, .int .i64 x.f6, v10, v11], rfl, rfl, ⟨[.int .i64 x.f5], [.int .i64 x.f6, v10, v11], rfl, rfl, ⟨[.int .i64 x.f6], [v10, v11], rfl, rfl, ⟨[v10], [v11], rfl, ⟨v10, rfl, g10⟩, ⟨v11, rfl, g11⟩⟩⟩⟩⟩⟩⟩⟩⟩
def rd_T83 (xs : List S83) (i : Int) : S83 := xs.getD i.toNat z83
theorem at_T83 {w : World} {A : Option Addr} {n : Nat} {xs : List S83} (h : Kd.C k83 w A n xs) (i : Int) (h0 : 0 ≤ i) (h1 : i < n) : ∃ ad A10 c10 A11 c11, A = some ad ∧ w.cell? (ad.add (i.toNat * 12)) = some (.int .i64 (rd_T83 xs i).f0) ∧ w.cell? ⟨(ad.add (i.toNat * 12)).block, (ad.add (i.toNat * 12)).off + 1, none⟩ = some (.int .i64 (rd_T83 xs i).f1.f0) ∧ w.cell? ⟨(ad.add (i.toNat * 12)).block, (ad.add (i.toNat * 12)).off + 2, none⟩ = some (.int .i64 (rd_T83 xs i).f1.f1) ∧ w.cell? ⟨(ad.add (i.toNat * 12)).block, (ad.add (i.toNat * 12)).off + 3, none⟩ = some (.int .i64 (rd_T83 xs i).f2.f0) ∧ w.cell? ⟨(ad.add (i.toNat * 12)).block, (ad.add (i.toNat * 12)).off + 4, none⟩ = some (.int .i64 (rd_T83 xs i).f2.f1) ∧ w.cell? ⟨(ad.add (i.toNat * 12)).block, (ad.add (i.toNat * 12)).off + 5, none⟩ = some (.int .i64 (rd_T83 xs i).f3.f0) ∧ w.cell? ⟨(ad.add (i.toNat * 12)).block, (ad.add (i.toNat * 12)).off + 6, none⟩ = some (.int .i64 (rd_T83 xs i).f3.f1) ∧ w.cell? ⟨(ad.add (i.toNat * 12)).block, (ad.add (i.toNat * 12)).off + 7, none⟩ = some (.int .i64 (rd_T83 xs i).f4) ∧ w.cell? ⟨(ad.add (i.toNat * 12)).block, (ad.add (i.toNat * 12)).off + 8, none⟩ = some (.int .i64 (rd_T83 xs i).f5) ∧ w.cell? ⟨(ad.add (i.toNat * 12)).block, (ad.add (i.toNat * 12)).off + 9, none⟩ = some (.int .i64 (rd_T83 xs i).f6) ∧ w.cell? ⟨(ad.add (i.toNat * 12)).block, (ad.add (i.toNat * 12)).off + 10, none⟩ = some (.slice A10 (rd_T83 xs i).f7.length c10) ∧ w.cell? ⟨(ad.add (i.toNat * 12)).block, (ad.add (i.toNat * 12)).off + 11, none⟩ = some (.slice A11 (rd_T83 xs i).f8.length c11) ∧ (rd_T83 xs i).f7.length ≤ c10 ∧ k72.C w A10 (rd_T83 xs i).f7.length (rd_T83 xs i).f7 ∧ (rd_T83 xs i).f8.length ≤ c11 ∧ k23.C w A11 (rd_T83 xs i).f8.length (rd_T83 xs i).f8 := by
  obtain ⟨ad, c, e, _, hK, hc0⟩ := Kd.C_get h z83 i h0 h1
  have hc : ∀ j u, c[j]? = some u → w.cell? (ad.add (i.toNat * 12 + j)) = some u := hc0
  obtain ⟨A10, c10, A11, c11, rfl, l10, g10, l11, g11⟩ := k83_open hK
  exact ⟨ad, A10, c10, A11, c11, e, hc 0 _ rfl, by rw [← add_field _ _ 1 (by omega)]; exact hc 1 _ rfl, by rw [← add_field _ _ 2 (by omega)]; exact hc 2 _ rfl, by rw [← add_field _ _ 3 (by omega)]; exact hc 3 _ rfl, by rw [← add_field _ _ 4 (by omega)]; exact hc 4 _ rfl, by rw [← add_field _ _ 5 (by omega)]; exact hc 5 _ rfl, by rw [← add_field _ _ 6 (by omega)]; exact hc 6 _ rfl, by rw [← add_field _ _ 7 (by omega)]; exact hc 7 _ rfl, by rw [← add_field _ _ 8 (by omega)]; exact hc 8 _ rfl, by rw [← add_field _ _ 9 (by omega)]; exact hc 9 _ rfl, by rw [← add_field _ _ 10 (by omega)]; exact hc 10 _ rfl, by rw [← add_field _ _ 11 (by omega)]; exact hc 11 _ rfl, l10, g10, l11, g11⟩
end Go.Proofs.YtnjhjaifmgjljaaDoor.PM
end

section
namespace Go.Proofs.YtnjhjaifmgjljaaDoor.PM
open Go.RowKit Go.Proofs.YtnjhjaifmgjljaaDoorW.PrintWords Go.Proofs.YtnjhjaifmgjljaaDoorW.PrintLast Go.Proofs.YtnjhjaifmgjljaaDoorW.PrintMore
attribute [local go_sem] max2_int min2_int max_two min_two max_three min_three max_four min_four
set_option linter.unusedVariables false
set_option linter.unusedSimpArgs false
def gtab0 : List S87 := [⟨(0 : Int), (0 : Int), (0 : Int)⟩, ⟨(-9999999999999 : Int), (9999999999999 : Int), (7 : Int)⟩, ⟨(-1000000000 : Int), (1000000000 : Int), (7 : Int)⟩, ⟨(0 : Int), (1 : Int), (4 : Int)⟩, ⟨(0 : Int), (109572 : Int), (6 : Int)⟩, ⟨(0 : Int), (7 : Int), (4 : Int)⟩, ⟨(1 : Int), (5 : Int), (0 : Int)⟩]
end Go.Proofs.YtnjhjaifmgjljaaDoor.PM
end

section
namespace Go.Proofs.YtnjhjaifmgjljaaDoor.PM
open Go.RowKit Go.Proofs.YtnjhjaifmgjljaaDoorW.PrintWords Go.Proofs.YtnjhjaifmgjljaaDoorW.PrintLast Go.Proofs.YtnjhjaifmgjljaaDoorW.PrintMore
attribute [local go_sem] max2_int min2_int max_two min_two max_three min_three max_four min_four
set_option linter.unusedVariables false
set_option linter.unusedSimpArgs false
def money_Valid.f (a0_0 : Int) (a0_1 : Int) : Option (Bool) := if a0_0 ≥ 0 then (if a0_0 ≤ 6 then (if 0 ≤ a0_0 then (if a0_0 < 7 then (if a0_1 ≥ ((rd_T87 gtab0 a0_0).f0) then (some (decide (a0_1 ≤ ((rd_T87 gtab0 a0_0).f1)))) else (some false)) else (none)) else (none)) else (some false)) else (some false)
set_option maxHeartbeats 8000000 in
set_option maxRecDepth 100000 in
theorem money_Valid.calls (a0_0 : Int) (a0_1 : Int) (r : Bool) (w : World) (h : money_Valid.f a0_0 a0_1 = some r) (hg0 : Kd.C k87 w (some ⟨0, 0, none⟩) gtab0.length gtab0) :
  Calls Tryd.prog 18 #[.agg #[.int .i64 a0_0, .int .i64 a0_1]] w fun e w' => e = .returned (.bool r) ∧ Below w.heap.size w w' := by
 have HG0 := Aside0.mk hg0
 clear hg0
 have hu23 := Tryd.underlying23
 have HB := Aside0.mk (Below.refl w.heap.size w)
 have H : (if a0_0 ≥ 0 then (if a0_0 ≤ 6 then (if 0 ≤ a0_0 then (if a0_0 < 7 then (if a0_1 ≥ ((rd_T87 gtab0 a0_0).f0) then (some (decide (a0_1 ≤ ((rd_T87 gtab0 a0_0).f1)))) else (some false)) else (none)) else (none)) else (some false)) else (some false)) = some r := h
 clear h
 by_cases c2 : a0_0 ≥ 0
 ·rw [if_pos c2] at H
  have c2b0 : decide (0 ≤ a0_0) = true := decide_eq_true c2
  clear c2
  by_cases c3 : a0_0 ≤ 6
  ·rw [if_pos c3] at H
   have c3b0 : decide (a0_0 ≤ 6) = true := decide_eq_true c3
   clear c3
   by_cases c4 : 0 ≤ a0_0
   ·rw [if_pos c4] at H
    have c4b0 : decide (0 ≤ a0_0) = true := decide_eq_true c4
    clear c4
    by_cases c5 : a0_0 < 7
    ·rw [if_pos c5] at H
     have c5b0 : decide (a0_0 < 7) = true := decide_eq_true c5
     clear c5
     by_cases c6 : a0_1 ≥ ((rd_T87 gtab0 a0_0).f0)
     ·rw [if_pos c6] at H
      have c6b0 : decide (((rd_T87 gtab0 a0_0).f0) ≤ a0_1) = true := decide_eq_true c6
      clear c6
      obtain rfl := Option.some.inj H
      go_enter Tryd.func18, Tryd.ntmps18
      go_wp2_with (first | ((with_reducible refine gate_dst (N := 1) rfl ?_); refine bxe (N := 1) (cs := #[.int .i64 a0_0, .int .i64 a0_1]) (t := 23) ?_; intro gb101 hg w7 hbox hb; have BK101 := Aside0.mk (hbox); have GW101 : Aside0 (w.heap.size ≤ gb101) := gwx hg; have GE101 : Aside0 (w.heap.size ≤ gb101) := gwx hg; replace HB := Aside0.mk (below_step blx hb); clear hb hbox hg; obtain ⟨hcz8_0, hcz8_1, hfz8_0, hfz8_1⟩ := c2_ BK101; have p102 : 0 ≤ (a0_0 : Int) := odx; have q102 : a0_0 < (gtab0.length : Int) := odx; have ql102 : ((a0_0 : Int) < (7 : Int)) = True := eq_true (odx); obtain ⟨ad102, e102, hx102_0, hx102_1, hx102_2⟩ := at_T87 HG0.out a0_0 p102 q102; obtain rfl : (⟨0, 0, none⟩ : Addr) = ad102 := (by injection e102); (first | simp only [add_plain] at hx102_0 | simp only [add_at] at hx102_0 | simp only [Addr.add, Nat.zero_add] at hx102_0 | skip); (first | simp only [add_plain] at hx102_1 | simp only [add_at] at hx102_1 | simp only [Addr.add, Nat.zero_add] at hx102_1 | skip); (first | simp only [add_plain] at hx102_2 | simp only [add_at] at hx102_2 | simp only [Addr.add, Nat.zero_add] at hx102_2 | skip); replace hx102_0 := (HB.out.cell (World.block_lt_of_cell? w _ hx102_0)).trans hx102_0; replace hx102_1 := (HB.out.cell (World.block_lt_of_cell? w _ hx102_1)).trans hx102_1; replace hx102_2 := (HB.out.cell (World.block_lt_of_cell? w _ hx102_2)).trans hx102_2; replace p102 := eq_true p102; replace q102 := eq_true q102; have p103 : 0 ≤ (a0_0 : Int) := odx; have q103 : a0_0 < (gtab0.length : Int) := odx; have ql103 : ((a0_0 : Int) < (7 : Int)) = True := eq_true (odx); obtain ⟨ad103, e103, hx103_0, hx103_1, hx103_2⟩ := at_T87 HG0.out a0_0 p103 q103; obtain rfl : (⟨0, 0, none⟩ : Addr) = ad103 := (by injection e103); (first | simp only [add_plain] at hx103_0 | simp only [add_at] at hx103_0 | simp only [Addr.add, Nat.zero_add] at hx103_0 | skip); (first | simp only [add_plain] at hx103_1 | simp only [add_at] at hx103_1 | simp only [Addr.add, Nat.zero_add] at hx103_1 | skip); (first | simp only [add_plain] at hx103_2 | simp only [add_at] at hx103_2 | simp only [Addr.add, Nat.zero_add] at hx103_2 | skip); replace hx103_0 := (HB.out.cell (World.block_lt_of_cell? w _ hx103_0)).trans hx103_0; replace hx103_1 := (HB.out.cell (World.block_lt_of_cell? w _ hx103_1)).trans hx103_1; replace hx103_2 := (HB.out.cell (World.block_lt_of_cell? w _ hx103_2)).trans hx103_2; replace p103 := eq_true p103; replace q103 := eq_true q103))
      repeat (go_quiet (first | ((with_reducible refine gate_dst (N := 1) rfl ?_); refine bxe (N := 1) (cs := #[.int .i64 a0_0, .int .i64 a0_1]) (t := 23) ?_; intro gb101 hg w7 hbox hb; have BK101 := Aside0.mk (hbox); have GW101 : Aside0 (w.heap.size ≤ gb101) := gwx hg; have GE101 : Aside0 (w.heap.size ≤ gb101) := gwx hg; replace HB := Aside0.mk (below_step blx hb); clear hb hbox hg; obtain ⟨hcz8_0, hcz8_1, hfz8_0, hfz8_1⟩ := c2_ BK101; have p102 : 0 ≤ (a0_0 : Int) := odx; have q102 : a0_0 < (gtab0.length : Int) := odx; have ql102 : ((a0_0 : Int) < (7 : Int)) = True := eq_true (odx); obtain ⟨ad102, e102, hx102_0, hx102_1, hx102_2⟩ := at_T87 HG0.out a0_0 p102 q102; obtain rfl : (⟨0, 0, none⟩ : Addr) = ad102 := (by injection e102); (first | simp only [add_plain] at hx102_0 | simp only [add_at] at hx102_0 | simp only [Addr.add, Nat.zero_add] at hx102_0 | skip); (first | simp only [add_plain] at hx102_1 | simp only [add_at] at hx102_1 | simp only [Addr.add, Nat.zero_add] at hx102_1 | skip); (first | simp only [add_plain] at hx102_2 | simp only [add_at] at hx102_2 | simp only [Addr.add, Nat.zero_add] at hx102_2 | skip); replace hx102_0 := (HB.out.cell (World.block_lt_of_cell? w _ hx102_0)).trans hx102_0; replace hx102_1 := (HB.out.cell (World.block_lt_of_cell? w _ hx102_1)).trans hx102_1; replace hx102_2 := (HB.out.cell (World.block_lt_of_cell? w _ hx102_2)).trans hx102_2; replace p102 := eq_true p102; replace q102 := eq_true q102; have p103 : 0 ≤ (a0_0 : Int) := odx; have q103 : a0_0 < (gtab0.length : Int) := odx; have ql103 : ((a0_0 : Int) < (7 : Int)) = True := eq_true (odx); obtain ⟨ad103, e103, hx103_0, hx103_1, hx103_2⟩ := at_T87 HG0.out a0_0 p103 q103; obtain rfl : (⟨0, 0, none⟩ : Addr) = ad103 := (by injection e103); (first | simp only [add_plain] at hx103_0 | simp only [add_at] at hx103_0 | simp only [Addr.add, Nat.zero_add] at hx103_0 | skip); (first | simp only [add_plain] at hx103_1 | simp only [add_at] at hx103_1 | simp only [Addr.add, Nat.zero_add] at hx103_1 | skip); (first | simp only [add_plain] at hx103_2 | simp only [add_at] at hx103_2 | simp only [Addr.add, Nat.zero_add] at hx103_2 | skip); replace hx103_0 := (HB.out.cell (World.block_lt_of_cell? w _ hx103_0)).trans hx103_0; replace hx103_1 := (HB.out.cell (World.block_lt_of_cell? w _ hx103_1)).trans hx103_1; replace hx103_2 := (HB.out.cell (World.block_lt_of_cell? w _ hx103_2)).trans hx103_2; replace p103 := eq_true p103; replace q103 := eq_true q103)); try go_wp2_with (first | ((with_reducible refine gate_dst (N := 1) rfl ?_); refine bxe (N := 1) (cs := #[.int .i64 a0_0, .int .i64 a0_1]) (t := 23) ?_; intro gb101 hg w7 hbox hb; have BK101 := Aside0.mk (hbox); have GW101 : Aside0 (w.heap.size ≤ gb101) := gwx hg; have GE101 : Aside0 (w.heap.size ≤ gb101) := gwx hg; replace HB := Aside0.mk (below_step blx hb); clear hb hbox hg; obtain ⟨hcz8_0, hcz8_1, hfz8_0, hfz8_1⟩ := c2_ BK101; have p102 : 0 ≤ (a0_0 : Int) := odx; have q102 : a0_0 < (gtab0.length : Int) := odx; have ql102 : ((a0_0 : Int) < (7 : Int)) = True := eq_true (odx); obtain ⟨ad102, e102, hx102_0, hx102_1, hx102_2⟩ := at_T87 HG0.out a0_0 p102 q102; obtain rfl : (⟨0, 0, none⟩ : Addr) = ad102 := (by injection e102); (first | simp only [add_plain] at hx102_0 | simp only [add_at] at hx102_0 | simp only [Addr.add, Nat.zero_add] at hx102_0 | skip); (first | simp only [add_plain] at hx102_1 | simp only [add_at] at hx102_1 | simp only [Addr.add, Nat.zero_add] at hx102_1 | skip); (first | simp only [add_plain] at hx102_2 | simp only [add_at] at hx102_2 | simp only [Addr.add, Nat.zero_add] at hx102_2 | skip); replace hx102_0 := (HB.out.cell (World.block_lt_of_cell? w _ hx102_0)).trans hx102_0; replace hx102_1 := (HB.out.cell (World.block_lt_of_cell? w _ hx102_1)).trans hx102_1; replace hx102_2 := (HB.out.cell (World.block_lt_of_cell? w _ hx102_2)).trans hx102_2; replace p102 := eq_true p102; replace q102 := eq_true q102; have p103 : 0 ≤ (a0_0 : Int) := odx; have q103 : a0_0 < (gtab0.length : Int) := odx; have ql103 : ((a0_0 : Int) < (7 : Int)) = True := eq_true (odx); obtain ⟨ad103, e103, hx103_0, hx103_1, hx103_2⟩ := at_T87 HG0.out a0_0 p103 q103; obtain rfl : (⟨0, 0, none⟩ : Addr) = ad103 := (by injection e103); (first | simp only [add_plain] at hx103_0 | simp only [add_at] at hx103_0 | simp only [Addr.add, Nat.zero_add] at hx103_0 | skip); (first | simp only [add_plain] at hx103_1 | simp only [add_at] at hx103_1 | simp only [Addr.add, Nat.zero_add] at hx103_1 | skip); (first | simp only [add_plain] at hx103_2 | simp only [add_at] at hx103_2 | simp only [Addr.add, Nat.zero_add] at hx103_2 | skip); replace hx103_0 := (HB.out.cell (World.block_lt_of_cell? w _ hx103_0)).trans hx103_0; replace hx103_1 := (HB.out.cell (World.block_lt_of_cell? w _ hx103_1)).trans hx103_1; replace hx103_2 := (HB.out.cell (World.block_lt_of_cell? w _ hx103_2)).trans hx103_2; replace p103 := eq_true p103; replace q103 := eq_true q103)))
      go_ret
      exact ⟨by first | rfl | (simp [errW_none, errW_some] <;> rfl) | (simp [*, errW_none, errW_some] <;> rfl), blx⟩
     ·rw [if_neg c6] at H
      have c6b0 : decide (((rd_T87 gtab0 a0_0).f0) ≤ a0_1) = false := decide_eq_false c6
      clear c6
      obtain rfl := Option.some.inj H
      go_enter Tryd.func18, Tryd.ntmps18
      go_wp2_with (first | ((with_reducible refine gate_dst (N := 1) rfl ?_); refine bxe (N := 1) (cs := #[.int .i64 a0_0, .int .i64 a0_1]) (t := 23) ?_; intro gb101 hg w9 hbox hb; have BK101 := Aside0.mk (hbox); have GW101 : Aside0 (w.heap.size ≤ gb101) := gwx hg; have GE101 : Aside0 (w.heap.size ≤ gb101) := gwx hg; replace HB := Aside0.mk (below_step blx hb); clear hb hbox hg; obtain ⟨hcz10_0, hcz10_1, hfz10_0, hfz10_1⟩ := c2_ BK101; have p102 : 0 ≤ (a0_0 : Int) := odx; have q102 : a0_0 < (gtab0.length : Int) := odx; have ql102 : ((a0_0 : Int) < (7 : Int)) = True := eq_true (odx); obtain ⟨ad102, e102, hx102_0, hx102_1, hx102_2⟩ := at_T87 HG0.out a0_0 p102 q102; obtain rfl : (⟨0, 0, none⟩ : Addr) = ad102 := (by injection e102); (first | simp only [add_plain] at hx102_0 | simp only [add_at] at hx102_0 | simp only [Addr.add, Nat.zero_add] at hx102_0 | skip); (first | simp only [add_plain] at hx102_1 | simp only [add_at] at hx102_1 | simp only [Addr.add, Nat.zero_add] at hx102_1 | skip); (first | simp only [add_plain] at hx102_2 | simp only [add_at] at hx102_2 | simp only [Addr.add, Nat.zero_add] at hx102_2 | skip); replace hx102_0 := (HB.out.cell (World.block_lt_of_cell? w _ hx102_0)).trans hx102_0; replace hx102_1 := (HB.out.cell (World.block_lt_of_cell? w _ hx102_1)).trans hx102_1; replace hx102_2 := (HB.out.cell (World.block_lt_of_cell? w _ hx102_2)).trans hx102_2; replace p102 := eq_true p102; replace q102 := eq_true q102))
      repeat (go_quiet (first | ((with_reducible refine gate_dst (N := 1) rfl ?_); refine bxe (N := 1) (cs := #[.int .i64 a0_0, .int .i64 a0_1]) (t := 23) ?_; intro gb101 hg w9 hbox hb; have BK101 := Aside0.mk (hbox); have GW101 : Aside0 (w.heap.size ≤ gb101) := gwx hg; have GE101 : Aside0 (w.heap.size ≤ gb101) := gwx hg; replace HB := Aside0.mk (below_step blx hb); clear hb hbox hg; obtain ⟨hcz10_0, hcz10_1, hfz10_0, hfz10_1⟩ := c2_ BK101; have p102 : 0 ≤ (a0_0 : Int) := odx; have q102 : a0_0 < (gtab0.length : Int) := odx; have ql102 : ((a0_0 : Int) < (7 : Int)) = True := eq_true (odx); obtain ⟨ad102, e102, hx102_0, hx102_1, hx102_2⟩ := at_T87 HG0.out a0_0 p102 q102; obtain rfl : (⟨0, 0, none⟩ : Addr) = ad102 := (by injection e102); (first | simp only [add_plain] at hx102_0 | simp only [add_at] at hx102_0 | simp only [Addr.add, Nat.zero_add] at hx102_0 | skip); (first | simp only [add_plain] at hx102_1 | simp only [add_at] at hx102_1 | simp only [Addr.add, Nat.zero_add] at hx102_1 | skip); (first | simp only [add_plain] at hx102_2 | simp only [add_at] at hx102_2 | simp only [Addr.add, Nat.zero_add] at hx102_2 | skip); replace hx102_0 := (HB.out.cell (World.block_lt_of_cell? w _ hx102_0)).trans hx102_0; replace hx102_1 := (HB.out.cell (World.block_lt_of_cell? w _ hx102_1)).trans hx102_1; replace hx102_2 := (HB.out.cell (World.block_lt_of_cell? w _ hx102_2)).trans hx102_2; replace p102 := eq_true p102; replace q102 := eq_true q102)); try go_wp2_with (first | ((with_reducible refine gate_dst (N := 1) rfl ?_); refine bxe (N := 1) (cs := #[.int .i64 a0_0, .int .i64 a0_1]) (t := 23) ?_; intro gb101 hg w9 hbox hb; have BK101 := Aside0.mk (hbox); have GW101 : Aside0 (w.heap.size ≤ gb101) := gwx hg; have GE101 : Aside0 (w.heap.size ≤ gb101) := gwx hg; replace HB := Aside0.mk (below_step blx hb); clear hb hbox hg; obtain ⟨hcz10_0, hcz10_1, hfz10_0, hfz10_1⟩ := c2_ BK101; have p102 : 0 ≤ (a0_0 : Int) := odx; have q102 : a0_0 < (gtab0.length : Int) := odx; have ql102 : ((a0_0 : Int) < (7 : Int)) = True := eq_true (odx); obtain ⟨ad102, e102, hx102_0, hx102_1, hx102_2⟩ := at_T87 HG0.out a0_0 p102 q102; obtain rfl : (⟨0, 0, none⟩ : Addr) = ad102 := (by injection e102); (first | simp only [add_plain] at hx102_0 | simp only [add_at] at hx102_0 | simp only [Addr.add, Nat.zero_add] at hx102_0 | skip); (first | simp only [add_plain] at hx102_1 | simp only [add_at] at hx102_1 | simp only [Addr.add, Nat.zero_add] at hx102_1 | skip); (first | simp only [add_plain] at hx102_2 | simp only [add_at] at hx102_2 | simp only [Addr.add, Nat.zero_add] at hx102_2 | skip); replace hx102_0 := (HB.out.cell (World.block_lt_of_cell? w _ hx102_0)).trans hx102_0; replace hx102_1 := (HB.out.cell (World.block_lt_of_cell? w _ hx102_1)).trans hx102_1; replace hx102_2 := (HB.out.cell (World.block_lt_of_cell? w _ hx102_2)).trans hx102_2; replace p102 := eq_true p102; replace q102 := eq_true q102)))
      go_ret
      exact ⟨by first | rfl | (simp [errW_none, errW_some] <;> rfl) | (simp [*, errW_none, errW_some] <;> rfl), blx⟩
    ·rw [if_neg c5] at H
     exact absurd H (by simp)
   ·rw [if_neg c4] at H
    exact absurd H (by simp)
  ·rw [if_neg c3] at H
   have c3b0 : decide (a0_0 ≤ 6) = false := decide_eq_false c3
   clear c3
   obtain rfl := Option.some.inj H
   go_enter Tryd.func18, Tryd.ntmps18
   go_wp2_with (first | ((with_reducible refine gate_dst (N := 1) rfl ?_); refine bxe (N := 1) (cs := #[.int .i64 a0_0, .int .i64 a0_1]) (t := 23) ?_; intro gb101 hg w11 hbox hb; have BK101 := Aside0.mk (hbox); have GW101 : Aside0 (w.heap.size ≤ gb101) := gwx hg; have GE101 : Aside0 (w.heap.size ≤ gb101) := gwx hg; replace HB := Aside0.mk (below_step blx hb); clear hb hbox hg; obtain ⟨hcz12_0, hcz12_1, hfz12_0, hfz12_1⟩ := c2_ BK101))
   repeat (go_quiet (first | ((with_reducible refine gate_dst (N := 1) rfl ?_); refine bxe (N := 1) (cs := #[.int .i64 a0_0, .int .i64 a0_1]) (t := 23) ?_; intro gb101 hg w11 hbox hb; have BK101 := Aside0.mk (hbox); have GW101 : Aside0 (w.heap.size ≤ gb101) := gwx hg; have GE101 : Aside0 (w.heap.size ≤ gb101) := gwx hg; replace HB := Aside0.mk (below_step blx hb); clear hb hbox hg; obtain ⟨hcz12_0, hcz12_1, hfz12_0, hfz12_1⟩ := c2_ BK101)); try go_wp2_with (first | ((with_reducible refine gate_dst (N := 1) rfl ?_); refine bxe (N := 1) (cs := #[.int .i64 a0_0, .int .i64 a0_1]) (t := 23) ?_; intro gb101 hg w11 hbox hb; have BK101 := Aside0.mk (hbox); have GW101 : Aside0 (w.heap.size ≤ gb101) := gwx hg; have GE101 : Aside0 (w.heap.size ≤ gb101) := gwx hg; replace HB := Aside0.mk (below_step blx hb); clear hb hbox hg; obtain ⟨hcz12_0, hcz12_1, hfz12_0, hfz12_1⟩ := c2_ BK101)))
   go_ret
   exact ⟨by first | rfl | (simp [errW_none, errW_some] <;> rfl) | (simp [*, errW_none, errW_some] <;> rfl), blx⟩
 ·rw [if_neg c2] at H
  have c2b0 : decide (0 ≤ a0_0) = false := decide_eq_false c2
  clear c2
  obtain rfl := Option.some.inj H
  go_enter Tryd.func18, Tryd.ntmps18
  go_wp2_with (first | ((with_reducible refine gate_dst (N := 1) rfl ?_); refine bxe (N := 1) (cs := #[.int .i64 a0_0, .int .i64 a0_1]) (t := 23) ?_; intro gb101 hg w13 hbox hb; have BK101 := Aside0.mk (hbox); have GW101 : Aside0 (w.heap.size ≤ gb101) := gwx hg; have GE101 : Aside0 (w.heap.size ≤ gb101) := gwx hg; replace HB := Aside0.mk (below_step blx hb); clear hb hbox hg; obtain ⟨hcz14_0, hcz14_1, hfz14_0, hfz14_1⟩ := c2_ BK101))
  repeat (go_quiet (first | ((with_reducible refine gate_dst (N := 1) rfl ?_); refine bxe (N := 1) (cs := #[.int .i64 a0_0, .int .i64 a0_1]) (t := 23) ?_; intro gb101 hg w13 hbox hb; have BK101 := Aside0.mk (hbox); have GW101 : Aside0 (w.heap.size ≤ gb101) := gwx hg; have GE101 : Aside0 (w.heap.size ≤ gb101) := gwx hg; replace HB := Aside0.mk (below_step blx hb); clear hb hbox hg; obtain ⟨hcz14_0, hcz14_1, hfz14_0, hfz14_1⟩ := c2_ BK101)); try go_wp2_with (first | ((with_reducible refine gate_dst (N := 1) rfl ?_); refine bxe (N := 1) (cs := #[.int .i64 a0_0, .int .i64 a0_1]) (t := 23) ?_; intro gb101 hg w13 hbox hb; have BK101 := Aside0.mk (hbox); have GW101 : Aside0 (w.heap.size ≤ gb101) := gwx hg; have GE101 : Aside0 (w.heap.size ≤ gb101) := gwx hg; replace HB := Aside0.mk (below_step blx hb); clear hb hbox hg; obtain ⟨hcz14_0, hcz14_1, hfz14_0, hfz14_1⟩ := c2_ BK101)))
  go_ret
  exact ⟨by first | rfl | (simp [errW_none, errW_some] <;> rfl) | (simp [*, errW_none, errW_some] <;> rfl), blx⟩
end Go.Proofs.YtnjhjaifmgjljaaDoor.PM
end

section
namespace Go.Proofs.YtnjhjaifmgjljaaDoor.PM
open Go.RowKit Go.Proofs.YtnjhjaifmgjljaaDoorW.PrintWords Go.Proofs.YtnjhjaifmgjljaaDoorW.PrintLast Go.Proofs.YtnjhjaifmgjljaaDoorW.PrintMore
attribute [local go_sem] max2_int min2_int max_two min_two max_three min_three max_four min_four
set_option linter.unusedVariables false
set_option linter.unusedSimpArgs false
def money_fault.f (a0 : Int) : Option (Int × Int) := some (6, a0)
set_option maxHeartbeats 8000000 in
set_option maxRecDepth 100000 in
theorem money_fault.calls (a0 : Int) (r1 : Int) (r2 : Int) (w : World) (h : money_fault.f a0 = some (r1, r2)) :
  Calls Tryd.prog 59 #[.int .i64 a0] w fun e w' => e = .returned (.agg #[.int .i64 r1, .int .i64 r2]) ∧ Below w.heap.size w w' := by
 have hu23 := Tryd.underlying23
 have HB := Aside0.mk (Below.refl w.heap.size w)
 have H : (some (6, a0)) = some (r1, r2) := h
 clear h
 simp only [Option.some.injEq, Prod.mk.injEq] at H
 obtain ⟨rfl, rfl⟩ := H
 go_enter Tryd.func59, Tryd.ntmps59
 go_wp2_with (first | ((with_reducible refine gate_dst (N := 2) rfl ?_); refine bxe (N := 2) (cs := #[.int .i64 0, .int .i64 0]) (t := 23) ?_; intro gb137 hg w2 hbox hb; have BK137 := Aside0.mk (hbox); have GW137 : Aside0 (w.heap.size ≤ gb137) := gwx hg; have GE137 : Aside0 (w.heap.size ≤ gb137) := gwx hg; replace HB := Aside0.mk (below_step blx hb); clear hb hbox hg; obtain ⟨hcz3_0, hcz3_1, hfz3_0, hfz3_1⟩ := c2_ BK137))
 refine bodyPost_ret (results_cell_row rfl _ _ gb137 23 #[.int .i64 6, .int .i64 a0] (0, 0) _ rfl (by (with_reducible repeat (first | refine blk_drewN ?_ _ | refine blk_drew ?_ | refine blk_alloc ?_ _)); refine blk_put (cs := #[.int .i64 6, .int .i64 0]) ?_ 1 _ rfl; (with_reducible repeat (first | refine blk_drewN ?_ _ | refine blk_drew ?_ | refine blk_alloc ?_ _)); refine blk_put (cs := #[.int .i64 0, .int .i64 0]) ?_ 0 _ rfl; (with_reducible repeat (first | refine blk_drewN ?_ _ | refine blk_drew ?_ | refine blk_alloc ?_ _)); exact BK137.out) Tryd.underlying23 rfl (by kernel_rfl)) rfl ?_
 exact ⟨by first | rfl | (simp [errW_none, errW_some] <;> rfl) | (simp [*, errW_none, errW_some] <;> rfl), blx⟩
end Go.Proofs.YtnjhjaifmgjljaaDoor.PM
end

section
namespace Go.Proofs.YtnjhjaifmgjljaaDoor.PM
open Go.RowKit Go.Proofs.YtnjhjaifmgjljaaDoorW.PrintWords Go.Proofs.YtnjhjaifmgjljaaDoorW.PrintLast Go.Proofs.YtnjhjaifmgjljaaDoorW.PrintMore
attribute [local go_sem] max2_int min2_int max_two min_two max_three min_three max_four min_four
set_option linter.unusedVariables false
set_option linter.unusedSimpArgs false
def money_checked.f (a0 : Int) (a1 : Int) : Option (Int × Int) := if 0 ≤ a0 then (if a0 < 7 then (if a1 < ((rd_T87 gtab0 a0).f0) then ((money_fault.f 1).bind fun bt140 => (some (bt140.1, bt140.2))) else (if a1 > ((rd_T87 gtab0 a0).f1) then ((money_fault.f 1).bind fun bt143 => (some (bt143.1, bt143.2))) else (some (a0, a1)))) else (none)) else (none)
set_option maxHeartbeats 8000000 in
set_option maxRecDepth 100000 in
theorem money_checked.calls (a0 : Int) (a1 : Int) (r1 : Int) (r2 : Int) (w : World) (h : money_checked.f a0 a1 = some (r1, r2)) (hg0 : Kd.C k87 w (some ⟨0, 0, none⟩) gtab0.length gtab0) :
  Calls Tryd.prog 60 #[.int .i64 a0, .int .i64 a1] w fun e w' => e = .returned (.agg #[.int .i64 r1, .int .i64 r2]) ∧ Below w.heap.size w w' := by
 have HG0 := Aside0.mk hg0
 clear hg0
 have hu23 := Tryd.underlying23
 have HB := Aside0.mk (Below.refl w.heap.size w)
 have H : (if 0 ≤ a0 then (if a0 < 7 then (if a1 < ((rd_T87 gtab0 a0).f0) then ((money_fault.f 1).bind fun bt140 => (some (bt140.1, bt140.2))) else (if a1 > ((rd_T87 gtab0 a0).f1) then ((money_fault.f 1).bind fun bt143 => (some (bt143.1, bt143.2))) else (some (a0, a1)))) else (none)) else (none)) = some (r1, r2) := h
 clear h
 by_cases c3 : 0 ≤ a0
 ·rw [if_pos c3] at H
  have c3b0 : decide (0 ≤ a0) = true := decide_eq_true c3
  clear c3
  by_cases c4 : a0 < 7
  ·rw [if_pos c4] at H
   have c4b0 : decide (a0 < 7) = true := decide_eq_true c4
   clear c4
   by_cases c5 : a1 < ((rd_T87 gtab0 a0).f0)
   ·rw [if_pos c5] at H
    have c5b0 : decide (a1 < ((rd_T87 gtab0 a0).f0)) = true := decide_eq_true c5
    clear c5
    replace H := Option.bind_eq_some_iff.mp H
    obtain ⟨⟨t140, t141⟩, A60, H⟩ := H
    replace H : (some (t140, t141)) = some (r1, r2) := H
    have A6 := Aside0.mk A60
    clear A60
    simp only [Option.some.injEq, Prod.mk.injEq] at H
    obtain ⟨rfl, rfl⟩ := H
    go_enter Tryd.func60, Tryd.ntmps60
    go_wp2_with (first | ((with_reducible refine gate_dst (N := 4) rfl ?_); refine bxe (N := 4) (cs := #[.int .i64 0, .int .i64 0]) (t := 23) ?_; intro gb138 hg w7 hbox hb; have BK138 := Aside0.mk (hbox); have GW138 : Aside0 (w.heap.size ≤ gb138) := gwx hg; have GE138 : Aside0 (w.heap.size ≤ gb138) := gwx hg; replace HB := Aside0.mk (below_step blx hb); clear hb hbox hg; have p139 : 0 ≤ (a0 : Int) := odx; have q139 : a0 < (gtab0.length : Int) := odx; have ql139 : ((a0 : Int) < (7 : Int)) = True := eq_true (odx); obtain ⟨ad139, e139, hx139_0, hx139_1, hx139_2⟩ := at_T87 HG0.out a0 p139 q139; obtain rfl : (⟨0, 0, none⟩ : Addr) = ad139 := (by injection e139); (first | simp only [add_plain] at hx139_0 | simp only [add_at] at hx139_0 | simp only [Addr.add, Nat.zero_add] at hx139_0 | skip); (first | simp only [add_plain] at hx139_1 | simp only [add_at] at hx139_1 | simp only [Addr.add, Nat.zero_add] at hx139_1 | skip); (first | simp only [add_plain] at hx139_2 | simp only [add_at] at hx139_2 | simp only [Addr.add, Nat.zero_add] at hx139_2 | skip); replace hx139_0 := (HB.out.cell (World.block_lt_of_cell? w _ hx139_0)).trans hx139_0; replace hx139_1 := (HB.out.cell (World.block_lt_of_cell? w _ hx139_1)).trans hx139_1; replace hx139_2 := (HB.out.cell (World.block_lt_of_cell? w _ hx139_2)).trans hx139_2; replace p139 := eq_true p139; replace q139 := eq_true q139) | ((with_reducible refine gate_callee (f := 59) rfl ?_); refine goesL_ (some 19) rfl rfl Tryd.func59 (by kernel_rfl) rfl #[.int .i64 1] rfl agx ?_; (with_reducible refine (money_fault.calls 1 t140 t141 _ A6.out).mono ?_); rintro e w8 ⟨rfl, hb⟩; refine ⟨_, rfl, ?_⟩; replace BK138 := bkq BK138 hb; replace HB := Aside0.mk (below_step blx hb); (try clear hb); (try clear hb2); (try clear hk); (try clear hi); obtain ⟨hcz9_0, hcz9_1, hfz9_0, hfz9_1⟩ := c2_ BK138))
    refine bodyPost_ret (results_cell_row rfl _ _ gb138 23 #[.int .i64 t140, .int .i64 t141] (0, 0) _ rfl (by (with_reducible repeat (first | refine blk_drewN ?_ _ | refine blk_drew ?_ | refine blk_alloc ?_ _)); refine blk_put (cs := #[.int .i64 t140, .int .i64 0]) ?_ 1 _ rfl; (with_reducible repeat (first | refine blk_drewN ?_ _ | refine blk_drew ?_ | refine blk_alloc ?_ _)); refine blk_put (cs := #[.int .i64 0, .int .i64 0]) ?_ 0 _ rfl; (with_reducible repeat (first | refine blk_drewN ?_ _ | refine blk_drew ?_ | refine blk_alloc ?_ _)); exact BK138.out) Tryd.underlying23 rfl (by kernel_rfl)) rfl ?_
    exact ⟨by first | rfl | (simp [errW_none, errW_some] <;> rfl) | (simp [*, errW_none, errW_some] <;> rfl), blx⟩
   ·rw [if_neg c5] at H
    have c5b0 : decide (a1 < ((rd_T87 gtab0 a0).f0)) = false := decide_eq_false c5
    clear c5
    by_cases c10 : a1 > ((rd_T87 gtab0 a0).f1)
    ·rw [if_pos c10] at H
     have c10b0 : decide (((rd_T87 gtab0 a0).f1) < a1) = true := decide_eq_true c10
     clear c10
     replace H := Option.bind_eq_some_iff.mp H
     obtain ⟨⟨t143, t144⟩, A110, H⟩ := H
     replace H : (some (t143, t144)) = some (r1, r2) := H
     have A11 := Aside0.mk A110
     clear A110
     simp only [Option.some.injEq, Prod.mk.injEq] at H
     obtain ⟨rfl, rfl⟩ := H
     go_enter Tryd.func60, Tryd.ntmps60
     go_wp2_with (first | ((with_reducible refine gate_dst (N := 4) rfl ?_); refine bxe (N := 4) (cs := #[.int .i64 0, .int .i64 0]) (t := 23) ?_; intro gb138 hg w12 hbox hb; have BK138 := Aside0.mk (hbox); have GW138 : Aside0 (w.heap.size ≤ gb138) := gwx hg; have GE138 : Aside0 (w.heap.size ≤ gb138) := gwx hg; replace HB := Aside0.mk (below_step blx hb); clear hb hbox hg; have p139 : 0 ≤ (a0 : Int) := odx; have q139 : a0 < (gtab0.length : Int) := odx; have ql139 : ((a0 : Int) < (7 : Int)) = True := eq_true (odx); obtain ⟨ad139, e139, hx139_0, hx139_1, hx139_2⟩ := at_T87 HG0.out a0 p139 q139; obtain rfl : (⟨0, 0, none⟩ : Addr) = ad139 := (by injection e139); (first | simp only [add_plain] at hx139_0 | simp only [add_at] at hx139_0 | simp only [Addr.add, Nat.zero_add] at hx139_0 | skip); (first | simp only [add_plain] at hx139_1 | simp only [add_at] at hx139_1 | simp only [Addr.add, Nat.zero_add] at hx139_1 | skip); (first | simp only [add_plain] at hx139_2 | simp only [add_at] at hx139_2 | simp only [Addr.add, Nat.zero_add] at hx139_2 | skip); replace hx139_0 := (HB.out.cell (World.block_lt_of_cell? w _ hx139_0)).trans hx139_0; replace hx139_1 := (HB.out.cell (World.block_lt_of_cell? w _ hx139_1)).trans hx139_1; replace hx139_2 := (HB.out.cell (World.block_lt_of_cell? w _ hx139_2)).trans hx139_2; replace p139 := eq_true p139; replace q139 := eq_true q139; have p142 : 0 ≤ (a0 : Int) := odx; have q142 : a0 < (gtab0.length : Int) := odx; have ql142 : ((a0 : Int) < (7 : Int)) = True := eq_true (odx); obtain ⟨ad142, e142, hx142_0, hx142_1, hx142_2⟩ := at_T87 HG0.out a0 p142 q142; obtain rfl : (⟨0, 0, none⟩ : Addr) = ad142 := (by injection e142); (first | simp only [add_plain] at hx142_0 | simp only [add_at] at hx142_0 | simp only [Addr.add, Nat.zero_add] at hx142_0 | skip); (first | simp only [add_plain] at hx142_1 | simp only [add_at] at hx142_1 | simp only [Addr.add, Nat.zero_add] at hx142_1 | skip); (first | simp only [add_plain] at hx142_2 | simp only [add_at] at hx142_2 | simp only [Addr.add, Nat.zero_add] at hx142_2 | skip); replace hx142_0 := (HB.out.cell (World.block_lt_of_cell? w _ hx142_0)).trans hx142_0; replace hx142_1 := (HB.out.cell (World.block_lt_of_cell? w _ hx142_1)).trans hx142_1; replace hx142_2 := (HB.out.cell (World.block_lt_of_cell? w _ hx142_2)).trans hx142_2; replace p142 := eq_true p142; replace q142 := eq_true q142) | ((with_reducible refine gate_callee (f := 59) rfl ?_); refine goesL_ (some 19) rfl rfl Tryd.func59 (by kernel_rfl) rfl #[.int .i64 1] rfl agx ?_; (with_reducible refine (money_fault.calls 1 t143 t144 _ A11.out).mono ?_); rintro e w13 ⟨rfl, hb⟩; refine ⟨_, rfl, ?_⟩; replace BK138 := bkq BK138 hb; replace HB := Aside0.mk (below_step blx hb); (try clear hb); (try clear hb2); (try clear hk); (try clear hi); obtain ⟨hcz14_0, hcz14_1, hfz14_0, hfz14_1⟩ := c2_ BK138))
     refine bodyPost_ret (results_cell_row rfl _ _ gb138 23 #[.int .i64 t143, .int .i64 t144] (0, 0) _ rfl (by (with_reducible repeat (first | refine blk_drewN ?_ _ | refine blk_drew ?_ | refine blk_alloc ?_ _)); refine blk_put (cs := #[.int .i64 t143, .int .i64 0]) ?_ 1 _ rfl; (with_reducible repeat (first | refine blk_drewN ?_ _ | refine blk_drew ?_ | refine blk_alloc ?_ _)); refine blk_put (cs := #[.int .i64 0, .int .i64 0]) ?_ 0 _ rfl; (with_reducible repeat (first | refine blk_drewN ?_ _ | refine blk_drew ?_ | refine blk_alloc ?_ _)); exact BK138.out) Tryd.underlying23 rfl (by kernel_rfl)) rfl ?_
     exact ⟨by first | rfl | (simp [errW_none, errW_some] <;> rfl) | (simp [*, errW_none, errW_some] <;> rfl), blx⟩
    ·rw [if_neg c10] at H
     have c10b0 : decide (((rd_T87 gtab0 a0).f1) < a1) = false := decide_eq_false c10
     clear c10
     simp only [Option.some.injEq, Prod.mk.injEq] at H
     obtain ⟨rfl, rfl⟩ := H
     go_enter Tryd.func60, Tryd.ntmps60
     go_wp2_with (first | ((with_reducible refine gate_dst (N := 4) rfl ?_); refine bxe (N := 4) (cs := #[.int .i64 0, .int .i64 0]) (t := 23) ?_; intro gb138 hg w15 hbox hb; have BK138 := Aside0.mk (hbox); have GW138 : Aside0 (w.heap.size ≤ gb138) := gwx hg; have GE138 : Aside0 (w.heap.size ≤ gb138) := gwx hg; replace HB := Aside0.mk (below_step blx hb); clear hb hbox hg; have p139 : 0 ≤ (a0 : Int) := odx; have q139 : a0 < (gtab0.length : Int) := odx; have ql139 : ((a0 : Int) < (7 : Int)) = True := eq_true (odx); obtain ⟨ad139, e139, hx139_0, hx139_1, hx139_2⟩ := at_T87 HG0.out a0 p139 q139; obtain rfl : (⟨0, 0, none⟩ : Addr) = ad139 := (by injection e139); (first | simp only [add_plain] at hx139_0 | simp only [add_at] at hx139_0 | simp only [Addr.add, Nat.zero_add] at hx139_0 | skip); (first | simp only [add_plain] at hx139_1 | simp only [add_at] at hx139_1 | simp only [Addr.add, Nat.zero_add] at hx139_1 | skip); (first | simp only [add_plain] at hx139_2 | simp only [add_at] at hx139_2 | simp only [Addr.add, Nat.zero_add] at hx139_2 | skip); replace hx139_0 := (HB.out.cell (World.block_lt_of_cell? w _ hx139_0)).trans hx139_0; replace hx139_1 := (HB.out.cell (World.block_lt_of_cell? w _ hx139_1)).trans hx139_1; replace hx139_2 := (HB.out.cell (World.block_lt_of_cell? w _ hx139_2)).trans hx139_2; replace p139 := eq_true p139; replace q139 := eq_true q139; have p142 : 0 ≤ (a0 : Int) := odx; have q142 : a0 < (gtab0.length : Int) := odx; have ql142 : ((a0 : Int) < (7 : Int)) = True := eq_true (odx); obtain ⟨ad142, e142, hx142_0, hx142_1, hx142_2⟩ := at_T87 HG0.out a0 p142 q142; obtain rfl : (⟨0, 0, none⟩ : Addr) = ad142 := (by injection e142); (first | simp only [add_plain] at hx142_0 | simp only [add_at] at hx142_0 | simp only [Addr.add, Nat.zero_add] at hx142_0 | skip); (first | simp only [add_plain] at hx142_1 | simp only [add_at] at hx142_1 | simp only [Addr.add, Nat.zero_add] at hx142_1 | skip); (first | simp only [add_plain] at hx142_2 | simp only [add_at] at hx142_2 | simp only [Addr.add, Nat.zero_add] at hx142_2 | skip); replace hx142_0 := (HB.out.cell (World.block_lt_of_cell? w _ hx142_0)).trans hx142_0; replace hx142_1 := (HB.out.cell (World.block_lt_of_cell? w _ hx142_1)).trans hx142_1; replace hx142_2 := (HB.out.cell (World.block_lt_of_cell? w _ hx142_2)).trans hx142_2; replace p142 := eq_true p142; replace q142 := eq_true q142; obtain ⟨hcz16_0, hcz16_1, hfz16_0, hfz16_1⟩ := c2_ BK138))
     refine bodyPost_ret (results_cell_row rfl _ _ gb138 23 #[.int .i64 a0, .int .i64 a1] (0, 0) _ rfl (by (with_reducible repeat (first | refine blk_drewN ?_ _ | refine blk_drew ?_ | refine blk_alloc ?_ _)); refine blk_put (cs := #[.int .i64 a0, .int .i64 0]) ?_ 1 _ rfl; (with_reducible repeat (first | refine blk_drewN ?_ _ | refine blk_drew ?_ | refine blk_alloc ?_ _)); refine blk_put (cs := #[.int .i64 0, .int .i64 0]) ?_ 0 _ rfl; (with_reducible repeat (first | refine blk_drewN ?_ _ | refine blk_drew ?_ | refine blk_alloc ?_ _)); exact BK138.out) Tryd.underlying23 rfl (by kernel_rfl)) rfl ?_
     exact ⟨by first | rfl | (simp [errW_none, errW_some] <;> rfl) | (simp [*, errW_none, errW_some] <;> rfl), blx⟩
  ·rw [if_neg c4] at H
   exact absurd H (by simp)
 ·rw [if_neg c3] at H
  exact absurd H (by simp)
end Go.Proofs.YtnjhjaifmgjljaaDoor.PM
end

section
namespace Go.Proofs.YtnjhjaifmgjljaaDoor.PM
open Go.RowKit Go.Proofs.YtnjhjaifmgjljaaDoorW.PrintWords Go.Proofs.YtnjhjaifmgjljaaDoorW.PrintLast Go.Proofs.YtnjhjaifmgjljaaDoorW.PrintMore
attribute [local go_sem] max2_int min2_int max_two min_two max_three min_three max_four min_four
set_option linter.unusedVariables false
set_option linter.unusedSimpArgs false
def money_seen.l0 : Nat → List (S23) → Int → Int → Option (Int × Int × Bool)
 | 0, _, _, _ => none
 | k + 1, x6, x7, x8 => if x8 < x7 then (if 0 ≤ x8 then (if x8 < (x6.length : Int) then ((money_Valid.f ((rd_T23 x6 x8).f0) ((rd_T23 x6 x8).f1)).bind fun t153 => (if t153 = true then (if ((rd_T23 x6 x8).f0) = 6 then (some ((rd_T23 x6 x8).f0, (rd_T23 x6 x8).f1, false)) else (if ((rd_T23 x6 x8).f0) = 0 then ((money_fault.f 3).bind fun bt154 => (some (bt154.1, bt154.2, false))) else (money_seen.l0 k x6 x7 (wrap64 (x8 + 1))))) else ((money_fault.f 5).bind fun bt156 => (some (bt156.1, bt156.2, false))))) else (none)) else (none)) else (some (0, 0, true))
def money_seen.f (k : Nat) (l0 : List (S23)) : Option (Int × Int × Bool) := money_seen.l0 k l0 (l0.length : Int) 0
theorem money_seen.mono_l : ∀ k, (∀ y0 y1 y2, LeO (money_seen.l0 k y0 y1 y2) (money_seen.l0 (k + 1) y0 y1 y2))
 | 0 => fun _ _ _ r h => by simp [money_seen.l0] at h
 | k + 1 => by
  have ih0 := money_seen.mono_l k
  ·intro y0 y1 y2
   unfold money_seen.l0
   repeat' first
   | (with_reducible exact ih0 _ _ _)
   | (with_reducible exact LeO.refl _)
   | (with_reducible exact LeO.none _)
   | (with_reducible refine LeO.ite ?_ ?_)
   | (with_reducible refine LeO.bind ?_ (fun _ => ?_))
   | exact ih0 _ _ _
   | exact LeO.none _
   | refine LeO.ite ?_ ?_
   | refine LeO.bind ?_ (fun _ => ?_)
theorem money_seen.mono : ∀ a0 k, LeO (money_seen.f k a0) (money_seen.f (k + 1) a0) := by
 intro a0 k
 have ih0 := money_seen.mono_l k
 unfold money_seen.f
 repeat' first
   | (with_reducible exact ih0 _ _ _)
   | (with_reducible exact LeO.refl _)
   | (with_reducible exact LeO.none _)
   | (with_reducible refine LeO.ite ?_ ?_)
   | (with_reducible refine LeO.bind ?_ (fun _ => ?_))
   | exact ih0 _ _ _
   | exact LeO.none _
   | refine LeO.ite ?_ ?_
   | refine LeO.bind ?_ (fun _ => ?_)
set_option maxHeartbeats 8000000 in
set_option maxRecDepth 100000 in
theorem money_seen.calls (k : Nat) (A0 : Option Addr) (c0 : Nat) (l0 : List (S23)) (r1 : Int) (r2 : Int) (r3 : Bool) (w : World) (hr0 : Kd.C k23 w A0 l0.length l0) (hc0 : l0.length ≤ c0) (h : money_seen.f k l0 = some (r1, r2, r3)) (hg0 : Kd.C k87 w (some ⟨0, 0, none⟩) gtab0.length gtab0) :
  Calls Tryd.prog 65 #[.slice A0 l0.length c0] w fun e w' => e = .returned (.tuple #[.agg #[.int .i64 r1, .int .i64 r2], .bool r3]) ∧ Below w.heap.size w w' := by
 have HG0 := Aside0.mk hg0
 clear hg0
 have hu23 := Tryd.underlying23
 have HR0 := Aside0.mk hr0
 have HC0 := Aside0.mk hc0
 clear hr0 hc0
 have HB := Aside0.mk (Below.refl w.heap.size w)
 have H : (money_seen.l0 k l0 (l0.length : Int) 0) = some (r1, r2, r3) := h
 clear h
 have H' := Aside0.mk H
 clear H
 go_enter Tryd.func65, Tryd.ntmps65
 go_wp2_with (first | ((with_reducible refine gate_dst (N := 2) rfl ?_); refine bxe (N := 2) (cs := #[.int .i64 0, .int .i64 0]) (t := 23) ?_; intro gb150 hg w2 hbox hb; have BK150 := Aside0.mk (hbox); have GW150 : Aside0 (w.heap.size ≤ gb150) := gwx hg; have GE150 : Aside0 (w.heap.size ≤ gb150) := gwx hg; replace HB := Aside0.mk (below_step blx hb); clear hb hbox hg))
 go_loopg [8] k (fun kq v8 w' => ∃ (x8_1 : Int) (x151000_1 : Int) (x151001_1 : Int), v8 = .int .i64 x8_1 ∧ Aside0 (money_seen.l0 kq l0 (l0.length : Int) x8_1 = some (r1, r2, r3)) ∧ Aside0 (kq ≤ k) ∧ Aside0 (w'.heap[gb150]? = some (.cells #[.int .i64 x151000_1, .int .i64 x151001_1] 23 (0, 0))) ∧ Aside0 (Below w.heap.size w w'))
 case atStart => exact ⟨(0), (0), (0), (by first | rfl | (simp; done) | (simp [*]; done)), H', ⟨Nat.le_refl _⟩, ⟨bkx⟩, ⟨blx⟩⟩
 case round =>
  clear H'
  try clear p2
  obtain ⟨x8_1, x151000_1, x151001_1, rfl, HA, HK1, BK150, HB⟩ := hrel
  cases gk with
  | zero => exact absurd HA.out (by simp [money_seen.l0])
  | succ k1 =>
   have H := HA.out
   clear HA
   simp only [money_seen.l0] at H
   by_cases c3 : x8_1 < (l0.length : Int)
   ·rw [if_pos c3] at H
    have c3b0 : decide (x8_1 < (l0.length : Int)) = true := decide_eq_true c3
    clear c3
    by_cases c4 : 0 ≤ x8_1
    ·rw [if_pos c4] at H
     have c4b0 : decide (0 ≤ x8_1) = true := decide_eq_true c4
     clear c4
     by_cases c5 : x8_1 < (l0.length : Int)
     ·rw [if_pos c5] at H
      have c5b0 : decide (x8_1 < (l0.length : Int)) = true := decide_eq_true c5
      clear c5
      replace H := Option.bind_eq_some_iff.mp H
      obtain ⟨t153, A60, H⟩ := H
      replace H : (if t153 = true then (if ((rd_T23 l0 x8_1).f0) = 6 then (some ((rd_T23 l0 x8_1).f0, (rd_T23 l0 x8_1).f1, false)) else (if ((rd_T23 l0 x8_1).f0) = 0 then ((money_fault.f 3).bind fun bt154 => (some (bt154.1, bt154.2, false))) else (money_seen.l0 k1 l0 (l0.length : Int) (wrap64 (x8_1 + 1))))) else ((money_fault.f 5).bind fun bt156 => (some (bt156.1, bt156.2, false)))) = some (r1, r2, r3) := H
      have A6 := Aside0.mk A60
      clear A60
      by_cases c7 : t153 = true
      ·subst c7
       have H1 : (if ((rd_T23 l0 x8_1).f0) = 6 then (some ((rd_T23 l0 x8_1).f0, (rd_T23 l0 x8_1).f1, false)) else (if ((rd_T23 l0 x8_1).f0) = 0 then ((money_fault.f 3).bind fun bt154 => (some (bt154.1, bt154.2, false))) else (money_seen.l0 k1 l0 (l0.length : Int) (wrap64 (x8_1 + 1))))) = some (r1, r2, r3) := by rw [if_pos rfl] at H; exact H
       clear H
       have H := H1
       clear H1
       by_cases c8 : ((rd_T23 l0 x8_1).f0) = 6
       ·rw [if_pos c8] at H
        have c8b0 : (((rd_T23 l0 x8_1).f0) == 6) = true := beq_iff_eq.mpr c8
        have c8b1 : (((rd_T23 l0 x8_1).f0) != 6) = false := bne_eq_false_iff_eq.mpr c8
        clear c8
        simp only [Option.some.injEq, Prod.mk.injEq] at H
        obtain ⟨rfl, rfl, rfl⟩ := H
        have p151 : 0 ≤ (x8_1 : Int) := odx
        have q151 : x8_1 < (l0.length : Int) := odx
        obtain ⟨ad151, e151, hx151_0, hx151_1⟩ := at_T23 HR0.out x8_1 p151 q151
        cases e151
        replace hx151_0 := (HB.out.cell (World.block_lt_of_cell? w _ hx151_0)).trans hx151_0
        replace hx151_1 := (HB.out.cell (World.block_lt_of_cell? w _ hx151_1)).trans hx151_1
        replace p151 := eq_true p151
        replace q151 := eq_true q151
        go_wp2_with (first | ((with_reducible refine gate_dst (N := 5) rfl ?_); refine bxe (N := 5) (cs := #[.int .i64 0, .int .i64 0]) (t := 23) ?_; intro gb152 hg w9 hbox hb; have BK152 := Aside0.mk (hbox); have GW152 : Aside0 (w.heap.size ≤ gb152) := gwx hg; have GE152 : Aside0 (w.heap.size ≤ gb152) := gwx hg; replace HB := Aside0.mk (below_step blx hb); have NB150_152 := nbl BK150 hg; have NB152_150 := nbg BK150 hg; replace BK150 := bkq BK150 hb; clear hb hbox hg; have hnb10 := NB152_150.out; have hnc10 := NB150_152.out; obtain ⟨hcz11_0, hcz11_1, hfz11_0, hfz11_1⟩ := c2_ BK152) | ((with_reducible refine gate_callee (f := 18) rfl ?_); refine goesL_ (some 14) rfl rfl Tryd.func18 (by kernel_rfl) rfl #[.agg #[.int .i64 ((rd_T23 l0 x8_1).f0), .int .i64 ((rd_T23 l0 x8_1).f1)]] rfl agx ?_; (with_reducible refine (money_Valid.calls ((rd_T23 l0 x8_1).f0) ((rd_T23 l0 x8_1).f1) true _ A6.out (by first | exact HG0.out | exact Kd.C_below HG0.out blx)).mono ?_); rintro e w12 ⟨rfl, hb⟩; refine ⟨_, rfl, ?_⟩; replace BK150 := bkq BK150 hb; replace BK152 := Aside0.mk (blk_below (g := gb152) (o := .cells #[.int .i64 ((rd_T23 l0 x8_1).f0), .int .i64 ((rd_T23 l0 x8_1).f1)] 23 (0, 0)) (by (with_reducible repeat (first | refine blk_drewN ?_ _ | refine blk_drew ?_ | refine blk_alloc ?_ _)); refine blk_put (cs := #[.int .i64 ((rd_T23 l0 x8_1).f0), .int .i64 0]) ?_ 1 _ rfl; (with_reducible repeat (first | refine blk_drewN ?_ _ | refine blk_drew ?_ | refine blk_alloc ?_ _)); refine blk_put (cs := #[.int .i64 0, .int .i64 0]) ?_ 0 _ rfl; (with_reducible repeat (first | refine blk_drewN ?_ _ | refine blk_drew ?_ | refine blk_alloc ?_ _)); exact BK152.out) hb); replace HB := Aside0.mk (below_step blx hb); (try clear hb); (try clear hb2); (try clear hk); (try clear hi); obtain ⟨hcz13_0, hcz13_1, hfz13_0, hfz13_1⟩ := c2_ BK152; obtain ⟨hcz14_0, hcz14_1, hfz14_0, hfz14_1⟩ := c2_ BK150))
        refine bodyPost_ret (results_ct rfl _ _ gb150 23 #[.int .i64 ((rd_T23 l0 x8_1).f0), .int .i64 ((rd_T23 l0 x8_1).f1)] (0, 0) _ rfl (by (with_reducible repeat (first | refine blk_drewN ?_ _ | refine blk_drew ?_ | refine blk_alloc ?_ _)); refine blk_put (cs := #[.int .i64 ((rd_T23 l0 x8_1).f0), .int .i64 x151001_1]) ?_ 1 _ rfl; (with_reducible repeat (first | refine blk_drewN ?_ _ | refine blk_drew ?_ | refine blk_alloc ?_ _)); refine blk_put (cs := #[.int .i64 x151000_1, .int .i64 x151001_1]) ?_ 0 _ rfl; (with_reducible repeat (first | refine blk_drewN ?_ _ | refine blk_drew ?_ | refine blk_alloc ?_ _)); exact BK150.out) Tryd.underlying23 rfl (by kernel_rfl)) rfl ?_
        exact ⟨by first | rfl | (simp [errW_none, errW_some] <;> rfl) | (simp [*, errW_none, errW_some] <;> rfl), blx⟩
       ·rw [if_neg c8] at H
        have c8b0 : (((rd_T23 l0 x8_1).f0) == 6) = false := beq_eq_false_iff_ne.mpr c8
        have c8b1 : (((rd_T23 l0 x8_1).f0) != 6) = true := bne_iff_ne.mpr c8
        by_cases c15 : ((rd_T23 l0 x8_1).f0) = 0
        ·rw [if_pos c15] at H
         have c15b0 : (((rd_T23 l0 x8_1).f0) == 0) = true := beq_iff_eq.mpr c15
         have c15b1 : (((rd_T23 l0 x8_1).f0) != 0) = false := bne_eq_false_iff_eq.mpr c15
         clear c15
         replace H := Option.bind_eq_some_iff.mp H
         obtain ⟨⟨t154, t155⟩, A160, H⟩ := H
         replace H : (some (t154, t155, false)) = some (r1, r2, r3) := H
         have A16 := Aside0.mk A160
         clear A160
         simp only [Option.some.injEq, Prod.mk.injEq] at H
         obtain ⟨rfl, rfl, rfl⟩ := H
         have p151 : 0 ≤ (x8_1 : Int) := odx
         have q151 : x8_1 < (l0.length : Int) := odx
         obtain ⟨ad151, e151, hx151_0, hx151_1⟩ := at_T23 HR0.out x8_1 p151 q151
         cases e151
         replace hx151_0 := (HB.out.cell (World.block_lt_of_cell? w _ hx151_0)).trans hx151_0
         replace hx151_1 := (HB.out.cell (World.block_lt_of_cell? w _ hx151_1)).trans hx151_1
         replace p151 := eq_true p151
         replace q151 := eq_true q151
         go_wp2_with (first | ((with_reducible refine gate_dst (N := 5) rfl ?_); refine bxe (N := 5) (cs := #[.int .i64 0, .int .i64 0]) (t := 23) ?_; intro gb152 hg w17 hbox hb; have BK152 := Aside0.mk (hbox); have GW152 : Aside0 (w.heap.size ≤ gb152) := gwx hg; have GE152 : Aside0 (w.heap.size ≤ gb152) := gwx hg; replace HB := Aside0.mk (below_step blx hb); have NB150_152 := nbl BK150 hg; have NB152_150 := nbg BK150 hg; replace BK150 := bkq BK150 hb; clear hb hbox hg; have hnb18 := NB152_150.out; have hnc18 := NB150_152.out; obtain ⟨hcz19_0, hcz19_1, hfz19_0, hfz19_1⟩ := c2_ BK152) | ((with_reducible refine gate_callee (f := 18) rfl ?_); refine goesL_ (some 14) rfl rfl Tryd.func18 (by kernel_rfl) rfl #[.agg #[.int .i64 ((rd_T23 l0 x8_1).f0), .int .i64 ((rd_T23 l0 x8_1).f1)]] rfl agx ?_; (with_reducible refine (money_Valid.calls ((rd_T23 l0 x8_1).f0) ((rd_T23 l0 x8_1).f1) true _ A6.out (by first | exact HG0.out | exact Kd.C_below HG0.out blx)).mono ?_); rintro e w20 ⟨rfl, hb⟩; refine ⟨_, rfl, ?_⟩; replace BK150 := bkq BK150 hb; replace BK152 := Aside0.mk (blk_below (g := gb152) (o := .cells #[.int .i64 ((rd_T23 l0 x8_1).f0), .int .i64 ((rd_T23 l0 x8_1).f1)] 23 (0, 0)) (by (with_reducible repeat (first | refine blk_drewN ?_ _ | refine blk_drew ?_ | refine blk_alloc ?_ _)); refine blk_put (cs := #[.int .i64 ((rd_T23 l0 x8_1).f0), .int .i64 0]) ?_ 1 _ rfl; (with_reducible repeat (first | refine blk_drewN ?_ _ | refine blk_drew ?_ | refine blk_alloc ?_ _)); refine blk_put (cs := #[.int .i64 0, .int .i64 0]) ?_ 0 _ rfl; (with_reducible repeat (first | refine blk_drewN ?_ _ | refine blk_drew ?_ | refine blk_alloc ?_ _)); exact BK152.out) hb); replace HB := Aside0.mk (below_step blx hb); (try clear hb); (try clear hb2); (try clear hk); (try clear hi); obtain ⟨hcz21_0, hcz21_1, hfz21_0, hfz21_1⟩ := c2_ BK152) | ((with_reducible refine gate_callee (f := 59) rfl ?_); refine goesL_ (some 26) rfl rfl Tryd.func59 (by kernel_rfl) rfl #[.int .i64 3] rfl agx ?_; (with_reducible refine (money_fault.calls 3 t154 t155 _ A16.out).mono ?_); rintro e w22 ⟨rfl, hb⟩; refine ⟨_, rfl, ?_⟩; replace BK150 := bkq BK150 hb; replace BK152 := bkq BK152 hb; replace HB := Aside0.mk (below_step blx hb); (try clear hb); (try clear hb2); (try clear hk); (try clear hi); obtain ⟨hcz23_0, hcz23_1, hfz23_0, hfz23_1⟩ := c2_ BK150))
         refine bodyPost_ret (results_ct rfl _ _ gb150 23 #[.int .i64 t154, .int .i64 t155] (0, 0) _ rfl (by (with_reducible repeat (first | refine blk_drewN ?_ _ | refine blk_drew ?_ | refine blk_alloc ?_ _)); refine blk_put (cs := #[.int .i64 t154, .int .i64 x151001_1]) ?_ 1 _ rfl; (with_reducible repeat (first | refine blk_drewN ?_ _ | refine blk_drew ?_ | refine blk_alloc ?_ _)); refine blk_put (cs := #[.int .i64 x151000_1, .int .i64 x151001_1]) ?_ 0 _ rfl; (with_reducible repeat (first | refine blk_drewN ?_ _ | refine blk_drew ?_ | refine blk_alloc ?_ _)); exact BK150.out) Tryd.underlying23 rfl (by kernel_rfl)) rfl ?_
         exact ⟨by first | rfl | (simp [errW_none, errW_some] <;> rfl) | (simp [*, errW_none, errW_some] <;> rfl), blx⟩
        ·rw [if_neg c15] at H
         have c15b0 : (((rd_T23 l0 x8_1).f0) == 0) = false := beq_eq_false_iff_ne.mpr c15
         have c15b1 : (((rd_T23 l0 x8_1).f0) != 0) = true := bne_iff_ne.mpr c15
         have H' := Aside0.mk H
         clear H
         have p151 : 0 ≤ (x8_1 : Int) := odx
         have q151 : x8_1 < (l0.length : Int) := odx
         obtain ⟨ad151, e151, hx151_0, hx151_1⟩ := at_T23 HR0.out x8_1 p151 q151
         cases e151
         replace hx151_0 := (HB.out.cell (World.block_lt_of_cell? w _ hx151_0)).trans hx151_0
         replace hx151_1 := (HB.out.cell (World.block_lt_of_cell? w _ hx151_1)).trans hx151_1
         replace p151 := eq_true p151
         replace q151 := eq_true q151
         go_wp2_with (first | ((with_reducible refine gate_dst (N := 5) rfl ?_); refine bxe (N := 5) (cs := #[.int .i64 0, .int .i64 0]) (t := 23) ?_; intro gb152 hg w24 hbox hb; have BK152 := Aside0.mk (hbox); have GW152 : Aside0 (w.heap.size ≤ gb152) := gwx hg; have GE152 : Aside0 (w.heap.size ≤ gb152) := gwx hg; replace HB := Aside0.mk (below_step blx hb); have NB150_152 := nbl BK150 hg; have NB152_150 := nbg BK150 hg; replace BK150 := bkq BK150 hb; clear hb hbox hg; have hnb25 := NB152_150.out; have hnc25 := NB150_152.out; obtain ⟨hcz26_0, hcz26_1, hfz26_0, hfz26_1⟩ := c2_ BK152) | ((with_reducible refine gate_callee (f := 18) rfl ?_); refine goesL_ (some 14) rfl rfl Tryd.func18 (by kernel_rfl) rfl #[.agg #[.int .i64 ((rd_T23 l0 x8_1).f0), .int .i64 ((rd_T23 l0 x8_1).f1)]] rfl agx ?_; (with_reducible refine (money_Valid.calls ((rd_T23 l0 x8_1).f0) ((rd_T23 l0 x8_1).f1) true _ A6.out (by first | exact HG0.out | exact Kd.C_below HG0.out blx)).mono ?_); rintro e w27 ⟨rfl, hb⟩; refine ⟨_, rfl, ?_⟩; replace BK150 := bkq BK150 hb; replace BK152 := Aside0.mk (blk_below (g := gb152) (o := .cells #[.int .i64 ((rd_T23 l0 x8_1).f0), .int .i64 ((rd_T23 l0 x8_1).f1)] 23 (0, 0)) (by (with_reducible repeat (first | refine blk_drewN ?_ _ | refine blk_drew ?_ | refine blk_alloc ?_ _)); refine blk_put (cs := #[.int .i64 ((rd_T23 l0 x8_1).f0), .int .i64 0]) ?_ 1 _ rfl; (with_reducible repeat (first | refine blk_drewN ?_ _ | refine blk_drew ?_ | refine blk_alloc ?_ _)); refine blk_put (cs := #[.int .i64 0, .int .i64 0]) ?_ 0 _ rfl; (with_reducible repeat (first | refine blk_drewN ?_ _ | refine blk_drew ?_ | refine blk_alloc ?_ _)); exact BK152.out) hb); replace HB := Aside0.mk (below_step blx hb); (try clear hb); (try clear hb2); (try clear hk); (try clear hi); obtain ⟨hcz28_0, hcz28_1, hfz28_0, hfz28_1⟩ := c2_ BK152))
         go_roundg k1
         case measure => have := HK1.out; omega
         case rel => exact ⟨(wrap64 (x8_1 + 1)), (x151000_1), (x151001_1), (by first | rfl | (simp; done) | (simp [*]; done)), H', ⟨by have := HK1.out; omega⟩, ⟨bkx⟩, ⟨blx⟩⟩
      ·replace c7 := Bool.eq_false_iff.mpr c7
       subst c7
       have H1 : ((money_fault.f 5).bind fun bt156 => (some (bt156.1, bt156.2, false))) = some (r1, r2, r3) := by rw [if_neg (show ¬ (false = true) by decide)] at H; exact H
       clear H
       have H := H1
       clear H1
       replace H := Option.bind_eq_some_iff.mp H
       obtain ⟨⟨t156, t157⟩, A290, H⟩ := H
       replace H : (some (t156, t157, false)) = some (r1, r2, r3) := H
       have A29 := Aside0.mk A290
       clear A290
       simp only [Option.some.injEq, Prod.mk.injEq] at H
       obtain ⟨rfl, rfl, rfl⟩ := H
       have p151 : 0 ≤ (x8_1 : Int) := odx
       have q151 : x8_1 < (l0.length : Int) := odx
       obtain ⟨ad151, e151, hx151_0, hx151_1⟩ := at_T23 HR0.out x8_1 p151 q151
       cases e151
       replace hx151_0 := (HB.out.cell (World.block_lt_of_cell? w _ hx151_0)).trans hx151_0
       replace hx151_1 := (HB.out.cell (World.block_lt_of_cell? w _ hx151_1)).trans hx151_1
       replace p151 := eq_true p151
       replace q151 := eq_true q151
       go_wp2_with (first | ((with_reducible refine gate_dst (N := 5) rfl ?_); refine bxe (N := 5) (cs := #[.int .i64 0, .int .i64 0]) (t := 23) ?_; intro gb152 hg w30 hbox hb; have BK152 := Aside0.mk (hbox); have GW152 : Aside0 (w.heap.size ≤ gb152) := gwx hg; have GE152 : Aside0 (w.heap.size ≤ gb152) := gwx hg; replace HB := Aside0.mk (below_step blx hb); have NB150_152 := nbl BK150 hg; have NB152_150 := nbg BK150 hg; replace BK150 := bkq BK150 hb; clear hb hbox hg; have hnb31 := NB152_150.out; have hnc31 := NB150_152.out; obtain ⟨hcz32_0, hcz32_1, hfz32_0, hfz32_1⟩ := c2_ BK152) | ((with_reducible refine gate_callee (f := 18) rfl ?_); refine goesL_ (some 14) rfl rfl Tryd.func18 (by kernel_rfl) rfl #[.agg #[.int .i64 ((rd_T23 l0 x8_1).f0), .int .i64 ((rd_T23 l0 x8_1).f1)]] rfl agx ?_; (with_reducible refine (money_Valid.calls ((rd_T23 l0 x8_1).f0) ((rd_T23 l0 x8_1).f1) false _ A6.out (by first | exact HG0.out | exact Kd.C_below HG0.out blx)).mono ?_); rintro e w33 ⟨rfl, hb⟩; refine ⟨_, rfl, ?_⟩; replace BK150 := bkq BK150 hb; replace BK152 := Aside0.mk (blk_below (g := gb152) (o := .cells #[.int .i64 ((rd_T23 l0 x8_1).f0), .int .i64 ((rd_T23 l0 x8_1).f1)] 23 (0, 0)) (by (with_reducible repeat (first | refine blk_drewN ?_ _ | refine blk_drew ?_ | refine blk_alloc ?_ _)); refine blk_put (cs := #[.int .i64 ((rd_T23 l0 x8_1).f0), .int .i64 0]) ?_ 1 _ rfl; (with_reducible repeat (first | refine blk_drewN ?_ _ | refine blk_drew ?_ | refine blk_alloc ?_ _)); refine blk_put (cs := #[.int .i64 0, .int .i64 0]) ?_ 0 _ rfl; (with_reducible repeat (first | refine blk_drewN ?_ _ | refine blk_drew ?_ | refine blk_alloc ?_ _)); exact BK152.out) hb); replace HB := Aside0.mk (below_step blx hb); (try clear hb); (try clear hb2); (try clear hk); (try clear hi)) | ((with_reducible refine gate_callee (f := 59) rfl ?_); refine goesL_ (some 16) rfl rfl Tryd.func59 (by kernel_rfl) rfl #[.int .i64 5] rfl agx ?_; (with_reducible refine (money_fault.calls 5 t156 t157 _ A29.out).mono ?_); rintro e w34 ⟨rfl, hb⟩; refine ⟨_, rfl, ?_⟩; replace BK150 := bkq BK150 hb; replace BK152 := bkq BK152 hb; replace HB := Aside0.mk (below_step blx hb); (try clear hb); (try clear hb2); (try clear hk); (try clear hi); obtain ⟨hcz35_0, hcz35_1, hfz35_0, hfz35_1⟩ := c2_ BK150))
       refine bodyPost_ret (results_ct rfl _ _ gb150 23 #[.int .i64 t156, .int .i64 t157] (0, 0) _ rfl (by (with_reducible repeat (first | refine blk_drewN ?_ _ | refine blk_drew ?_ | refine blk_alloc ?_ _)); refine blk_put (cs := #[.int .i64 t156, .int .i64 x151001_1]) ?_ 1 _ rfl; (with_reducible repeat (first | refine blk_drewN ?_ _ | refine blk_drew ?_ | refine blk_alloc ?_ _)); refine blk_put (cs := #[.int .i64 x151000_1, .int .i64 x151001_1]) ?_ 0 _ rfl; (with_reducible repeat (first | refine blk_drewN ?_ _ | refine blk_drew ?_ | refine blk_alloc ?_ _)); exact BK150.out) Tryd.underlying23 rfl (by kernel_rfl)) rfl ?_
       exact ⟨by first | rfl | (simp [errW_none, errW_some] <;> rfl) | (simp [*, errW_none, errW_some] <;> rfl), blx⟩
     ·rw [if_neg c5] at H
      exact absurd H (by simp)
    ·rw [if_neg c4] at H
     exact absurd H (by simp)
   ·rw [if_neg c3] at H
    have c3b0 : decide (x8_1 < (l0.length : Int)) = false := decide_eq_false c3
    clear c3
    simp only [Option.some.injEq, Prod.mk.injEq] at H
    obtain ⟨rfl, rfl, rfl⟩ := H
    obtain ⟨hcz36_0, hcz36_1, hfz36_0, hfz36_1⟩ := c2_ BK150
    go_wp2
    refine bodyPost_ret (results_ct rfl _ _ gb150 23 #[.int .i64 0, .int .i64 0] (0, 0) _ rfl (by (with_reducible repeat (first | refine blk_drewN ?_ _ | refine blk_drew ?_ | refine blk_alloc ?_ _)); refine blk_put (cs := #[.int .i64 0, .int .i64 x151001_1]) ?_ 1 _ rfl; (with_reducible repeat (first | refine blk_drewN ?_ _ | refine blk_drew ?_ | refine blk_alloc ?_ _)); refine blk_put (cs := #[.int .i64 x151000_1, .int .i64 x151001_1]) ?_ 0 _ rfl; (with_reducible repeat (first | refine blk_drewN ?_ _ | refine blk_drew ?_ | refine blk_alloc ?_ _)); exact BK150.out) Tryd.underlying23 rfl (by kernel_rfl)) rfl ?_
    exact ⟨by first | rfl | (simp [errW_none, errW_some] <;> rfl) | (simp [*, errW_none, errW_some] <;> rfl), blx⟩
end Go.Proofs.YtnjhjaifmgjljaaDoor.PM
end

section
namespace Go.Proofs.YtnjhjaifmgjljaaDoor.PM
open Go.RowKit Go.Proofs.YtnjhjaifmgjljaaDoorW.PrintWords Go.Proofs.YtnjhjaifmgjljaaDoorW.PrintLast Go.Proofs.YtnjhjaifmgjljaaDoorW.PrintMore
attribute [local go_sem] max2_int min2_int max_two min_two max_three min_three max_four min_four
set_option linter.unusedVariables false
set_option linter.unusedSimpArgs false
def money_alike.l0 : Nat → Int → List (S23) → List (S23) → Int → Int → Option (Int × Int × Bool)
 | 0, _, _, _, _, _ => none
 | k + 1, x0, x1, x18, x19, x20 => if x20 < x19 then (if 0 ≤ x20 then (if x20 < (x18.length : Int) then (if 0 < (x1.length : Int) then (if ((rd_T23 x18 x20).f0) = ((rd_T23 x1 0).f0) then (if 0 ≤ ((rd_T23 x18 x20).f0) then (if ((rd_T23 x18 x20).f0) < 7 then (if (Go.bits .and .i64 ((rd_T87 gtab0 ((rd_T23 x18 x20).f0)).f2) x0) = 0 then ((money_fault.f 5).bind fun bt167 => (some (bt167.1, bt167.2, false))) else (money_alike.l0 k x0 x1 x18 x19 (wrap64 (x20 + 1)))) else (none)) else (none)) else ((money_fault.f 5).bind fun bt169 => (some (bt169.1, bt169.2, false)))) else (none)) else (none)) else (none)) else (some (0, 0, true))
def money_alike.f (k : Nat) (a0 : Int) (l1 : List (S23)) : Option (Int × Int × Bool) := (money_seen.f k l1).bind fun bt159 => (if bt159.2.2 = true then (money_alike.l0 k a0 l1 l1 (l1.length : Int) 0) else (some (bt159.1, bt159.2.1, false)))
theorem money_alike.mono_l : ∀ k, (∀ y0 y1 y2 y3 y4, LeO (money_alike.l0 k y0 y1 y2 y3 y4) (money_alike.l0 (k + 1) y0 y1 y2 y3 y4))
 | 0 => fun _ _ _ _ _ r h => by simp [money_alike.l0] at h
 | k + 1 => by
  have ih0 := money_alike.mono_l k
  ·intro y0 y1 y2 y3 y4
   unfold money_alike.l0
   repeat' first
   | (with_reducible exact ih0 _ _ _ _ _)
   | (with_reducible exact money_seen.mono _ _)
   | (with_reducible exact LeO.refl _)
   | (with_reducible exact LeO.none _)
   | (with_reducible refine LeO.ite ?_ ?_)
   | (with_reducible refine LeO.bind ?_ (fun _ => ?_))
   | exact ih0 _ _ _ _ _
   | exact money_seen.mono _ _
   | exact LeO.none _
   | refine LeO.ite ?_ ?_
   | refine LeO.bind ?_ (fun _ => ?_)
theorem money_alike.mono : ∀ a0 a1 k, LeO (money_alike.f k a0 a1) (money_alike.f (k + 1) a0 a1) := by
 intro a0 a1 k
 have ih0 := money_alike.mono_l k
 unfold money_alike.f
 repeat' first
   | (with_reducible exact ih0 _ _ _ _ _)
   | (with_reducible exact money_seen.mono _ _)
   | (with_reducible exact LeO.refl _)
   | (with_reducible exact LeO.none _)
   | (with_reducible refine LeO.ite ?_ ?_)
   | (with_reducible refine LeO.bind ?_ (fun _ => ?_))
   | exact ih0 _ _ _ _ _
   | exact money_seen.mono _ _
   | exact LeO.none _
   | refine LeO.ite ?_ ?_
   | refine LeO.bind ?_ (fun _ => ?_)
set_option maxHeartbeats 8000000 in
set_option maxRecDepth 100000 in
theorem money_alike.calls (k : Nat) (a0 : Int) (A1 : Option Addr) (c1 : Nat) (l1 : List (S23)) (r1 : Int) (r2 : Int) (r3 : Bool) (w : World) (hr1 : Kd.C k23 w A1 l1.length l1) (hc1 : l1.length ≤ c1) (h : money_alike.f k a0 l1 = some (r1, r2, r3)) (hg0 : Kd.C k87 w (some ⟨0, 0, none⟩) gtab0.length gtab0) :
  Calls Tryd.prog 61 #[.int .i64 a0, .slice A1 l1.length c1] w fun e w' => e = .returned (.tuple #[.agg #[.int .i64 r1, .int .i64 r2], .bool r3]) ∧ Below w.heap.size w w' := by
 have HG0 := Aside0.mk hg0
 clear hg0
 have hu23 := Tryd.underlying23
 have HR1 := Aside0.mk hr1
 have HC1 := Aside0.mk hc1
 clear hr1 hc1
 have HB := Aside0.mk (Below.refl w.heap.size w)
 have H : ((money_seen.f k l1).bind fun bt159 => (if bt159.2.2 = true then (money_alike.l0 k a0 l1 l1 (l1.length : Int) 0) else (some (bt159.1, bt159.2.1, false)))) = some (r1, r2, r3) := h
 clear h
 replace H := Option.bind_eq_some_iff.mp H
 obtain ⟨⟨t159, t160, t161⟩, A30, H⟩ := H
 replace H : (if t161 = true then (money_alike.l0 k a0 l1 l1 (l1.length : Int) 0) else (some (t159, t160, false))) = some (r1, r2, r3) := H
 have A3 := Aside0.mk A30
 clear A30
 by_cases c4 : t161 = true
 ·subst c4
  have H1 : (money_alike.l0 k a0 l1 l1 (l1.length : Int) 0) = some (r1, r2, r3) := by rw [if_pos rfl] at H; exact H
  clear H
  have H := H1
  clear H1
  have H' := Aside0.mk H
  clear H
  go_enter Tryd.func61, Tryd.ntmps61
  go_wp2_with (first | ((with_reducible refine gate_dst (N := 4) rfl ?_); refine bxe (N := 4) (cs := #[.int .i64 0, .int .i64 0]) (t := 23) ?_; intro gb158 hg w5 hbox hb; have BK158 := Aside0.mk (hbox); have GW158 : Aside0 (w.heap.size ≤ gb158) := gwx hg; have GE158 : Aside0 (w.heap.size ≤ gb158) := gwx hg; replace HB := Aside0.mk (below_step blx hb); clear hb hbox hg) | (go_at_call 65; (with_reducible refine (money_seen.calls k _ _ l1 t159 t160 true _ ?side1 ?side2 A3.out (by first | exact HG0.out | exact Kd.C_below HG0.out blx)).mono ?_); (case side1 => repeat (first | exact (Kd.C_below HR1.out HB.out) | (with_reducible refine Kd.C_alloc ?_ _) | (with_reducible refine Kd.C_drewN ?_ _) | (with_reducible refine Kd.C_drew ?_))); (case side2 => exact HC1.out); rintro e w6 ⟨rfl, hb⟩; replace BK158 := bkq BK158 hb; replace HB := Aside0.mk (below_step blx hb); (try clear hb); (try clear hb2); (try clear hk); (try clear hi)) | ((with_reducible refine gate_dst (N := 6) rfl ?_); refine bxe (N := 6) (cs := #[.int .i64 0, .int .i64 0]) (t := 23) ?_; intro gb162 hg w7 hbox hb; have BK162 := Aside0.mk (hbox); have GW162 : Aside0 (w.heap.size ≤ gb162) := gwx hg; have GE162 : Aside0 (w.heap.size ≤ gb162) := gwx hg; replace HB := Aside0.mk (below_step blx hb); have NB158_162 := nbl BK158 hg; have NB162_158 := nbg BK158 hg; replace BK158 := bkq BK158 hb; clear hb hbox hg; have hnb8 := NB162_158.out; have hnc8 := NB158_162.out; obtain ⟨hcz9_0, hcz9_1, hfz9_0, hfz9_1⟩ := c2_ BK162))
  repeat (go_quiet (first | ((with_reducible refine gate_dst (N := 4) rfl ?_); refine bxe (N := 4) (cs := #[.int .i64 0, .int .i64 0]) (t := 23) ?_; intro gb158 hg w5 hbox hb; have BK158 := Aside0.mk (hbox); have GW158 : Aside0 (w.heap.size ≤ gb158) := gwx hg; have GE158 : Aside0 (w.heap.size ≤ gb158) := gwx hg; replace HB := Aside0.mk (below_step blx hb); clear hb hbox hg) | (go_at_call 65; (with_reducible refine (money_seen.calls k _ _ l1 t159 t160 true _ ?side1 ?side2 A3.out (by first | exact HG0.out | exact Kd.C_below HG0.out blx)).mono ?_); (case side1 => repeat (first | exact (Kd.C_below HR1.out HB.out) | (with_reducible refine Kd.C_alloc ?_ _) | (with_reducible refine Kd.C_drewN ?_ _) | (with_reducible refine Kd.C_drew ?_))); (case side2 => exact HC1.out); rintro e w6 ⟨rfl, hb⟩; replace BK158 := bkq BK158 hb; replace HB := Aside0.mk (below_step blx hb); (try clear hb); (try clear hb2); (try clear hk); (try clear hi)) | ((with_reducible refine gate_dst (N := 6) rfl ?_); refine bxe (N := 6) (cs := #[.int .i64 0, .int .i64 0]) (t := 23) ?_; intro gb162 hg w7 hbox hb; have BK162 := Aside0.mk (hbox); have GW162 : Aside0 (w.heap.size ≤ gb162) := gwx hg; have GE162 : Aside0 (w.heap.size ≤ gb162) := gwx hg; replace HB := Aside0.mk (below_step blx hb); have NB158_162 := nbl BK158 hg; have NB162_158 := nbg BK158 hg; replace BK158 := bkq BK158 hb; clear hb hbox hg; have hnb8 := NB162_158.out; have hnc8 := NB158_162.out; obtain ⟨hcz9_0, hcz9_1, hfz9_0, hfz9_1⟩ := c2_ BK162)); try go_wp2_with (first | ((with_reducible refine gate_dst (N := 4) rfl ?_); refine bxe (N := 4) (cs := #[.int .i64 0, .int .i64 0]) (t := 23) ?_; intro gb158 hg w5 hbox hb; have BK158 := Aside0.mk (hbox); have GW158 : Aside0 (w.heap.size ≤ gb158) := gwx hg; have GE158 : Aside0 (w.heap.size ≤ gb158) := gwx hg; replace HB := Aside0.mk (below_step blx hb); clear hb hbox hg) | (go_at_call 65; (with_reducible refine (money_seen.calls k _ _ l1 t159 t160 true _ ?side1 ?side2 A3.out (by first | exact HG0.out | exact Kd.C_below HG0.out blx)).mono ?_); (case side1 => repeat (first | exact (Kd.C_below HR1.out HB.out) | (with_reducible refine Kd.C_alloc ?_ _) | (with_reducible refine Kd.C_drewN ?_ _) | (with_reducible refine Kd.C_drew ?_))); (case side2 => exact HC1.out); rintro e w6 ⟨rfl, hb⟩; replace BK158 := bkq BK158 hb; replace HB := Aside0.mk (below_step blx hb); (try clear hb); (try clear hb2); (try clear hk); (try clear hi)) | ((with_reducible refine gate_dst (N := 6) rfl ?_); refine bxe (N := 6) (cs := #[.int .i64 0, .int .i64 0]) (t := 23) ?_; intro gb162 hg w7 hbox hb; have BK162 := Aside0.mk (hbox); have GW162 : Aside0 (w.heap.size ≤ gb162) := gwx hg; have GE162 : Aside0 (w.heap.size ≤ gb162) := gwx hg; replace HB := Aside0.mk (below_step blx hb); have NB158_162 := nbl BK158 hg; have NB162_158 := nbg BK158 hg; replace BK158 := bkq BK158 hb; clear hb hbox hg; have hnb8 := NB162_158.out; have hnc8 := NB158_162.out; obtain ⟨hcz9_0, hcz9_1, hfz9_0, hfz9_1⟩ := c2_ BK162)))
  go_loopg [20] k (fun kq v20 w' => ∃ (x20_1 : Int) (x159000_1 : Int) (x159001_1 : Int), v20 = .int .i64 x20_1 ∧ Aside0 (money_alike.l0 kq a0 l1 l1 (l1.length : Int) x20_1 = some (r1, r2, r3)) ∧ Aside0 (kq ≤ k) ∧ Aside0 (w'.heap[gb158]? = some (.cells #[.int .i64 x159000_1, .int .i64 x159001_1] 23 (0, 0))) ∧ Aside0 (w'.heap[gb162]? = some (.cells #[.int .i64 t159, .int .i64 t160] 23 (0, 0))) ∧ Aside0 (Below w.heap.size w w'))
  case atStart => exact ⟨(0), (0), (0), (by first | rfl | (simp; done) | (simp [*]; done)), H', ⟨Nat.le_refl _⟩, ⟨bkx⟩, ⟨by (with_reducible repeat (first | refine blk_drewN ?_ _ | refine blk_drew ?_ | refine blk_alloc ?_ _)); refine blk_put (cs := #[.int .i64 t159, .int .i64 0]) ?_ 1 _ rfl; (with_reducible repeat (first | refine blk_drewN ?_ _ | refine blk_drew ?_ | refine blk_alloc ?_ _)); refine blk_put (cs := #[.int .i64 0, .int .i64 0]) ?_ 0 _ rfl; (with_reducible repeat (first | refine blk_drewN ?_ _ | refine blk_drew ?_ | refine blk_alloc ?_ _)); exact BK162.out⟩, ⟨blx⟩⟩
  case round =>
   clear H'
   try clear c1
   try clear p2
   try clear c4
   try clear c6
   try clear c8
   try clear hcz9_0
   try clear hcz9_1
   try clear hfz9_0
   try clear hfz9_1
   obtain ⟨x20_1, x159000_1, x159001_1, rfl, HA, HK1, BK158, BK162, HB⟩ := hrel
   cases gk with
   | zero => exact absurd HA.out (by simp [money_alike.l0])
   | succ k1 =>
    have H := HA.out
    clear HA
    simp only [money_alike.l0] at H
    by_cases c10 : x20_1 < (l1.length : Int)
    ·rw [if_pos c10] at H
     have c10b0 : decide (x20_1 < (l1.length : Int)) = true := decide_eq_true c10
     clear c10
     by_cases c11 : 0 ≤ x20_1
     ·rw [if_pos c11] at H
      have c11b0 : decide (0 ≤ x20_1) = true := decide_eq_true c11
      clear c11
      by_cases c12 : x20_1 < (l1.length : Int)
      ·rw [if_pos c12] at H
       have c12b0 : decide (x20_1 < (l1.length : Int)) = true := decide_eq_true c12
       clear c12
       by_cases c13 : 0 < (l1.length : Int)
       ·rw [if_pos c13] at H
        have c13b0 : decide (0 < (l1.length : Int)) = true := decide_eq_true c13
        have c13b1 : decide (0 < l1.length) = true := decide_eq_true (by omega)
        clear c13
        by_cases c14 : ((rd_T23 l1 x20_1).f0) = ((rd_T23 l1 0).f0)
        ·rw [if_pos c14] at H
         have c14b0 : (((rd_T23 l1 x20_1).f0) == ((rd_T23 l1 0).f0)) = true := beq_iff_eq.mpr c14
         have c14b1 : (((rd_T23 l1 x20_1).f0) != ((rd_T23 l1 0).f0)) = false := bne_eq_false_iff_eq.mpr c14
         clear c14
         by_cases c15 : 0 ≤ ((rd_T23 l1 x20_1).f0)
         ·rw [if_pos c15] at H
          have c15b0 : decide (0 ≤ ((rd_T23 l1 x20_1).f0)) = true := decide_eq_true c15
          clear c15
          by_cases c16 : ((rd_T23 l1 x20_1).f0) < 7
          ·rw [if_pos c16] at H
           have c16b0 : decide (((rd_T23 l1 x20_1).f0) < 7) = true := decide_eq_true c16
           clear c16
           by_cases c17 : (Go.bits .and .i64 ((rd_T87 gtab0 ((rd_T23 l1 x20_1).f0)).f2) a0) = 0
           ·rw [if_pos c17] at H
            have c17b0 : ((Go.bits .and .i64 ((rd_T87 gtab0 ((rd_T23 l1 x20_1).f0)).f2) a0) == 0) = true := beq_iff_eq.mpr c17
            have c17b1 : ((Go.bits .and .i64 ((rd_T87 gtab0 ((rd_T23 l1 x20_1).f0)).f2) a0) != 0) = false := bne_eq_false_iff_eq.mpr c17
            clear c17
            replace H := Option.bind_eq_some_iff.mp H
            obtain ⟨⟨t167, t168⟩, A180, H⟩ := H
            replace H : (some (t167, t168, false)) = some (r1, r2, r3) := H
            have A18 := Aside0.mk A180
            clear A180
            simp only [Option.some.injEq, Prod.mk.injEq] at H
            obtain ⟨rfl, rfl, rfl⟩ := H
            have p163 : 0 ≤ (x20_1 : Int) := odx
            have q163 : x20_1 < (l1.length : Int) := odx
            obtain ⟨ad163, e163, hx163_0, hx163_1⟩ := at_T23 HR1.out x20_1 p163 q163
            cases e163
            replace hx163_0 := (HB.out.cell (World.block_lt_of_cell? w _ hx163_0)).trans hx163_0
            replace hx163_1 := (HB.out.cell (World.block_lt_of_cell? w _ hx163_1)).trans hx163_1
            replace p163 := eq_true p163
            replace q163 := eq_true q163
            go_wp2_with (first | ((with_reducible refine gate_dst (N := 9) rfl ?_); refine bxe (N := 9) (cs := #[.int .i64 0, .int .i64 0]) (t := 23) ?_; intro gb164 hg w19 hbox hb; have BK164 := Aside0.mk (hbox); have GW164 : Aside0 (w.heap.size ≤ gb164) := gwx hg; have GE164 : Aside0 (w.heap.size ≤ gb164) := gwx hg; replace HB := Aside0.mk (below_step blx hb); have NB158_164 := nbl BK158 hg; have NB164_158 := nbg BK158 hg; replace BK158 := bkq BK158 hb; have NB162_164 := nbl BK162 hg; have NB164_162 := nbg BK162 hg; replace BK162 := bkq BK162 hb; clear hb hbox hg; have hnb20 := NB164_158.out; have hnc20 := NB158_164.out; have hnb21 := NB164_162.out; have hnc21 := NB162_164.out; obtain ⟨hcz22_0, hcz22_1, hfz22_0, hfz22_1⟩ := c2_ BK164; have p165 : 0 ≤ (0 : Int) := (by omega); have q165 : 0 < (l1.length : Int) := odx; obtain ⟨ad165, e165, hx165_0, hx165_1⟩ := at_T23 HR1.out 0 p165 q165; obtain rfl : ad163 = ad165 := (by injection e165); have qi165 : (0 < l1.length) = True := eq_true (by omega); (try rw [show ((0 : Int)).toNat = 0 from rfl] at hx165_0); (try rw [show 0 * 2 = 0 from rfl] at hx165_0); (try rw [Addr.add_zero'] at hx165_0); (try rw [show ((0 : Int)).toNat = 0 from rfl] at hx165_1); (try rw [show 0 * 2 = 0 from rfl] at hx165_1); (try rw [Addr.add_zero'] at hx165_1); have hn165_0 : ad163.block ≠ gb164 := Nat.ne_of_lt (Nat.lt_of_lt_of_le (by have := World.block_lt_of_cell? _ _ hx165_0; first | rwa [add_block] at this | exact this) GW164.out); have hn165_1 : ad163.block ≠ gb164 := Nat.ne_of_lt (Nat.lt_of_lt_of_le (by have := World.block_lt_of_cell? _ _ hx165_0; first | rwa [add_block] at this | exact this) GW164.out); replace hx165_0 := (HB.out.cell (World.block_lt_of_cell? w _ hx165_0)).trans hx165_0; replace hx165_1 := (HB.out.cell (World.block_lt_of_cell? w _ hx165_1)).trans hx165_1; replace hx165_0 := (cell_far (p := ⟨gb164, 0, none⟩) (by first | (rw [add_block]; exact hn165_0) | (show (Addr.add _ _).block ≠ _; rw [add_block]; exact hn165_0) | exact hn165_0) (.int .i64 ((rd_T23 l1 x20_1).f0))).trans hx165_0; replace hx165_1 := (cell_far (p := ⟨gb164, 0, none⟩) (by first | (rw [add_block]; exact hn165_0) | (show (Addr.add _ _).block ≠ _; rw [add_block]; exact hn165_0) | exact hn165_0) (.int .i64 ((rd_T23 l1 x20_1).f0))).trans hx165_1; replace hx165_0 := (cell_far (p := ⟨gb164, 1, none⟩) (by first | (rw [add_block]; exact hn165_1) | (show (Addr.add _ _).block ≠ _; rw [add_block]; exact hn165_1) | exact hn165_1) (.int .i64 ((rd_T23 l1 x20_1).f1))).trans hx165_0; replace hx165_1 := (cell_far (p := ⟨gb164, 1, none⟩) (by first | (rw [add_block]; exact hn165_1) | (show (Addr.add _ _).block ≠ _; rw [add_block]; exact hn165_1) | exact hn165_1) (.int .i64 ((rd_T23 l1 x20_1).f1))).trans hx165_1; (try have hy165_0 := fun (n_ : Nat) => (show ((((w19.drewN n_).setCell ⟨gb164, 0, none⟩ (.int .i64 ((rd_T23 l1 x20_1).f0))).setCell ⟨gb164, 1, none⟩ (.int .i64 ((rd_T23 l1 x20_1).f1)))).cell? _ = some _ from hx165_0)); (try have hy165_1 := fun (n_ : Nat) => (show ((((w19.drewN n_).setCell ⟨gb164, 0, none⟩ (.int .i64 ((rd_T23 l1 x20_1).f0))).setCell ⟨gb164, 1, none⟩ (.int .i64 ((rd_T23 l1 x20_1).f1)))).cell? _ = some _ from hx165_1)); clear hn165_0; clear hn165_1; replace p165 := eq_true p165; replace q165 := eq_true q165; have p166 : 0 ≤ (((rd_T23 l1 x20_1).f0) : Int) := odx; have q166 : ((rd_T23 l1 x20_1).f0) < (gtab0.length : Int) := odx; have ql166 : ((((rd_T23 l1 x20_1).f0) : Int) < (7 : Int)) = True := eq_true (odx); obtain ⟨ad166, e166, hx166_0, hx166_1, hx166_2⟩ := at_T87 HG0.out ((rd_T23 l1 x20_1).f0) p166 q166; obtain rfl : (⟨0, 0, none⟩ : Addr) = ad166 := (by injection e166); (first | simp only [add_plain] at hx166_0 | simp only [add_at] at hx166_0 | simp only [Addr.add, Nat.zero_add] at hx166_0 | skip); (first | simp only [add_plain] at hx166_1 | simp only [add_at] at hx166_1 | simp only [Addr.add, Nat.zero_add] at hx166_1 | skip); (first | simp only [add_plain] at hx166_2 | simp only [add_at] at hx166_2 | simp only [Addr.add, Nat.zero_add] at hx166_2 | skip); have hn166_0 : (⟨0, 0, none⟩ : Addr).block ≠ gb164 := Nat.ne_of_lt (Nat.lt_of_lt_of_le (by have := World.block_lt_of_cell? _ _ hx166_0; first | rwa [add_block] at this | exact this) GW164.out); have hn166_1 : (⟨0, 0, none⟩ : Addr).block ≠ gb164 := Nat.ne_of_lt (Nat.lt_of_lt_of_le (by have := World.block_lt_of_cell? _ _ hx166_0; first | rwa [add_block] at this | exact this) GW164.out); replace hx166_0 := (HB.out.cell (World.block_lt_of_cell? w _ hx166_0)).trans hx166_0; replace hx166_1 := (HB.out.cell (World.block_lt_of_cell? w _ hx166_1)).trans hx166_1; replace hx166_2 := (HB.out.cell (World.block_lt_of_cell? w _ hx166_2)).trans hx166_2; replace hx166_0 := (cell_far (p := ⟨gb164, 0, none⟩) (by first | (rw [add_block]; exact hn166_0) | (show (Addr.add _ _).block ≠ _; rw [add_block]; exact hn166_0) | exact hn166_0) (.int .i64 ((rd_T23 l1 x20_1).f0))).trans hx166_0; replace hx166_1 := (cell_far (p := ⟨gb164, 0, none⟩) (by first | (rw [add_block]; exact hn166_0) | (show (Addr.add _ _).block ≠ _; rw [add_block]; exact hn166_0) | exact hn166_0) (.int .i64 ((rd_T23 l1 x20_1).f0))).trans hx166_1; replace hx166_2 := (cell_far (p := ⟨gb164, 0, none⟩) (by first | (rw [add_block]; exact hn166_0) | (show (Addr.add _ _).block ≠ _; rw [add_block]; exact hn166_0) | exact hn166_0) (.int .i64 ((rd_T23 l1 x20_1).f0))).trans hx166_2; replace hx166_0 := (cell_far (p := ⟨gb164, 1, none⟩) (by first | (rw [add_block]; exact hn166_1) | (show (Addr.add _ _).block ≠ _; rw [add_block]; exact hn166_1) | exact hn166_1) (.int .i64 ((rd_T23 l1 x20_1).f1))).trans hx166_0; replace hx166_1 := (cell_far (p := ⟨gb164, 1, none⟩) (by first | (rw [add_block]; exact hn166_1) | (show (Addr.add _ _).block ≠ _; rw [add_block]; exact hn166_1) | exact hn166_1) (.int .i64 ((rd_T23 l1 x20_1).f1))).trans hx166_1; replace hx166_2 := (cell_far (p := ⟨gb164, 1, none⟩) (by first | (rw [add_block]; exact hn166_1) | (show (Addr.add _ _).block ≠ _; rw [add_block]; exact hn166_1) | exact hn166_1) (.int .i64 ((rd_T23 l1 x20_1).f1))).trans hx166_2; (try have hy166_0 := fun (n_ : Nat) => (show ((((w19.drewN n_).setCell ⟨gb164, 0, none⟩ (.int .i64 ((rd_T23 l1 x20_1).f0))).setCell ⟨gb164, 1, none⟩ (.int .i64 ((rd_T23 l1 x20_1).f1)))).cell? _ = some _ from hx166_0)); (try have hy166_1 := fun (n_ : Nat) => (show ((((w19.drewN n_).setCell ⟨gb164, 0, none⟩ (.int .i64 ((rd_T23 l1 x20_1).f0))).setCell ⟨gb164, 1, none⟩ (.int .i64 ((rd_T23 l1 x20_1).f1)))).cell? _ = some _ from hx166_1)); (try have hy166_2 := fun (n_ : Nat) => (show ((((w19.drewN n_).setCell ⟨gb164, 0, none⟩ (.int .i64 ((rd_T23 l1 x20_1).f0))).setCell ⟨gb164, 1, none⟩ (.int .i64 ((rd_T23 l1 x20_1).f1)))).cell? _ = some _ from hx166_2)); clear hn166_0; clear hn166_1; replace p166 := eq_true p166; replace q166 := eq_true q166) | (go_at_call 59; (with_reducible refine (money_fault.calls 5 t167 t168 _ A18.out).mono ?_); rintro e w23 ⟨rfl, hb⟩; replace BK158 := bkq BK158 hb; replace BK162 := bkq BK162 hb; replace BK164 := Aside0.mk (blk_below (g := gb164) (o := .cells #[.int .i64 ((rd_T23 l1 x20_1).f0), .int .i64 ((rd_T23 l1 x20_1).f1)] 23 (0, 0)) (by (with_reducible repeat (first | refine blk_drewN ?_ _ | refine blk_drew ?_ | refine blk_alloc ?_ _)); refine blk_put (cs := #[.int .i64 ((rd_T23 l1 x20_1).f0), .int .i64 0]) ?_ 1 _ rfl; (with_reducible repeat (first | refine blk_drewN ?_ _ | refine blk_drew ?_ | refine blk_alloc ?_ _)); refine blk_put (cs := #[.int .i64 0, .int .i64 0]) ?_ 0 _ rfl; (with_reducible repeat (first | refine blk_drewN ?_ _ | refine blk_drew ?_ | refine blk_alloc ?_ _)); exact BK164.out) hb); replace HB := Aside0.mk (below_step blx hb); (try clear hb); (try clear hb2); (try clear hk); (try clear hi); have hnb24 := NB158_162.out; have hnc24 := NB162_158.out; obtain ⟨hcz25_0, hcz25_1, hfz25_0, hfz25_1⟩ := c2_ BK158))
            repeat (go_quiet (first | ((with_reducible refine gate_dst (N := 9) rfl ?_); refine bxe (N := 9) (cs := #[.int .i64 0, .int .i64 0]) (t := 23) ?_; intro gb164 hg w19 hbox hb; have BK164 := Aside0.mk (hbox); have GW164 : Aside0 (w.heap.size ≤ gb164) := gwx hg; have GE164 : Aside0 (w.heap.size ≤ gb164) := gwx hg; replace HB := Aside0.mk (below_step blx hb); have NB158_164 := nbl BK158 hg; have NB164_158 := nbg BK158 hg; replace BK158 := bkq BK158 hb; have NB162_164 := nbl BK162 hg; have NB164_162 := nbg BK162 hg; replace BK162 := bkq BK162 hb; clear hb hbox hg; have hnb20 := NB164_158.out; have hnc20 := NB158_164.out; have hnb21 := NB164_162.out; have hnc21 := NB162_164.out; obtain ⟨hcz22_0, hcz22_1, hfz22_0, hfz22_1⟩ := c2_ BK164; have p165 : 0 ≤ (0 : Int) := (by omega); have q165 : 0 < (l1.length : Int) := odx; obtain ⟨ad165, e165, hx165_0, hx165_1⟩ := at_T23 HR1.out 0 p165 q165; obtain rfl : ad163 = ad165 := (by injection e165); have qi165 : (0 < l1.length) = True := eq_true (by omega); (try rw [show ((0 : Int)).toNat = 0 from rfl] at hx165_0); (try rw [show 0 * 2 = 0 from rfl] at hx165_0); (try rw [Addr.add_zero'] at hx165_0); (try rw [show ((0 : Int)).toNat = 0 from rfl] at hx165_1); (try rw [show 0 * 2 = 0 from rfl] at hx165_1); (try rw [Addr.add_zero'] at hx165_1); have hn165_0 : ad163.block ≠ gb164 := Nat.ne_of_lt (Nat.lt_of_lt_of_le (by have := World.block_lt_of_cell? _ _ hx165_0; first | rwa [add_block] at this | exact this) GW164.out); have hn165_1 : ad163.block ≠ gb164 := Nat.ne_of_lt (Nat.lt_of_lt_of_le (by have := World.block_lt_of_cell? _ _ hx165_0; first | rwa [add_block] at this | exact this) GW164.out); replace hx165_0 := (HB.out.cell (World.block_lt_of_cell? w _ hx165_0)).trans hx165_0; replace hx165_1 := (HB.out.cell (World.block_lt_of_cell? w _ hx165_1)).trans hx165_1; replace hx165_0 := (cell_far (p := ⟨gb164, 0, none⟩) (by first | (rw [add_block]; exact hn165_0) | (show (Addr.add _ _).block ≠ _; rw [add_block]; exact hn165_0) | exact hn165_0) (.int .i64 ((rd_T23 l1 x20_1).f0))).trans hx165_0; replace hx165_1 := (cell_far (p := ⟨gb164, 0, none⟩) (by first | (rw [add_block]; exact hn165_0) | (show (Addr.add _ _).block ≠ _; rw [add_block]; exact hn165_0) | exact hn165_0) (.int .i64 ((rd_T23 l1 x20_1).f0))).trans hx165_1; replace hx165_0 := (cell_far (p := ⟨gb164, 1, none⟩) (by first | (rw [add_block]; exact hn165_1) | (show (Addr.add _ _).block ≠ _; rw [add_block]; exact hn165_1) | exact hn165_1) (.int .i64 ((rd_T23 l1 x20_1).f1))).trans hx165_0; replace hx165_1 := (cell_far (p := ⟨gb164, 1, none⟩) (by first | (rw [add_block]; exact hn165_1) | (show (Addr.add _ _).block ≠ _; rw [add_block]; exact hn165_1) | exact hn165_1) (.int .i64 ((rd_T23 l1 x20_1).f1))).trans hx165_1; (try have hy165_0 := fun (n_ : Nat) => (show ((((w19.drewN n_).setCell ⟨gb164, 0, none⟩ (.int .i64 ((rd_T23 l1 x20_1).f0))).setCell ⟨gb164, 1, none⟩ (.int .i64 ((rd_T23 l1 x20_1).f1)))).cell? _ = some _ from hx165_0)); (try have hy165_1 := fun (n_ : Nat) => (show ((((w19.drewN n_).setCell ⟨gb164, 0, none⟩ (.int .i64 ((rd_T23 l1 x20_1).f0))).setCell ⟨gb164, 1, none⟩ (.int .i64 ((rd_T23 l1 x20_1).f1)))).cell? _ = some _ from hx165_1)); clear hn165_0; clear hn165_1; replace p165 := eq_true p165; replace q165 := eq_true q165; have p166 : 0 ≤ (((rd_T23 l1 x20_1).f0) : Int) := odx; have q166 : ((rd_T23 l1 x20_1).f0) < (gtab0.length : Int) := odx; have ql166 : ((((rd_T23 l1 x20_1).f0) : Int) < (7 : Int)) = True := eq_true (odx); obtain ⟨ad166, e166, hx166_0, hx166_1, hx166_2⟩ := at_T87 HG0.out ((rd_T23 l1 x20_1).f0) p166 q166; obtain rfl : (⟨0, 0, none⟩ : Addr) = ad166 := (by injection e166); (first | simp only [add_plain] at hx166_0 | simp only [add_at] at hx166_0 | simp only [Addr.add, Nat.zero_add] at hx166_0 | skip); (first | simp only [add_plain] at hx166_1 | simp only [add_at] at hx166_1 | simp only [Addr.add, Nat.zero_add] at hx166_1 | skip); (first | simp only [add_plain] at hx166_2 | simp only [add_at] at hx166_2 | simp only [Addr.add, Nat.zero_add] at hx166_2 | skip); have hn166_0 : (⟨0, 0, none⟩ : Addr).block ≠ gb164 := Nat.ne_of_lt (Nat.lt_of_lt_of_le (by have := World.block_lt_of_cell? _ _ hx166_0; first | rwa [add_block] at this | exact this) GW164.out); have hn166_1 : (⟨0, 0, none⟩ : Addr).block ≠ gb164 := Nat.ne_of_lt (Nat.lt_of_lt_of_le (by have := World.block_lt_of_cell? _ _ hx166_0; first | rwa [add_block] at this | exact this) GW164.out); replace hx166_0 := (HB.out.cell (World.block_lt_of_cell? w _ hx166_0)).trans hx166_0; replace hx166_1 := (HB.out.cell (World.block_lt_of_cell? w _ hx166_1)).trans hx166_1; replace hx166_2 := (HB.out.cell (World.block_lt_of_cell? w _ hx166_2)).trans hx166_2; replace hx166_0 := (cell_far (p := ⟨gb164, 0, none⟩) (by first | (rw [add_block]; exact hn166_0) | (show (Addr.add _ _).block ≠ _; rw [add_block]; exact hn166_0) | exact hn166_0) (.int .i64 ((rd_T23 l1 x20_1).f0))).trans hx166_0; replace hx166_1 := (cell_far (p := ⟨gb164, 0, none⟩) (by first | (rw [add_block]; exact hn166_0) | (show (Addr.add _ _).block ≠ _; rw [add_block]; exact hn166_0) | exact hn166_0) (.int .i64 ((rd_T23 l1 x20_1).f0))).trans hx166_1; replace hx166_2 := (cell_far (p := ⟨gb164, 0, none⟩) (by first | (rw [add_block]; exact hn166_0) | (show (Addr.add _ _).block ≠ _; rw [add_block]; exact hn166_0) | exact hn166_0) (.int .i64 ((rd_T23 l1 x20_1).f0))).trans hx166_2; replace hx166_0 := (cell_far (p := ⟨gb164, 1, none⟩) (by first | (rw [add_block]; exact hn166_1) | (show (Addr.add _ _).block ≠ _; rw [add_block]; exact hn166_1) | exact hn166_1) (.int .i64 ((rd_T23 l1 x20_1).f1))).trans hx166_0; replace hx166_1 := (cell_far (p := ⟨gb164, 1, none⟩) (by first | (rw [add_block]; exact hn166_1) | (show (Addr.add _ _).block ≠ _; rw [add_block]; exact hn166_1) | exact hn166_1) (.int .i64 ((rd_T23 l1 x20_1).f1))).trans hx166_1; replace hx166_2 := (cell_far (p := ⟨gb164, 1, none⟩) (by first | (rw [add_block]; exact hn166_1) | (show (Addr.add _ _).block ≠ _; rw [add_block]; exact hn166_1) | exact hn166_1) (.int .i64 ((rd_T23 l1 x20_1).f1))).trans hx166_2; (try have hy166_0 := fun (n_ : Nat) => (show ((((w19.drewN n_).setCell ⟨gb164, 0, none⟩ (.int .i64 ((rd_T23 l1 x20_1).f0))).setCell ⟨gb164, 1, none⟩ (.int .i64 ((rd_T23 l1 x20_1).f1)))).cell? _ = some _ from hx166_0)); (try have hy166_1 := fun (n_ : Nat) => (show ((((w19.drewN n_).setCell ⟨gb164, 0, none⟩ (.int .i64 ((rd_T23 l1 x20_1).f0))).setCell ⟨gb164, 1, none⟩ (.int .i64 ((rd_T23 l1 x20_1).f1)))).cell? _ = some _ from hx166_1)); (try have hy166_2 := fun (n_ : Nat) => (show ((((w19.drewN n_).setCell ⟨gb164, 0, none⟩ (.int .i64 ((rd_T23 l1 x20_1).f0))).setCell ⟨gb164, 1, none⟩ (.int .i64 ((rd_T23 l1 x20_1).f1)))).cell? _ = some _ from hx166_2)); clear hn166_0; clear hn166_1; replace p166 := eq_true p166; replace q166 := eq_true q166) | (go_at_call 59; (with_reducible refine (money_fault.calls 5 t167 t168 _ A18.out).mono ?_); rintro e w23 ⟨rfl, hb⟩; replace BK158 := bkq BK158 hb; replace BK162 := bkq BK162 hb; replace BK164 := Aside0.mk (blk_below (g := gb164) (o := .cells #[.int .i64 ((rd_T23 l1 x20_1).f0), .int .i64 ((rd_T23 l1 x20_1).f1)] 23 (0, 0)) (by (with_reducible repeat (first | refine blk_drewN ?_ _ | refine blk_drew ?_ | refine blk_alloc ?_ _)); refine blk_put (cs := #[.int .i64 ((rd_T23 l1 x20_1).f0), .int .i64 0]) ?_ 1 _ rfl; (with_reducible repeat (first | refine blk_drewN ?_ _ | refine blk_drew ?_ | refine blk_alloc ?_ _)); refine blk_put (cs := #[.int .i64 0, .int .i64 0]) ?_ 0 _ rfl; (with_reducible repeat (first | refine blk_drewN ?_ _ | refine blk_drew ?_ | refine blk_alloc ?_ _)); exact BK164.out) hb); replace HB := Aside0.mk (below_step blx hb); (try clear hb); (try clear hb2); (try clear hk); (try clear hi); have hnb24 := NB158_162.out; have hnc24 := NB162_158.out; obtain ⟨hcz25_0, hcz25_1, hfz25_0, hfz25_1⟩ := c2_ BK158)); try go_wp2_with (first | ((with_reducible refine gate_dst (N := 9) rfl ?_); refine bxe (N := 9) (cs := #[.int .i64 0, .int .i64 0]) (t := 23) ?_; intro gb164 hg w19 hbox hb; have BK164 := Aside0.mk (hbox); have GW164 : Aside0 (w.heap.size ≤ gb164) := gwx hg; have GE164 : Aside0 (w.heap.size ≤ gb164) := gwx hg; replace HB := Aside0.mk (below_step blx hb); have NB158_164 := nbl BK158 hg; have NB164_158 := nbg BK158 hg; replace BK158 := bkq BK158 hb; have NB162_164 := nbl BK162 hg; have NB164_162 := nbg BK162 hg; replace BK162 := bkq BK162 hb; clear hb hbox hg; have hnb20 := NB164_158.out; have hnc20 := NB158_164.out; have hnb21 := NB164_162.out; have hnc21 := NB162_164.out; obtain ⟨hcz22_0, hcz22_1, hfz22_0, hfz22_1⟩ := c2_ BK164; have p165 : 0 ≤ (0 : Int) := (by omega); have q165 : 0 < (l1.length : Int) := odx; obtain ⟨ad165, e165, hx165_0, hx165_1⟩ := at_T23 HR1.out 0 p165 q165; obtain rfl : ad163 = ad165 := (by injection e165); have qi165 : (0 < l1.length) = True := eq_true (by omega); (try rw [show ((0 : Int)).toNat = 0 from rfl] at hx165_0); (try rw [show 0 * 2 = 0 from rfl] at hx165_0); (try rw [Addr.add_zero'] at hx165_0); (try rw [show ((0 : Int)).toNat = 0 from rfl] at hx165_1); (try rw [show 0 * 2 = 0 from rfl] at hx165_1); (try rw [Addr.add_zero'] at hx165_1); have hn165_0 : ad163.block ≠ gb164 := Nat.ne_of_lt (Nat.lt_of_lt_of_le (by have := World.block_lt_of_cell? _ _ hx165_0; first | rwa [add_block] at this | exact this) GW164.out); have hn165_1 : ad163.block ≠ gb164 := Nat.ne_of_lt (Nat.lt_of_lt_of_le (by have := World.block_lt_of_cell? _ _ hx165_0; first | rwa [add_block] at this | exact this) GW164.out); replace hx165_0 := (HB.out.cell (World.block_lt_of_cell? w _ hx165_0)).trans hx165_0; replace hx165_1 := (HB.out.cell (World.block_lt_of_cell? w _ hx165_1)).trans hx165_1; replace hx165_0 := (cell_far (p := ⟨gb164, 0, none⟩) (by first | (rw [add_block]; exact hn165_0) | (show (Addr.add _ _).block ≠ _; rw [add_block]; exact hn165_0) | exact hn165_0) (.int .i64 ((rd_T23 l1 x20_1).f0))).trans hx165_0; replace hx165_1 := (cell_far (p := ⟨gb164, 0, none⟩) (by first | (rw [add_block]; exact hn165_0) | (show (Addr.add _ _).block ≠ _; rw [add_block]; exact hn165_0) | exact hn165_0) (.int .i64 ((rd_T23 l1 x20_1).f0))).trans hx165_1; replace hx165_0 := (cell_far (p := ⟨gb164, 1, none⟩) (by first | (rw [add_block]; exact hn165_1) | (show (Addr.add _ _).block ≠ _; rw [add_block]; exact hn165_1) | exact hn165_1) (.int .i64 ((rd_T23 l1 x20_1).f1))).trans hx165_0; replace hx165_1 := (cell_far (p := ⟨gb164, 1, none⟩) (by first | (rw [add_block]; exact hn165_1) | (show (Addr.add _ _).block ≠ _; rw [add_block]; exact hn165_1) | exact hn165_1) (.int .i64 ((rd_T23 l1 x20_1).f1))).trans hx165_1; (try have hy165_0 := fun (n_ : Nat) => (show ((((w19.drewN n_).setCell ⟨gb164, 0, none⟩ (.int .i64 ((rd_T23 l1 x20_1).f0))).setCell ⟨gb164, 1, none⟩ (.int .i64 ((rd_T23 l1 x20_1).f1)))).cell? _ = some _ from hx165_0)); (try have hy165_1 := fun (n_ : Nat) => (show ((((w19.drewN n_).setCell ⟨gb164, 0, none⟩ (.int .i64 ((rd_T23 l1 x20_1).f0))).setCell ⟨gb164, 1, none⟩ (.int .i64 ((rd_T23 l1 x20_1).f1)))).cell? _ = some _ from hx165_1)); clear hn165_0; clear hn165_1; replace p165 := eq_true p165; replace q165 := eq_true q165; have p166 : 0 ≤ (((rd_T23 l1 x20_1).f0) : Int) := odx; have q166 : ((rd_T23 l1 x20_1).f0) < (gtab0.length : Int) := odx; have ql166 : ((((rd_T23 l1 x20_1).f0) : Int) < (7 : Int)) = True := eq_true (odx); obtain ⟨ad166, e166, hx166_0, hx166_1, hx166_2⟩ := at_T87 HG0.out ((rd_T23 l1 x20_1).f0) p166 q166; obtain rfl : (⟨0, 0, none⟩ : Addr) = ad166 := (by injection e166); (first | simp only [add_plain] at hx166_0 | simp only [add_at] at hx166_0 | simp only [Addr.add, Nat.zero_add] at hx166_0 | skip); (first | simp only [add_plain] at hx166_1 | simp only [add_at] at hx166_1 | simp only [Addr.add, Nat.zero_add] at hx166_1 | skip); (first | simp only [add_plain] at hx166_2 | simp only [add_at] at hx166_2 | simp only [Addr.add, Nat.zero_add] at hx166_2 | skip); have hn166_0 : (⟨0, 0, none⟩ : Addr).block ≠ gb164 := Nat.ne_of_lt (Nat.lt_of_lt_of_le (by have := World.block_lt_of_cell? _ _ hx166_0; first | rwa [add_block] at this | exact this) GW164.out); have hn166_1 : (⟨0, 0, none⟩ : Addr).block ≠ gb164 := Nat.ne_of_lt (Nat.lt_of_lt_of_le (by have := World.block_lt_of_cell? _ _ hx166_0; first | rwa [add_block] at this | exact this) GW164.out); replace hx166_0 := (HB.out.cell (World.block_lt_of_cell? w _ hx166_0)).trans hx166_0; replace hx166_1 := (HB.out.cell (World.block_lt_of_cell? w _ hx166_1)).trans hx166_1; replace hx166_2 := (HB.out.cell (World.block_lt_of_cell? w _ hx166_2)).trans hx166_2; replace hx166_0 := (cell_far (p := ⟨gb164, 0, none⟩) (by first | (rw [add_block]; exact hn166_0) | (show (Addr.add _ _).block ≠ _; rw [add_block]; exact hn166_0) | exact hn166_0) (.int .i64 ((rd_T23 l1 x20_1).f0))).trans hx166_0; replace hx166_1 := (cell_far (p := ⟨gb164, 0, none⟩) (by first | (rw [add_block]; exact hn166_0) | (show (Addr.add _ _).block ≠ _; rw [add_block]; exact hn166_0) | exact hn166_0) (.int .i64 ((rd_T23 l1 x20_1).f0))).trans hx166_1; replace hx166_2 := (cell_far (p := ⟨gb164, 0, none⟩) (by first | (rw [add_block]; exact hn166_0) | (show (Addr.add _ _).block ≠ _; rw [add_block]; exact hn166_0) | exact hn166_0) (.int .i64 ((rd_T23 l1 x20_1).f0))).trans hx166_2; replace hx166_0 := (cell_far (p := ⟨gb164, 1, none⟩) (by first | (rw [add_block]; exact hn166_1) | (show (Addr.add _ _).block ≠ _; rw [add_block]; exact hn166_1) | exact hn166_1) (.int .i64 ((rd_T23 l1 x20_1).f1))).trans hx166_0; replace hx166_1 := (cell_far (p := ⟨gb164, 1, none⟩) (by first | (rw [add_block]; exact hn166_1) | (show (Addr.add _ _).block ≠ _; rw [add_block]; exact hn166_1) | exact hn166_1) (.int .i64 ((rd_T23 l1 x20_1).f1))).trans hx166_1; replace hx166_2 := (cell_far (p := ⟨gb164, 1, none⟩) (by first | (rw [add_block]; exact hn166_1) | (show (Addr.add _ _).block ≠ _; rw [add_block]; exact hn166_1) | exact hn166_1) (.int .i64 ((rd_T23 l1 x20_1).f1))).trans hx166_2; (try have hy166_0 := fun (n_ : Nat) => (show ((((w19.drewN n_).setCell ⟨gb164, 0, none⟩ (.int .i64 ((rd_T23 l1 x20_1).f0))).setCell ⟨gb164, 1, none⟩ (.int .i64 ((rd_T23 l1 x20_1).f1)))).cell? _ = some _ from hx166_0)); (try have hy166_1 := fun (n_ : Nat) => (show ((((w19.drewN n_).setCell ⟨gb164, 0, none⟩ (.int .i64 ((rd_T23 l1 x20_1).f0))).setCell ⟨gb164, 1, none⟩ (.int .i64 ((rd_T23 l1 x20_1).f1)))).cell? _ = some _ from hx166_1)); (try have hy166_2 := fun (n_ : Nat) => (show ((((w19.drewN n_).setCell ⟨gb164, 0, none⟩ (.int .i64 ((rd_T23 l1 x20_1).f0))).setCell ⟨gb164, 1, none⟩ (.int .i64 ((rd_T23 l1 x20_1).f1)))).cell? _ = some _ from hx166_2)); clear hn166_0; clear hn166_1; replace p166 := eq_true p166; replace q166 := eq_true q166) | (go_at_call 59; (with_reducible refine (money_fault.calls 5 t167 t168 _ A18.out).mono ?_); rintro e w23 ⟨rfl, hb⟩; replace BK158 := bkq BK158 hb; replace BK162 := bkq BK162 hb; replace BK164 := Aside0.mk (blk_below (g := gb164) (o := .cells #[.int .i64 ((rd_T23 l1 x20_1).f0), .int .i64 ((rd_T23 l1 x20_1).f1)] 23 (0, 0)) (by (with_reducible repeat (first | refine blk_drewN ?_ _ | refine blk_drew ?_ | refine blk_alloc ?_ _)); refine blk_put (cs := #[.int .i64 ((rd_T23 l1 x20_1).f0), .int .i64 0]) ?_ 1 _ rfl; (with_reducible repeat (first | refine blk_drewN ?_ _ | refine blk_drew ?_ | refine blk_alloc ?_ _)); refine blk_put (cs := #[.int .i64 0, .int .i64 0]) ?_ 0 _ rfl; (with_reducible repeat (first | refine blk_drewN ?_ _ | refine blk_drew ?_ | refine blk_alloc ?_ _)); exact BK164.out) hb); replace HB := Aside0.mk (below_step blx hb); (try clear hb); (try clear hb2); (try clear hk); (try clear hi); have hnb24 := NB158_162.out; have hnc24 := NB162_158.out; obtain ⟨hcz25_0, hcz25_1, hfz25_0, hfz25_1⟩ := c2_ BK158)))
            refine bodyPost_ret (results_ct rfl _ _ gb158 23 #[.int .i64 t167, .int .i64 t168] (0, 0) _ rfl (by (with_reducible repeat (first | refine blk_drewN ?_ _ | refine blk_drew ?_ | refine blk_alloc ?_ _)); refine blk_put (cs := #[.int .i64 t167, .int .i64 x159001_1]) ?_ 1 _ rfl; (with_reducible repeat (first | refine blk_drewN ?_ _ | refine blk_drew ?_ | refine blk_alloc ?_ _)); refine blk_put (cs := #[.int .i64 x159000_1, .int .i64 x159001_1]) ?_ 0 _ rfl; (with_reducible repeat (first | refine blk_drewN ?_ _ | refine blk_drew ?_ | refine blk_alloc ?_ _)); exact BK158.out) Tryd.underlying23 rfl (by kernel_rfl)) rfl ?_
            exact ⟨by first | rfl | (simp [errW_none, errW_some] <;> rfl) | (simp [*, errW_none, errW_some] <;> rfl), blx⟩
           ·rw [if_neg c17] at H
            have c17b0 : ((Go.bits .and .i64 ((rd_T87 gtab0 ((rd_T23 l1 x20_1).f0)).f2) a0) == 0) = false := beq_eq_false_iff_ne.mpr c17
            have c17b1 : ((Go.bits .and .i64 ((rd_T87 gtab0 ((rd_T23 l1 x20_1).f0)).f2) a0) != 0) = true := bne_iff_ne.mpr c17
            have H' := Aside0.mk H
            clear H
            have p163 : 0 ≤ (x20_1 : Int) := odx
            have q163 : x20_1 < (l1.length : Int) := odx
            obtain ⟨ad163, e163, hx163_0, hx163_1⟩ := at_T23 HR1.out x20_1 p163 q163
            cases e163
            replace hx163_0 := (HB.out.cell (World.block_lt_of_cell? w _ hx163_0)).trans hx163_0
            replace hx163_1 := (HB.out.cell (World.block_lt_of_cell? w _ hx163_1)).trans hx163_1
            replace p163 := eq_true p163
            replace q163 := eq_true q163
            go_wp2_with (first | ((with_reducible refine gate_dst (N := 9) rfl ?_); refine bxe (N := 9) (cs := #[.int .i64 0, .int .i64 0]) (t := 23) ?_; intro gb164 hg w26 hbox hb; have BK164 := Aside0.mk (hbox); have GW164 : Aside0 (w.heap.size ≤ gb164) := gwx hg; have GE164 : Aside0 (w.heap.size ≤ gb164) := gwx hg; replace HB := Aside0.mk (below_step blx hb); have NB158_164 := nbl BK158 hg; have NB164_158 := nbg BK158 hg; replace BK158 := bkq BK158 hb; have NB162_164 := nbl BK162 hg; have NB164_162 := nbg BK162 hg; replace BK162 := bkq BK162 hb; clear hb hbox hg; have hnb27 := NB164_158.out; have hnc27 := NB158_164.out; have hnb28 := NB164_162.out; have hnc28 := NB162_164.out; obtain ⟨hcz29_0, hcz29_1, hfz29_0, hfz29_1⟩ := c2_ BK164; have p165 : 0 ≤ (0 : Int) := (by omega); have q165 : 0 < (l1.length : Int) := odx; obtain ⟨ad165, e165, hx165_0, hx165_1⟩ := at_T23 HR1.out 0 p165 q165; obtain rfl : ad163 = ad165 := (by injection e165); have qi165 : (0 < l1.length) = True := eq_true (by omega); (try rw [show ((0 : Int)).toNat = 0 from rfl] at hx165_0); (try rw [show 0 * 2 = 0 from rfl] at hx165_0); (try rw [Addr.add_zero'] at hx165_0); (try rw [show ((0 : Int)).toNat = 0 from rfl] at hx165_1); (try rw [show 0 * 2 = 0 from rfl] at hx165_1); (try rw [Addr.add_zero'] at hx165_1); have hn165_0 : ad163.block ≠ gb164 := Nat.ne_of_lt (Nat.lt_of_lt_of_le (by have := World.block_lt_of_cell? _ _ hx165_0; first | rwa [add_block] at this | exact this) GW164.out); have hn165_1 : ad163.block ≠ gb164 := Nat.ne_of_lt (Nat.lt_of_lt_of_le (by have := World.block_lt_of_cell? _ _ hx165_0; first | rwa [add_block] at this | exact this) GW164.out); replace hx165_0 := (HB.out.cell (World.block_lt_of_cell? w _ hx165_0)).trans hx165_0; replace hx165_1 := (HB.out.cell (World.block_lt_of_cell? w _ hx165_1)).trans hx165_1; replace hx165_0 := (cell_far (p := ⟨gb164, 0, none⟩) (by first | (rw [add_block]; exact hn165_0) | (show (Addr.add _ _).block ≠ _; rw [add_block]; exact hn165_0) | exact hn165_0) (.int .i64 ((rd_T23 l1 x20_1).f0))).trans hx165_0; replace hx165_1 := (cell_far (p := ⟨gb164, 0, none⟩) (by first | (rw [add_block]; exact hn165_0) | (show (Addr.add _ _).block ≠ _; rw [add_block]; exact hn165_0) | exact hn165_0) (.int .i64 ((rd_T23 l1 x20_1).f0))).trans hx165_1; replace hx165_0 := (cell_far (p := ⟨gb164, 1, none⟩) (by first | (rw [add_block]; exact hn165_1) | (show (Addr.add _ _).block ≠ _; rw [add_block]; exact hn165_1) | exact hn165_1) (.int .i64 ((rd_T23 l1 x20_1).f1))).trans hx165_0; replace hx165_1 := (cell_far (p := ⟨gb164, 1, none⟩) (by first | (rw [add_block]; exact hn165_1) | (show (Addr.add _ _).block ≠ _; rw [add_block]; exact hn165_1) | exact hn165_1) (.int .i64 ((rd_T23 l1 x20_1).f1))).trans hx165_1; (try have hy165_0 := fun (n_ : Nat) => (show ((((w26.drewN n_).setCell ⟨gb164, 0, none⟩ (.int .i64 ((rd_T23 l1 x20_1).f0))).setCell ⟨gb164, 1, none⟩ (.int .i64 ((rd_T23 l1 x20_1).f1)))).cell? _ = some _ from hx165_0)); (try have hy165_1 := fun (n_ : Nat) => (show ((((w26.drewN n_).setCell ⟨gb164, 0, none⟩ (.int .i64 ((rd_T23 l1 x20_1).f0))).setCell ⟨gb164, 1, none⟩ (.int .i64 ((rd_T23 l1 x20_1).f1)))).cell? _ = some _ from hx165_1)); clear hn165_0; clear hn165_1; replace p165 := eq_true p165; replace q165 := eq_true q165; have p166 : 0 ≤ (((rd_T23 l1 x20_1).f0) : Int) := odx; have q166 : ((rd_T23 l1 x20_1).f0) < (gtab0.length : Int) := odx; have ql166 : ((((rd_T23 l1 x20_1).f0) : Int) < (7 : Int)) = True := eq_true (odx); obtain ⟨ad166, e166, hx166_0, hx166_1, hx166_2⟩ := at_T87 HG0.out ((rd_T23 l1 x20_1).f0) p166 q166; obtain rfl : (⟨0, 0, none⟩ : Addr) = ad166 := (by injection e166); (first | simp only [add_plain] at hx166_0 | simp only [add_at] at hx166_0 | simp only [Addr.add, Nat.zero_add] at hx166_0 | skip); (first | simp only [add_plain] at hx166_1 | simp only [add_at] at hx166_1 | simp only [Addr.add, Nat.zero_add] at hx166_1 | skip); (first | simp only [add_plain] at hx166_2 | simp only [add_at] at hx166_2 | simp only [Addr.add, Nat.zero_add] at hx166_2 | skip); have hn166_0 : (⟨0, 0, none⟩ : Addr).block ≠ gb164 := Nat.ne_of_lt (Nat.lt_of_lt_of_le (by have := World.block_lt_of_cell? _ _ hx166_0; first | rwa [add_block] at this | exact this) GW164.out); have hn166_1 : (⟨0, 0, none⟩ : Addr).block ≠ gb164 := Nat.ne_of_lt (Nat.lt_of_lt_of_le (by have := World.block_lt_of_cell? _ _ hx166_0; first | rwa [add_block] at this | exact this) GW164.out); replace hx166_0 := (HB.out.cell (World.block_lt_of_cell? w _ hx166_0)).trans hx166_0; replace hx166_1 := (HB.out.cell (World.block_lt_of_cell? w _ hx166_1)).trans hx166_1; replace hx166_2 := (HB.out.cell (World.block_lt_of_cell? w _ hx166_2)).trans hx166_2; replace hx166_0 := (cell_far (p := ⟨gb164, 0, none⟩) (by first | (rw [add_block]; exact hn166_0) | (show (Addr.add _ _).block ≠ _; rw [add_block]; exact hn166_0) | exact hn166_0) (.int .i64 ((rd_T23 l1 x20_1).f0))).trans hx166_0; replace hx166_1 := (cell_far (p := ⟨gb164, 0, none⟩) (by first | (rw [add_block]; exact hn166_0) | (show (Addr.add _ _).block ≠ _; rw [add_block]; exact hn166_0) | exact hn166_0) (.int .i64 ((rd_T23 l1 x20_1).f0))).trans hx166_1; replace hx166_2 := (cell_far (p := ⟨gb164, 0, none⟩) (by first | (rw [add_block]; exact hn166_0) | (show (Addr.add _ _).block ≠ _; rw [add_block]; exact hn166_0) | exact hn166_0) (.int .i64 ((rd_T23 l1 x20_1).f0))).trans hx166_2; replace hx166_0 := (cell_far (p := ⟨gb164, 1, none⟩) (by first | (rw [add_block]; exact hn166_1) | (show (Addr.add _ _).block ≠ _; rw [add_block]; exact hn166_1) | exact hn166_1) (.int .i64 ((rd_T23 l1 x20_1).f1))).trans hx166_0; replace hx166_1 := (cell_far (p := ⟨gb164, 1, none⟩) (by first | (rw [add_block]; exact hn166_1) | (show (Addr.add _ _).block ≠ _; rw [add_block]; exact hn166_1) | exact hn166_1) (.int .i64 ((rd_T23 l1 x20_1).f1))).trans hx166_1; replace hx166_2 := (cell_far (p := ⟨gb164, 1, none⟩) (by first | (rw [add_block]; exact hn166_1) | (show (Addr.add _ _).block ≠ _; rw [add_block]; exact hn166_1) | exact hn166_1) (.int .i64 ((rd_T23 l1 x20_1).f1))).trans hx166_2; (try have hy166_0 := fun (n_ : Nat) => (show ((((w26.drewN n_).setCell ⟨gb164, 0, none⟩ (.int .i64 ((rd_T23 l1 x20_1).f0))).setCell ⟨gb164, 1, none⟩ (.int .i64 ((rd_T23 l1 x20_1).f1)))).cell? _ = some _ from hx166_0)); (try have hy166_1 := fun (n_ : Nat) => (show ((((w26.drewN n_).setCell ⟨gb164, 0, none⟩ (.int .i64 ((rd_T23 l1 x20_1).f0))).setCell ⟨gb164, 1, none⟩ (.int .i64 ((rd_T23 l1 x20_1).f1)))).cell? _ = some _ from hx166_1)); (try have hy166_2 := fun (n_ : Nat) => (show ((((w26.drewN n_).setCell ⟨gb164, 0, none⟩ (.int .i64 ((rd_T23 l1 x20_1).f0))).setCell ⟨gb164, 1, none⟩ (.int .i64 ((rd_T23 l1 x20_1).f1)))).cell? _ = some _ from hx166_2)); clear hn166_0; clear hn166_1; replace p166 := eq_true p166; replace q166 := eq_true q166))
            repeat (go_quiet (first | ((with_reducible refine gate_dst (N := 9) rfl ?_); refine bxe (N := 9) (cs := #[.int .i64 0, .int .i64 0]) (t := 23) ?_; intro gb164 hg w26 hbox hb; have BK164 := Aside0.mk (hbox); have GW164 : Aside0 (w.heap.size ≤ gb164) := gwx hg; have GE164 : Aside0 (w.heap.size ≤ gb164) := gwx hg; replace HB := Aside0.mk (below_step blx hb); have NB158_164 := nbl BK158 hg; have NB164_158 := nbg BK158 hg; replace BK158 := bkq BK158 hb; have NB162_164 := nbl BK162 hg; have NB164_162 := nbg BK162 hg; replace BK162 := bkq BK162 hb; clear hb hbox hg; have hnb27 := NB164_158.out; have hnc27 := NB158_164.out; have hnb28 := NB164_162.out; have hnc28 := NB162_164.out; obtain ⟨hcz29_0, hcz29_1, hfz29_0, hfz29_1⟩ := c2_ BK164; have p165 : 0 ≤ (0 : Int) := (by omega); have q165 : 0 < (l1.length : Int) := odx; obtain ⟨ad165, e165, hx165_0, hx165_1⟩ := at_T23 HR1.out 0 p165 q165; obtain rfl : ad163 = ad165 := (by injection e165); have qi165 : (0 < l1.length) = True := eq_true (by omega); (try rw [show ((0 : Int)).toNat = 0 from rfl] at hx165_0); (try rw [show 0 * 2 = 0 from rfl] at hx165_0); (try rw [Addr.add_zero'] at hx165_0); (try rw [show ((0 : Int)).toNat = 0 from rfl] at hx165_1); (try rw [show 0 * 2 = 0 from rfl] at hx165_1); (try rw [Addr.add_zero'] at hx165_1); have hn165_0 : ad163.block ≠ gb164 := Nat.ne_of_lt (Nat.lt_of_lt_of_le (by have := World.block_lt_of_cell? _ _ hx165_0; first | rwa [add_block] at this | exact this) GW164.out); have hn165_1 : ad163.block ≠ gb164 := Nat.ne_of_lt (Nat.lt_of_lt_of_le (by have := World.block_lt_of_cell? _ _ hx165_0; first | rwa [add_block] at this | exact this) GW164.out); replace hx165_0 := (HB.out.cell (World.block_lt_of_cell? w _ hx165_0)).trans hx165_0; replace hx165_1 := (HB.out.cell (World.block_lt_of_cell? w _ hx165_1)).trans hx165_1; replace hx165_0 := (cell_far (p := ⟨gb164, 0, none⟩) (by first | (rw [add_block]; exact hn165_0) | (show (Addr.add _ _).block ≠ _; rw [add_block]; exact hn165_0) | exact hn165_0) (.int .i64 ((rd_T23 l1 x20_1).f0))).trans hx165_0; replace hx165_1 := (cell_far (p := ⟨gb164, 0, none⟩) (by first | (rw [add_block]; exact hn165_0) | (show (Addr.add _ _).block ≠ _; rw [add_block]; exact hn165_0) | exact hn165_0) (.int .i64 ((rd_T23 l1 x20_1).f0))).trans hx165_1; replace hx165_0 := (cell_far (p := ⟨gb164, 1, none⟩) (by first | (rw [add_block]; exact hn165_1) | (show (Addr.add _ _).block ≠ _; rw [add_block]; exact hn165_1) | exact hn165_1) (.int .i64 ((rd_T23 l1 x20_1).f1))).trans hx165_0; replace hx165_1 := (cell_far (p := ⟨gb164, 1, none⟩) (by first | (rw [add_block]; exact hn165_1) | (show (Addr.add _ _).block ≠ _; rw [add_block]; exact hn165_1) | exact hn165_1) (.int .i64 ((rd_T23 l1 x20_1).f1))).trans hx165_1; (try have hy165_0 := fun (n_ : Nat) => (show ((((w26.drewN n_).setCell ⟨gb164, 0, none⟩ (.int .i64 ((rd_T23 l1 x20_1).f0))).setCell ⟨gb164, 1, none⟩ (.int .i64 ((rd_T23 l1 x20_1).f1)))).cell? _ = some _ from hx165_0)); (try have hy165_1 := fun (n_ : Nat) => (show ((((w26.drewN n_).setCell ⟨gb164, 0, none⟩ (.int .i64 ((rd_T23 l1 x20_1).f0))).setCell ⟨gb164, 1, none⟩ (.int .i64 ((rd_T23 l1 x20_1).f1)))).cell? _ = some _ from hx165_1)); clear hn165_0; clear hn165_1; replace p165 := eq_true p165; replace q165 := eq_true q165; have p166 : 0 ≤ (((rd_T23 l1 x20_1).f0) : Int) := odx; have q166 : ((rd_T23 l1 x20_1).f0) < (gtab0.length : Int) := odx; have ql166 : ((((rd_T23 l1 x20_1).f0) : Int) < (7 : Int)) = True := eq_true (odx); obtain ⟨ad166, e166, hx166_0, hx166_1, hx166_2⟩ := at_T87 HG0.out ((rd_T23 l1 x20_1).f0) p166 q166; obtain rfl : (⟨0, 0, none⟩ : Addr) = ad166 := (by injection e166); (first | simp only [add_plain] at hx166_0 | simp only [add_at] at hx166_0 | simp only [Addr.add, Nat.zero_add] at hx166_0 | skip); (first | simp only [add_plain] at hx166_1 | simp only [add_at] at hx166_1 | simp only [Addr.add, Nat.zero_add] at hx166_1 | skip); (first | simp only [add_plain] at hx166_2 | simp only [add_at] at hx166_2 | simp only [Addr.add, Nat.zero_add] at hx166_2 | skip); have hn166_0 : (⟨0, 0, none⟩ : Addr).block ≠ gb164 := Nat.ne_of_lt (Nat.lt_of_lt_of_le (by have := World.block_lt_of_cell? _ _ hx166_0; first | rwa [add_block] at this | exact this) GW164.out); have hn166_1 : (⟨0, 0, none⟩ : Addr).block ≠ gb164 := Nat.ne_of_lt (Nat.lt_of_lt_of_le (by have := World.block_lt_of_cell? _ _ hx166_0; first | rwa [add_block] at this | exact this) GW164.out); replace hx166_0 := (HB.out.cell (World.block_lt_of_cell? w _ hx166_0)).trans hx166_0; replace hx166_1 := (HB.out.cell (World.block_lt_of_cell? w _ hx166_1)).trans hx166_1; replace hx166_2 := (HB.out.cell (World.block_lt_of_cell? w _ hx166_2)).trans hx166_2; replace hx166_0 := (cell_far (p := ⟨gb164, 0, none⟩) (by first | (rw [add_block]; exact hn166_0) | (show (Addr.add _ _).block ≠ _; rw [add_block]; exact hn166_0) | exact hn166_0) (.int .i64 ((rd_T23 l1 x20_1).f0))).trans hx166_0; replace hx166_1 := (cell_far (p := ⟨gb164, 0, none⟩) (by first | (rw [add_block]; exact hn166_0) | (show (Addr.add _ _).block ≠ _; rw [add_block]; exact hn166_0) | exact hn166_0) (.int .i64 ((rd_T23 l1 x20_1).f0))).trans hx166_1; replace hx166_2 := (cell_far (p := ⟨gb164, 0, none⟩) (by first | (rw [add_block]; exact hn166_0) | (show (Addr.add _ _).block ≠ _; rw [add_block]; exact hn166_0) | exact hn166_0) (.int .i64 ((rd_T23 l1 x20_1).f0))).trans hx166_2; replace hx166_0 := (cell_far (p := ⟨gb164, 1, none⟩) (by first | (rw [add_block]; exact hn166_1) | (show (Addr.add _ _).block ≠ _; rw [add_block]; exact hn166_1) | exact hn166_1) (.int .i64 ((rd_T23 l1 x20_1).f1))).trans hx166_0; replace hx166_1 := (cell_far (p := ⟨gb164, 1, none⟩) (by first | (rw [add_block]; exact hn166_1) | (show (Addr.add _ _).block ≠ _; rw [add_block]; exact hn166_1) | exact hn166_1) (.int .i64 ((rd_T23 l1 x20_1).f1))).trans hx166_1; replace hx166_2 := (cell_far (p := ⟨gb164, 1, none⟩) (by first | (rw [add_block]; exact hn166_1) | (show (Addr.add _ _).block ≠ _; rw [add_block]; exact hn166_1) | exact hn166_1) (.int .i64 ((rd_T23 l1 x20_1).f1))).trans hx166_2; (try have hy166_0 := fun (n_ : Nat) => (show ((((w26.drewN n_).setCell ⟨gb164, 0, none⟩ (.int .i64 ((rd_T23 l1 x20_1).f0))).setCell ⟨gb164, 1, none⟩ (.int .i64 ((rd_T23 l1 x20_1).f1)))).cell? _ = some _ from hx166_0)); (try have hy166_1 := fun (n_ : Nat) => (show ((((w26.drewN n_).setCell ⟨gb164, 0, none⟩ (.int .i64 ((rd_T23 l1 x20_1).f0))).setCell ⟨gb164, 1, none⟩ (.int .i64 ((rd_T23 l1 x20_1).f1)))).cell? _ = some _ from hx166_1)); (try have hy166_2 := fun (n_ : Nat) => (show ((((w26.drewN n_).setCell ⟨gb164, 0, none⟩ (.int .i64 ((rd_T23 l1 x20_1).f0))).setCell ⟨gb164, 1, none⟩ (.int .i64 ((rd_T23 l1 x20_1).f1)))).cell? _ = some _ from hx166_2)); clear hn166_0; clear hn166_1; replace p166 := eq_true p166; replace q166 := eq_true q166)); try go_wp2_with (first | ((with_reducible refine gate_dst (N := 9) rfl ?_); refine bxe (N := 9) (cs := #[.int .i64 0, .int .i64 0]) (t := 23) ?_; intro gb164 hg w26 hbox hb; have BK164 := Aside0.mk (hbox); have GW164 : Aside0 (w.heap.size ≤ gb164) := gwx hg; have GE164 : Aside0 (w.heap.size ≤ gb164) := gwx hg; replace HB := Aside0.mk (below_step blx hb); have NB158_164 := nbl BK158 hg; have NB164_158 := nbg BK158 hg; replace BK158 := bkq BK158 hb; have NB162_164 := nbl BK162 hg; have NB164_162 := nbg BK162 hg; replace BK162 := bkq BK162 hb; clear hb hbox hg; have hnb27 := NB164_158.out; have hnc27 := NB158_164.out; have hnb28 := NB164_162.out; have hnc28 := NB162_164.out; obtain ⟨hcz29_0, hcz29_1, hfz29_0, hfz29_1⟩ := c2_ BK164; have p165 : 0 ≤ (0 : Int) := (by omega); have q165 : 0 < (l1.length : Int) := odx; obtain ⟨ad165, e165, hx165_0, hx165_1⟩ := at_T23 HR1.out 0 p165 q165; obtain rfl : ad163 = ad165 := (by injection e165); have qi165 : (0 < l1.length) = True := eq_true (by omega); (try rw [show ((0 : Int)).toNat = 0 from rfl] at hx165_0); (try rw [show 0 * 2 = 0 from rfl] at hx165_0); (try rw [Addr.add_zero'] at hx165_0); (try rw [show ((0 : Int)).toNat = 0 from rfl] at hx165_1); (try rw [show 0 * 2 = 0 from rfl] at hx165_1); (try rw [Addr.add_zero'] at hx165_1); have hn165_0 : ad163.block ≠ gb164 := Nat.ne_of_lt (Nat.lt_of_lt_of_le (by have := World.block_lt_of_cell? _ _ hx165_0; first | rwa [add_block] at this | exact this) GW164.out); have hn165_1 : ad163.block ≠ gb164 := Nat.ne_of_lt (Nat.lt_of_lt_of_le (by have := World.block_lt_of_cell? _ _ hx165_0; first | rwa [add_block] at this | exact this) GW164.out); replace hx165_0 := (HB.out.cell (World.block_lt_of_cell? w _ hx165_0)).trans hx165_0; replace hx165_1 := (HB.out.cell (World.block_lt_of_cell? w _ hx165_1)).trans hx165_1; replace hx165_0 := (cell_far (p := ⟨gb164, 0, none⟩) (by first | (rw [add_block]; exact hn165_0) | (show (Addr.add _ _).block ≠ _; rw [add_block]; exact hn165_0) | exact hn165_0) (.int .i64 ((rd_T23 l1 x20_1).f0))).trans hx165_0; replace hx165_1 := (cell_far (p := ⟨gb164, 0, none⟩) (by first | (rw [add_block]; exact hn165_0) | (show (Addr.add _ _).block ≠ _; rw [add_block]; exact hn165_0) | exact hn165_0) (.int .i64 ((rd_T23 l1 x20_1).f0))).trans hx165_1; replace hx165_0 := (cell_far (p := ⟨gb164, 1, none⟩) (by first | (rw [add_block]; exact hn165_1) | (show (Addr.add _ _).block ≠ _; rw [add_block]; exact hn165_1) | exact hn165_1) (.int .i64 ((rd_T23 l1 x20_1).f1))).trans hx165_0; replace hx165_1 := (cell_far (p := ⟨gb164, 1, none⟩) (by first | (rw [add_block]; exact hn165_1) | (show (Addr.add _ _).block ≠ _; rw [add_block]; exact hn165_1) | exact hn165_1) (.int .i64 ((rd_T23 l1 x20_1).f1))).trans hx165_1; (try have hy165_0 := fun (n_ : Nat) => (show ((((w26.drewN n_).setCell ⟨gb164, 0, none⟩ (.int .i64 ((rd_T23 l1 x20_1).f0))).setCell ⟨gb164, 1, none⟩ (.int .i64 ((rd_T23 l1 x20_1).f1)))).cell? _ = some _ from hx165_0)); (try have hy165_1 := fun (n_ : Nat) => (show ((((w26.drewN n_).setCell ⟨gb164, 0, none⟩ (.int .i64 ((rd_T23 l1 x20_1).f0))).setCell ⟨gb164, 1, none⟩ (.int .i64 ((rd_T23 l1 x20_1).f1)))).cell? _ = some _ from hx165_1)); clear hn165_0; clear hn165_1; replace p165 := eq_true p165; replace q165 := eq_true q165; have p166 : 0 ≤ (((rd_T23 l1 x20_1).f0) : Int) := odx; have q166 : ((rd_T23 l1 x20_1).f0) < (gtab0.length : Int) := odx; have ql166 : ((((rd_T23 l1 x20_1).f0) : Int) < (7 : Int)) = True := eq_true (odx); obtain ⟨ad166, e166, hx166_0, hx166_1, hx166_2⟩ := at_T87 HG0.out ((rd_T23 l1 x20_1).f0) p166 q166; obtain rfl : (⟨0, 0, none⟩ : Addr) = ad166 := (by injection e166); (first | simp only [add_plain] at hx166_0 | simp only [add_at] at hx166_0 | simp only [Addr.add, Nat.zero_add] at hx166_0 | skip); (first | simp only [add_plain] at hx166_1 | simp only [add_at] at hx166_1 | simp only [Addr.add, Nat.zero_add] at hx166_1 | skip); (first | simp only [add_plain] at hx166_2 | simp only [add_at] at hx166_2 | simp only [Addr.add, Nat.zero_add] at hx166_2 | skip); have hn166_0 : (⟨0, 0, none⟩ : Addr).block ≠ gb164 := Nat.ne_of_lt (Nat.lt_of_lt_of_le (by have := World.block_lt_of_cell? _ _ hx166_0; first | rwa [add_block] at this | exact this) GW164.out); have hn166_1 : (⟨0, 0, none⟩ : Addr).block ≠ gb164 := Nat.ne_of_lt (Nat.lt_of_lt_of_le (by have := World.block_lt_of_cell? _ _ hx166_0; first | rwa [add_block] at this | exact this) GW164.out); replace hx166_0 := (HB.out.cell (World.block_lt_of_cell? w _ hx166_0)).trans hx166_0; replace hx166_1 := (HB.out.cell (World.block_lt_of_cell? w _ hx166_1)).trans hx166_1; replace hx166_2 := (HB.out.cell (World.block_lt_of_cell? w _ hx166_2)).trans hx166_2; replace hx166_0 := (cell_far (p := ⟨gb164, 0, none⟩) (by first | (rw [add_block]; exact hn166_0) | (show (Addr.add _ _).block ≠ _; rw [add_block]; exact hn166_0) | exact hn166_0) (.int .i64 ((rd_T23 l1 x20_1).f0))).trans hx166_0; replace hx166_1 := (cell_far (p := ⟨gb164, 0, none⟩) (by first | (rw [add_block]; exact hn166_0) | (show (Addr.add _ _).block ≠ _; rw [add_block]; exact hn166_0) | exact hn166_0) (.int .i64 ((rd_T23 l1 x20_1).f0))).trans hx166_1; replace hx166_2 := (cell_far (p := ⟨gb164, 0, none⟩) (by first | (rw [add_block]; exact hn166_0) | (show (Addr.add _ _).block ≠ _; rw [add_block]; exact hn166_0) | exact hn166_0) (.int .i64 ((rd_T23 l1 x20_1).f0))).trans hx166_2; replace hx166_0 := (cell_far (p := ⟨gb164, 1, none⟩) (by first | (rw [add_block]; exact hn166_1) | (show (Addr.add _ _).block ≠ _; rw [add_block]; exact hn166_1) | exact hn166_1) (.int .i64 ((rd_T23 l1 x20_1).f1))).trans hx166_0; replace hx166_1 := (cell_far (p := ⟨gb164, 1, none⟩) (by first | (rw [add_block]; exact hn166_1) | (show (Addr.add _ _).block ≠ _; rw [add_block]; exact hn166_1) | exact hn166_1) (.int .i64 ((rd_T23 l1 x20_1).f1))).trans hx166_1; replace hx166_2 := (cell_far (p := ⟨gb164, 1, none⟩) (by first | (rw [add_block]; exact hn166_1) | (show (Addr.add _ _).block ≠ _; rw [add_block]; exact hn166_1) | exact hn166_1) (.int .i64 ((rd_T23 l1 x20_1).f1))).trans hx166_2; (try have hy166_0 := fun (n_ : Nat) => (show ((((w26.drewN n_).setCell ⟨gb164, 0, none⟩ (.int .i64 ((rd_T23 l1 x20_1).f0))).setCell ⟨gb164, 1, none⟩ (.int .i64 ((rd_T23 l1 x20_1).f1)))).cell? _ = some _ from hx166_0)); (try have hy166_1 := fun (n_ : Nat) => (show ((((w26.drewN n_).setCell ⟨gb164, 0, none⟩ (.int .i64 ((rd_T23 l1 x20_1).f0))).setCell ⟨gb164, 1, none⟩ (.int .i64 ((rd_T23 l1 x20_1).f1)))).cell? _ = some _ from hx166_1)); (try have hy166_2 := fun (n_ : Nat) => (show ((((w26.drewN n_).setCell ⟨gb164, 0, none⟩ (.int .i64 ((rd_T23 l1 x20_1).f0))).setCell ⟨gb164, 1, none⟩ (.int .i64 ((rd_T23 l1 x20_1).f1)))).cell? _ = some _ from hx166_2)); clear hn166_0; clear hn166_1; replace p166 := eq_true p166; replace q166 := eq_true q166)))
            go_roundg k1
            case measure => have := HK1.out; omega
            case rel => exact ⟨(wrap64 (x20_1 + 1)), (x159000_1), (x159001_1), (by first | rfl | (simp; done) | (simp [*]; done)), H', ⟨by have := HK1.out; omega⟩, ⟨bkx⟩, ⟨bkx⟩, ⟨blx⟩⟩
          ·rw [if_neg c16] at H
           exact absurd H (by simp)
         ·rw [if_neg c15] at H
          exact absurd H (by simp)
        ·rw [if_neg c14] at H
         have c14b0 : (((rd_T23 l1 x20_1).f0) == ((rd_T23 l1 0).f0)) = false := beq_eq_false_iff_ne.mpr c14
         have c14b1 : (((rd_T23 l1 x20_1).f0) != ((rd_T23 l1 0).f0)) = true := bne_iff_ne.mpr c14
         replace H := Option.bind_eq_some_iff.mp H
         obtain ⟨⟨t169, t170⟩, A300, H⟩ := H
         replace H : (some (t169, t170, false)) = some (r1, r2, r3) := H
         have A30 := Aside0.mk A300
         clear A300
         simp only [Option.some.injEq, Prod.mk.injEq] at H
         obtain ⟨rfl, rfl, rfl⟩ := H
         have p163 : 0 ≤ (x20_1 : Int) := odx
         have q163 : x20_1 < (l1.length : Int) := odx
         obtain ⟨ad163, e163, hx163_0, hx163_1⟩ := at_T23 HR1.out x20_1 p163 q163
         cases e163
         replace hx163_0 := (HB.out.cell (World.block_lt_of_cell? w _ hx163_0)).trans hx163_0
         replace hx163_1 := (HB.out.cell (World.block_lt_of_cell? w _ hx163_1)).trans hx163_1
         replace p163 := eq_true p163
         replace q163 := eq_true q163
         go_wp2_with (first | ((with_reducible refine gate_dst (N := 9) rfl ?_); refine bxe (N := 9) (cs := #[.int .i64 0, .int .i64 0]) (t := 23) ?_; intro gb164 hg w31 hbox hb; have BK164 := Aside0.mk (hbox); have GW164 : Aside0 (w.heap.size ≤ gb164) := gwx hg; have GE164 : Aside0 (w.heap.size ≤ gb164) := gwx hg; replace HB := Aside0.mk (below_step blx hb); have NB158_164 := nbl BK158 hg; have NB164_158 := nbg BK158 hg; replace BK158 := bkq BK158 hb; have NB162_164 := nbl BK162 hg; have NB164_162 := nbg BK162 hg; replace BK162 := bkq BK162 hb; clear hb hbox hg; have hnb32 := NB164_158.out; have hnc32 := NB158_164.out; have hnb33 := NB164_162.out; have hnc33 := NB162_164.out; obtain ⟨hcz34_0, hcz34_1, hfz34_0, hfz34_1⟩ := c2_ BK164; have p165 : 0 ≤ (0 : Int) := (by omega); have q165 : 0 < (l1.length : Int) := odx; obtain ⟨ad165, e165, hx165_0, hx165_1⟩ := at_T23 HR1.out 0 p165 q165; obtain rfl : ad163 = ad165 := (by injection e165); have qi165 : (0 < l1.length) = True := eq_true (by omega); (try rw [show ((0 : Int)).toNat = 0 from rfl] at hx165_0); (try rw [show 0 * 2 = 0 from rfl] at hx165_0); (try rw [Addr.add_zero'] at hx165_0); (try rw [show ((0 : Int)).toNat = 0 from rfl] at hx165_1); (try rw [show 0 * 2 = 0 from rfl] at hx165_1); (try rw [Addr.add_zero'] at hx165_1); have hn165_0 : ad163.block ≠ gb164 := Nat.ne_of_lt (Nat.lt_of_lt_of_le (by have := World.block_lt_of_cell? _ _ hx165_0; first | rwa [add_block] at this | exact this) GW164.out); have hn165_1 : ad163.block ≠ gb164 := Nat.ne_of_lt (Nat.lt_of_lt_of_le (by have := World.block_lt_of_cell? _ _ hx165_0; first | rwa [add_block] at this | exact this) GW164.out); replace hx165_0 := (HB.out.cell (World.block_lt_of_cell? w _ hx165_0)).trans hx165_0; replace hx165_1 := (HB.out.cell (World.block_lt_of_cell? w _ hx165_1)).trans hx165_1; replace hx165_0 := (cell_far (p := ⟨gb164, 0, none⟩) (by first | (rw [add_block]; exact hn165_0) | (show (Addr.add _ _).block ≠ _; rw [add_block]; exact hn165_0) | exact hn165_0) (.int .i64 ((rd_T23 l1 x20_1).f0))).trans hx165_0; replace hx165_1 := (cell_far (p := ⟨gb164, 0, none⟩) (by first | (rw [add_block]; exact hn165_0) | (show (Addr.add _ _).block ≠ _; rw [add_block]; exact hn165_0) | exact hn165_0) (.int .i64 ((rd_T23 l1 x20_1).f0))).trans hx165_1; replace hx165_0 := (cell_far (p := ⟨gb164, 1, none⟩) (by first | (rw [add_block]; exact hn165_1) | (show (Addr.add _ _).block ≠ _; rw [add_block]; exact hn165_1) | exact hn165_1) (.int .i64 ((rd_T23 l1 x20_1).f1))).trans hx165_0; replace hx165_1 := (cell_far (p := ⟨gb164, 1, none⟩) (by first | (rw [add_block]; exact hn165_1) | (show (Addr.add _ _).block ≠ _; rw [add_block]; exact hn165_1) | exact hn165_1) (.int .i64 ((rd_T23 l1 x20_1).f1))).trans hx165_1; (try have hy165_0 := fun (n_ : Nat) => (show ((((w31.drewN n_).setCell ⟨gb164, 0, none⟩ (.int .i64 ((rd_T23 l1 x20_1).f0))).setCell ⟨gb164, 1, none⟩ (.int .i64 ((rd_T23 l1 x20_1).f1)))).cell? _ = some _ from hx165_0)); (try have hy165_1 := fun (n_ : Nat) => (show ((((w31.drewN n_).setCell ⟨gb164, 0, none⟩ (.int .i64 ((rd_T23 l1 x20_1).f0))).setCell ⟨gb164, 1, none⟩ (.int .i64 ((rd_T23 l1 x20_1).f1)))).cell? _ = some _ from hx165_1)); clear hn165_0; clear hn165_1; replace p165 := eq_true p165; replace q165 := eq_true q165) | (go_at_call 59; (with_reducible refine (money_fault.calls 5 t169 t170 _ A30.out).mono ?_); rintro e w35 ⟨rfl, hb⟩; replace BK158 := bkq BK158 hb; replace BK162 := bkq BK162 hb; replace BK164 := Aside0.mk (blk_below (g := gb164) (o := .cells #[.int .i64 ((rd_T23 l1 x20_1).f0), .int .i64 ((rd_T23 l1 x20_1).f1)] 23 (0, 0)) (by (with_reducible repeat (first | refine blk_drewN ?_ _ | refine blk_drew ?_ | refine blk_alloc ?_ _)); refine blk_put (cs := #[.int .i64 ((rd_T23 l1 x20_1).f0), .int .i64 0]) ?_ 1 _ rfl; (with_reducible repeat (first | refine blk_drewN ?_ _ | refine blk_drew ?_ | refine blk_alloc ?_ _)); refine blk_put (cs := #[.int .i64 0, .int .i64 0]) ?_ 0 _ rfl; (with_reducible repeat (first | refine blk_drewN ?_ _ | refine blk_drew ?_ | refine blk_alloc ?_ _)); exact BK164.out) hb); replace HB := Aside0.mk (below_step blx hb); (try clear hb); (try clear hb2); (try clear hk); (try clear hi); have hnb36 := NB158_162.out; have hnc36 := NB162_158.out; obtain ⟨hcz37_0, hcz37_1, hfz37_0, hfz37_1⟩ := c2_ BK158))
         repeat (go_quiet (first | ((with_reducible refine gate_dst (N := 9) rfl ?_); refine bxe (N := 9) (cs := #[.int .i64 0, .int .i64 0]) (t := 23) ?_; intro gb164 hg w31 hbox hb; have BK164 := Aside0.mk (hbox); have GW164 : Aside0 (w.heap.size ≤ gb164) := gwx hg; have GE164 : Aside0 (w.heap.size ≤ gb164) := gwx hg; replace HB := Aside0.mk (below_step blx hb); have NB158_164 := nbl BK158 hg; have NB164_158 := nbg BK158 hg; replace BK158 := bkq BK158 hb; have NB162_164 := nbl BK162 hg; have NB164_162 := nbg BK162 hg; replace BK162 := bkq BK162 hb; clear hb hbox hg; have hnb32 := NB164_158.out; have hnc32 := NB158_164.out; have hnb33 := NB164_162.out; have hnc33 := NB162_164.out; obtain ⟨hcz34_0, hcz34_1, hfz34_0, hfz34_1⟩ := c2_ BK164; have p165 : 0 ≤ (0 : Int) := (by omega); have q165 : 0 < (l1.length : Int) := odx; obtain ⟨ad165, e165, hx165_0, hx165_1⟩ := at_T23 HR1.out 0 p165 q165; obtain rfl : ad163 = ad165 := (by injection e165); have qi165 : (0 < l1.length) = True := eq_true (by omega); (try rw [show ((0 : Int)).toNat = 0 from rfl] at hx165_0); (try rw [show 0 * 2 = 0 from rfl] at hx165_0); (try rw [Addr.add_zero'] at hx165_0); (try rw [show ((0 : Int)).toNat = 0 from rfl] at hx165_1); (try rw [show 0 * 2 = 0 from rfl] at hx165_1); (try rw [Addr.add_zero'] at hx165_1); have hn165_0 : ad163.block ≠ gb164 := Nat.ne_of_lt (Nat.lt_of_lt_of_le (by have := World.block_lt_of_cell? _ _ hx165_0; first | rwa [add_block] at this | exact this) GW164.out); have hn165_1 : ad163.block ≠ gb164 := Nat.ne_of_lt (Nat.lt_of_lt_of_le (by have := World.block_lt_of_cell? _ _ hx165_0; first | rwa [add_block] at this | exact this) GW164.out); replace hx165_0 := (HB.out.cell (World.block_lt_of_cell? w _ hx165_0)).trans hx165_0; replace hx165_1 := (HB.out.cell (World.block_lt_of_cell? w _ hx165_1)).trans hx165_1; replace hx165_0 := (cell_far (p := ⟨gb164, 0, none⟩) (by first | (rw [add_block]; exact hn165_0) | (show (Addr.add _ _).block ≠ _; rw [add_block]; exact hn165_0) | exact hn165_0) (.int .i64 ((rd_T23 l1 x20_1).f0))).trans hx165_0; replace hx165_1 := (cell_far (p := ⟨gb164, 0, none⟩) (by first | (rw [add_block]; exact hn165_0) | (show (Addr.add _ _).block ≠ _; rw [add_block]; exact hn165_0) | exact hn165_0) (.int .i64 ((rd_T23 l1 x20_1).f0))).trans hx165_1; replace hx165_0 := (cell_far (p := ⟨gb164, 1, none⟩) (by first | (rw [add_block]; exact hn165_1) | (show (Addr.add _ _).block ≠ _; rw [add_block]; exact hn165_1) | exact hn165_1) (.int .i64 ((rd_T23 l1 x20_1).f1))).trans hx165_0; replace hx165_1 := (cell_far (p := ⟨gb164, 1, none⟩) (by first | (rw [add_block]; exact hn165_1) | (show (Addr.add _ _).block ≠ _; rw [add_block]; exact hn165_1) | exact hn165_1) (.int .i64 ((rd_T23 l1 x20_1).f1))).trans hx165_1; (try have hy165_0 := fun (n_ : Nat) => (show ((((w31.drewN n_).setCell ⟨gb164, 0, none⟩ (.int .i64 ((rd_T23 l1 x20_1).f0))).setCell ⟨gb164, 1, none⟩ (.int .i64 ((rd_T23 l1 x20_1).f1)))).cell? _ = some _ from hx165_0)); (try have hy165_1 := fun (n_ : Nat) => (show ((((w31.drewN n_).setCell ⟨gb164, 0, none⟩ (.int .i64 ((rd_T23 l1 x20_1).f0))).setCell ⟨gb164, 1, none⟩ (.int .i64 ((rd_T23 l1 x20_1).f1)))).cell? _ = some _ from hx165_1)); clear hn165_0; clear hn165_1; replace p165 := eq_true p165; replace q165 := eq_true q165) | (go_at_call 59; (with_reducible refine (money_fault.calls 5 t169 t170 _ A30.out).mono ?_); rintro e w35 ⟨rfl, hb⟩; replace BK158 := bkq BK158 hb; replace BK162 := bkq BK162 hb; replace BK164 := Aside0.mk (blk_below (g := gb164) (o := .cells #[.int .i64 ((rd_T23 l1 x20_1).f0), .int .i64 ((rd_T23 l1 x20_1).f1)] 23 (0, 0)) (by (with_reducible repeat (first | refine blk_drewN ?_ _ | refine blk_drew ?_ | refine blk_alloc ?_ _)); refine blk_put (cs := #[.int .i64 ((rd_T23 l1 x20_1).f0), .int .i64 0]) ?_ 1 _ rfl; (with_reducible repeat (first | refine blk_drewN ?_ _ | refine blk_drew ?_ | refine blk_alloc ?_ _)); refine blk_put (cs := #[.int .i64 0, .int .i64 0]) ?_ 0 _ rfl; (with_reducible repeat (first | refine blk_drewN ?_ _ | refine blk_drew ?_ | refine blk_alloc ?_ _)); exact BK164.out) hb); replace HB := Aside0.mk (below_step blx hb); (try clear hb); (try clear hb2); (try clear hk); (try clear hi); have hnb36 := NB158_162.out; have hnc36 := NB162_158.out; obtain ⟨hcz37_0, hcz37_1, hfz37_0, hfz37_1⟩ := c2_ BK158)); try go_wp2_with (first | ((with_reducible refine gate_dst (N := 9) rfl ?_); refine bxe (N := 9) (cs := #[.int .i64 0, .int .i64 0]) (t := 23) ?_; intro gb164 hg w31 hbox hb; have BK164 := Aside0.mk (hbox); have GW164 : Aside0 (w.heap.size ≤ gb164) := gwx hg; have GE164 : Aside0 (w.heap.size ≤ gb164) := gwx hg; replace HB := Aside0.mk (below_step blx hb); have NB158_164 := nbl BK158 hg; have NB164_158 := nbg BK158 hg; replace BK158 := bkq BK158 hb; have NB162_164 := nbl BK162 hg; have NB164_162 := nbg BK162 hg; replace BK162 := bkq BK162 hb; clear hb hbox hg; have hnb32 := NB164_158.out; have hnc32 := NB158_164.out; have hnb33 := NB164_162.out; have hnc33 := NB162_164.out; obtain ⟨hcz34_0, hcz34_1, hfz34_0, hfz34_1⟩ := c2_ BK164; have p165 : 0 ≤ (0 : Int) := (by omega); have q165 : 0 < (l1.length : Int) := odx; obtain ⟨ad165, e165, hx165_0, hx165_1⟩ := at_T23 HR1.out 0 p165 q165; obtain rfl : ad163 = ad165 := (by injection e165); have qi165 : (0 < l1.length) = True := eq_true (by omega); (try rw [show ((0 : Int)).toNat = 0 from rfl] at hx165_0); (try rw [show 0 * 2 = 0 from rfl] at hx165_0); (try rw [Addr.add_zero'] at hx165_0); (try rw [show ((0 : Int)).toNat = 0 from rfl] at hx165_1); (try rw [show 0 * 2 = 0 from rfl] at hx165_1); (try rw [Addr.add_zero'] at hx165_1); have hn165_0 : ad163.block ≠ gb164 := Nat.ne_of_lt (Nat.lt_of_lt_of_le (by have := World.block_lt_of_cell? _ _ hx165_0; first | rwa [add_block] at this | exact this) GW164.out); have hn165_1 : ad163.block ≠ gb164 := Nat.ne_of_lt (Nat.lt_of_lt_of_le (by have := World.block_lt_of_cell? _ _ hx165_0; first | rwa [add_block] at this | exact this) GW164.out); replace hx165_0 := (HB.out.cell (World.block_lt_of_cell? w _ hx165_0)).trans hx165_0; replace hx165_1 := (HB.out.cell (World.block_lt_of_cell? w _ hx165_1)).trans hx165_1; replace hx165_0 := (cell_far (p := ⟨gb164, 0, none⟩) (by first | (rw [add_block]; exact hn165_0) | (show (Addr.add _ _).block ≠ _; rw [add_block]; exact hn165_0) | exact hn165_0) (.int .i64 ((rd_T23 l1 x20_1).f0))).trans hx165_0; replace hx165_1 := (cell_far (p := ⟨gb164, 0, none⟩) (by first | (rw [add_block]; exact hn165_0) | (show (Addr.add _ _).block ≠ _; rw [add_block]; exact hn165_0) | exact hn165_0) (.int .i64 ((rd_T23 l1 x20_1).f0))).trans hx165_1; replace hx165_0 := (cell_far (p := ⟨gb164, 1, none⟩) (by first | (rw [add_block]; exact hn165_1) | (show (Addr.add _ _).block ≠ _; rw [add_block]; exact hn165_1) | exact hn165_1) (.int .i64 ((rd_T23 l1 x20_1).f1))).trans hx165_0; replace hx165_1 := (cell_far (p := ⟨gb164, 1, none⟩) (by first | (rw [add_block]; exact hn165_1) | (show (Addr.add _ _).block ≠ _; rw [add_block]; exact hn165_1) | exact hn165_1) (.int .i64 ((rd_T23 l1 x20_1).f1))).trans hx165_1; (try have hy165_0 := fun (n_ : Nat) => (show ((((w31.drewN n_).setCell ⟨gb164, 0, none⟩ (.int .i64 ((rd_T23 l1 x20_1).f0))).setCell ⟨gb164, 1, none⟩ (.int .i64 ((rd_T23 l1 x20_1).f1)))).cell? _ = some _ from hx165_0)); (try have hy165_1 := fun (n_ : Nat) => (show ((((w31.drewN n_).setCell ⟨gb164, 0, none⟩ (.int .i64 ((rd_T23 l1 x20_1).f0))).setCell ⟨gb164, 1, none⟩ (.int .i64 ((rd_T23 l1 x20_1).f1)))).cell? _ = some _ from hx165_1)); clear hn165_0; clear hn165_1; replace p165 := eq_true p165; replace q165 := eq_true q165) | (go_at_call 59; (with_reducible refine (money_fault.calls 5 t169 t170 _ A30.out).mono ?_); rintro e w35 ⟨rfl, hb⟩; replace BK158 := bkq BK158 hb; replace BK162 := bkq BK162 hb; replace BK164 := Aside0.mk (blk_below (g := gb164) (o := .cells #[.int .i64 ((rd_T23 l1 x20_1).f0), .int .i64 ((rd_T23 l1 x20_1).f1)] 23 (0, 0)) (by (with_reducible repeat (first | refine blk_drewN ?_ _ | refine blk_drew ?_ | refine blk_alloc ?_ _)); refine blk_put (cs := #[.int .i64 ((rd_T23 l1 x20_1).f0), .int .i64 0]) ?_ 1 _ rfl; (with_reducible repeat (first | refine blk_drewN ?_ _ | refine blk_drew ?_ | refine blk_alloc ?_ _)); refine blk_put (cs := #[.int .i64 0, .int .i64 0]) ?_ 0 _ rfl; (with_reducible repeat (first | refine blk_drewN ?_ _ | refine blk_drew ?_ | refine blk_alloc ?_ _)); exact BK164.out) hb); replace HB := Aside0.mk (below_step blx hb); (try clear hb); (try clear hb2); (try clear hk); (try clear hi); have hnb36 := NB158_162.out; have hnc36 := NB162_158.out; obtain ⟨hcz37_0, hcz37_1, hfz37_0, hfz37_1⟩ := c2_ BK158)))
         refine bodyPost_ret (results_ct rfl _ _ gb158 23 #[.int .i64 t169, .int .i64 t170] (0, 0) _ rfl (by (with_reducible repeat (first | refine blk_drewN ?_ _ | refine blk_drew ?_ | refine blk_alloc ?_ _)); refine blk_put (cs := #[.int .i64 t169, .int .i64 x159001_1]) ?_ 1 _ rfl; (with_reducible repeat (first | refine blk_drewN ?_ _ | refine blk_drew ?_ | refine blk_alloc ?_ _)); refine blk_put (cs := #[.int .i64 x159000_1, .int .i64 x159001_1]) ?_ 0 _ rfl; (with_reducible repeat (first | refine blk_drewN ?_ _ | refine blk_drew ?_ | refine blk_alloc ?_ _)); exact BK158.out) Tryd.underlying23 rfl (by kernel_rfl)) rfl ?_
         exact ⟨by first | rfl | (simp [errW_none, errW_some] <;> rfl) | (simp [*, errW_none, errW_some] <;> rfl), blx⟩
       ·rw [if_neg c13] at H
        exact absurd H (by simp)
      ·rw [if_neg c12] at H
       exact absurd H (by simp)
     ·rw [if_neg c11] at H
      exact absurd H (by simp)
    ·rw [if_neg c10] at H
     have c10b0 : decide (x20_1 < (l1.length : Int)) = false := decide_eq_false c10
     clear c10
     simp only [Option.some.injEq, Prod.mk.injEq] at H
     obtain ⟨rfl, rfl, rfl⟩ := H
     have hnb38 := NB158_162.out
     have hnc38 := NB162_158.out
     obtain ⟨hcz39_0, hcz39_1, hfz39_0, hfz39_1⟩ := c2_ BK158
     go_wp2
     repeat (go_quiet (fail); try go_wp2)
     refine bodyPost_ret (results_ct rfl _ _ gb158 23 #[.int .i64 0, .int .i64 0] (0, 0) _ rfl (by (with_reducible repeat (first | refine blk_drewN ?_ _ | refine blk_drew ?_ | refine blk_alloc ?_ _)); refine blk_put (cs := #[.int .i64 0, .int .i64 x159001_1]) ?_ 1 _ rfl; (with_reducible repeat (first | refine blk_drewN ?_ _ | refine blk_drew ?_ | refine blk_alloc ?_ _)); refine blk_put (cs := #[.int .i64 x159000_1, .int .i64 x159001_1]) ?_ 0 _ rfl; (with_reducible repeat (first | refine blk_drewN ?_ _ | refine blk_drew ?_ | refine blk_alloc ?_ _)); exact BK158.out) Tryd.underlying23 rfl (by kernel_rfl)) rfl ?_
     exact ⟨by first | rfl | (simp [errW_none, errW_some] <;> rfl) | (simp [*, errW_none, errW_some] <;> rfl), blx⟩
 ·replace c4 := Bool.eq_false_iff.mpr c4
  subst c4
  have H1 : (some (t159, t160, false)) = some (r1, r2, r3) := by rw [if_neg (show ¬ (false = true) by decide)] at H; exact H
  clear H
  have H := H1
  clear H1
  simp only [Option.some.injEq, Prod.mk.injEq] at H
  obtain ⟨rfl, rfl, rfl⟩ := H
  go_enter Tryd.func61, Tryd.ntmps61
  go_wp2_with (first | ((with_reducible refine gate_dst (N := 4) rfl ?_); refine bxe (N := 4) (cs := #[.int .i64 0, .int .i64 0]) (t := 23) ?_; intro gb158 hg w40 hbox hb; have BK158 := Aside0.mk (hbox); have GW158 : Aside0 (w.heap.size ≤ gb158) := gwx hg; have GE158 : Aside0 (w.heap.size ≤ gb158) := gwx hg; replace HB := Aside0.mk (below_step blx hb); clear hb hbox hg) | (go_at_call 65; (with_reducible refine (money_seen.calls k _ _ l1 t159 t160 false _ ?side1 ?side2 A3.out (by first | exact HG0.out | exact Kd.C_below HG0.out blx)).mono ?_); (case side1 => repeat (first | exact (Kd.C_below HR1.out HB.out) | (with_reducible refine Kd.C_alloc ?_ _) | (with_reducible refine Kd.C_drewN ?_ _) | (with_reducible refine Kd.C_drew ?_))); (case side2 => exact HC1.out); rintro e w41 ⟨rfl, hb⟩; replace BK158 := bkq BK158 hb; replace HB := Aside0.mk (below_step blx hb); (try clear hb); (try clear hb2); (try clear hk); (try clear hi)) | ((with_reducible refine gate_dst (N := 6) rfl ?_); refine bxe (N := 6) (cs := #[.int .i64 0, .int .i64 0]) (t := 23) ?_; intro gb162 hg w42 hbox hb; have BK162 := Aside0.mk (hbox); have GW162 : Aside0 (w.heap.size ≤ gb162) := gwx hg; have GE162 : Aside0 (w.heap.size ≤ gb162) := gwx hg; replace HB := Aside0.mk (below_step blx hb); have NB158_162 := nbl BK158 hg; have NB162_158 := nbg BK158 hg; replace BK158 := bkq BK158 hb; clear hb hbox hg; have hnb43 := NB162_158.out; have hnc43 := NB158_162.out; obtain ⟨hcz44_0, hcz44_1, hfz44_0, hfz44_1⟩ := c2_ BK162; obtain ⟨hcz45_0, hcz45_1, hfz45_0, hfz45_1⟩ := c2_ BK158))
  repeat (go_quiet (first | ((with_reducible refine gate_dst (N := 4) rfl ?_); refine bxe (N := 4) (cs := #[.int .i64 0, .int .i64 0]) (t := 23) ?_; intro gb158 hg w40 hbox hb; have BK158 := Aside0.mk (hbox); have GW158 : Aside0 (w.heap.size ≤ gb158) := gwx hg; have GE158 : Aside0 (w.heap.size ≤ gb158) := gwx hg; replace HB := Aside0.mk (below_step blx hb); clear hb hbox hg) | (go_at_call 65; (with_reducible refine (money_seen.calls k _ _ l1 t159 t160 false _ ?side1 ?side2 A3.out (by first | exact HG0.out | exact Kd.C_below HG0.out blx)).mono ?_); (case side1 => repeat (first | exact (Kd.C_below HR1.out HB.out) | (with_reducible refine Kd.C_alloc ?_ _) | (with_reducible refine Kd.C_drewN ?_ _) | (with_reducible refine Kd.C_drew ?_))); (case side2 => exact HC1.out); rintro e w41 ⟨rfl, hb⟩; replace BK158 := bkq BK158 hb; replace HB := Aside0.mk (below_step blx hb); (try clear hb); (try clear hb2); (try clear hk); (try clear hi)) | ((with_reducible refine gate_dst (N := 6) rfl ?_); refine bxe (N := 6) (cs := #[.int .i64 0, .int .i64 0]) (t := 23) ?_; intro gb162 hg w42 hbox hb; have BK162 := Aside0.mk (hbox); have GW162 : Aside0 (w.heap.size ≤ gb162) := gwx hg; have GE162 : Aside0 (w.heap.size ≤ gb162) := gwx hg; replace HB := Aside0.mk (below_step blx hb); have NB158_162 := nbl BK158 hg; have NB162_158 := nbg BK158 hg; replace BK158 := bkq BK158 hb; clear hb hbox hg; have hnb43 := NB162_158.out; have hnc43 := NB158_162.out; obtain ⟨hcz44_0, hcz44_1, hfz44_0, hfz44_1⟩ := c2_ BK162; obtain ⟨hcz45_0, hcz45_1, hfz45_0, hfz45_1⟩ := c2_ BK158)); try go_wp2_with (first | ((with_reducible refine gate_dst (N := 4) rfl ?_); refine bxe (N := 4) (cs := #[.int .i64 0, .int .i64 0]) (t := 23) ?_; intro gb158 hg w40 hbox hb; have BK158 := Aside0.mk (hbox); have GW158 : Aside0 (w.heap.size ≤ gb158) := gwx hg; have GE158 : Aside0 (w.heap.size ≤ gb158) := gwx hg; replace HB := Aside0.mk (below_step blx hb); clear hb hbox hg) | (go_at_call 65; (with_reducible refine (money_seen.calls k _ _ l1 t159 t160 false _ ?side1 ?side2 A3.out (by first | exact HG0.out | exact Kd.C_below HG0.out blx)).mono ?_); (case side1 => repeat (first | exact (Kd.C_below HR1.out HB.out) | (with_reducible refine Kd.C_alloc ?_ _) | (with_reducible refine Kd.C_drewN ?_ _) | (with_reducible refine Kd.C_drew ?_))); (case side2 => exact HC1.out); rintro e w41 ⟨rfl, hb⟩; replace BK158 := bkq BK158 hb; replace HB := Aside0.mk (below_step blx hb); (try clear hb); (try clear hb2); (try clear hk); (try clear hi)) | ((with_reducible refine gate_dst (N := 6) rfl ?_); refine bxe (N := 6) (cs := #[.int .i64 0, .int .i64 0]) (t := 23) ?_; intro gb162 hg w42 hbox hb; have BK162 := Aside0.mk (hbox); have GW162 : Aside0 (w.heap.size ≤ gb162) := gwx hg; have GE162 : Aside0 (w.heap.size ≤ gb162) := gwx hg; replace HB := Aside0.mk (below_step blx hb); have NB158_162 := nbl BK158 hg; have NB162_158 := nbg BK158 hg; replace BK158 := bkq BK158 hb; clear hb hbox hg; have hnb43 := NB162_158.out; have hnc43 := NB158_162.out; obtain ⟨hcz44_0, hcz44_1, hfz44_0, hfz44_1⟩ := c2_ BK162; obtain ⟨hcz45_0, hcz45_1, hfz45_0, hfz45_1⟩ := c2_ BK158)))
  refine bodyPost_ret (results_ct rfl _ _ gb158 23 #[.int .i64 t159, .int .i64 t160] (0, 0) _ rfl (by (with_reducible repeat (first | refine blk_drewN ?_ _ | refine blk_drew ?_ | refine blk_alloc ?_ _)); refine blk_put (cs := #[.int .i64 t159, .int .i64 0]) ?_ 1 _ rfl; (with_reducible repeat (first | refine blk_drewN ?_ _ | refine blk_drew ?_ | refine blk_alloc ?_ _)); refine blk_put (cs := #[.int .i64 0, .int .i64 0]) ?_ 0 _ rfl; (with_reducible repeat (first | refine blk_drewN ?_ _ | refine blk_drew ?_ | refine blk_alloc ?_ _)); refine blk_far ?_ NB158_162.out _; (with_reducible repeat (first | refine blk_drewN ?_ _ | refine blk_drew ?_ | refine blk_alloc ?_ _)); refine blk_far ?_ NB158_162.out _; (with_reducible repeat (first | refine blk_drewN ?_ _ | refine blk_drew ?_ | refine blk_alloc ?_ _)); exact BK158.out) Tryd.underlying23 rfl (by kernel_rfl)) rfl ?_
  exact ⟨by first | rfl | (simp [errW_none, errW_some] <;> rfl) | (simp [*, errW_none, errW_some] <;> rfl), blx⟩
end Go.Proofs.YtnjhjaifmgjljaaDoor.PM
end

section
namespace Go.Proofs.YtnjhjaifmgjljaaDoor.PM
open Go.RowKit Go.Proofs.YtnjhjaifmgjljaaDoorW.PrintWords Go.Proofs.YtnjhjaifmgjljaaDoorW.PrintLast Go.Proofs.YtnjhjaifmgjljaaDoorW.PrintMore
attribute [local go_sem] max2_int min2_int max_two min_two max_three min_three max_four min_four
set_option linter.unusedVariables false
set_option linter.unusedSimpArgs false
def money_Add.f (k : Nat) (a0_0 : Int) (a0_1 : Int) (a1_0 : Int) (a1_1 : Int) : Option (Int × Int) := (money_alike.f k 1 (([(⟨a0_0, a0_1⟩ : S23), (⟨a1_0, a1_1⟩ : S23)] : List (S23)))).bind fun bt177 => (if bt177.2.2 = true then ((money_checked.f a0_0 (wrap64 (a0_1 + a1_1))).bind fun bt181 => (some (bt181.1, bt181.2))) else (some (bt177.1, bt177.2.1)))
theorem money_Add.mono : ∀ a0 a1 a2 a3 k, LeO (money_Add.f k a0 a1 a2 a3) (money_Add.f (k + 1) a0 a1 a2 a3) := by
 intro a0 a1 a2 a3 k
 unfold money_Add.f
 repeat' first
   | (with_reducible exact money_alike.mono _ _ _)
   | (with_reducible exact LeO.refl _)
   | (with_reducible exact LeO.none _)
   | (with_reducible refine LeO.ite ?_ ?_)
   | (with_reducible refine LeO.bind ?_ (fun _ => ?_))
   | exact money_alike.mono _ _ _
   | exact LeO.none _
   | refine LeO.ite ?_ ?_
   | refine LeO.bind ?_ (fun _ => ?_)
set_option maxHeartbeats 8000000 in
set_option maxRecDepth 100000 in
theorem money_Add.calls (k : Nat) (a0_0 : Int) (a0_1 : Int) (a1_0 : Int) (a1_1 : Int) (r1 : Int) (r2 : Int) (w : World) (h : money_Add.f k a0_0 a0_1 a1_0 a1_1 = some (r1, r2)) (hg0 : Kd.C k87 w (some ⟨0, 0, none⟩) gtab0.length gtab0) :
  Calls Tryd.prog 23 #[.agg #[.int .i64 a0_0, .int .i64 a0_1], .agg #[.int .i64 a1_0, .int .i64 a1_1]] w fun e w' => e = .returned (.agg #[.int .i64 r1, .int .i64 r2]) ∧ Below w.heap.size w w' := by
 have HG0 := Aside0.mk hg0
 clear hg0
 have hu23 := Tryd.underlying23
 have HB := Aside0.mk (Below.refl w.heap.size w)
 have H : ((money_alike.f k 1 (([(⟨a0_0, a0_1⟩ : S23), (⟨a1_0, a1_1⟩ : S23)] : List (S23)))).bind fun bt177 => (if bt177.2.2 = true then ((money_checked.f a0_0 (wrap64 (a0_1 + a1_1))).bind fun bt181 => (some (bt181.1, bt181.2))) else (some (bt177.1, bt177.2.1)))) = some (r1, r2) := h
 clear h
 obtain ⟨y174, hy174⟩ : ∃ y_ : List (S23), y_ = (([(⟨a0_0, a0_1⟩ : S23), (⟨a1_0, a1_1⟩ : S23)] : List (S23))) := ⟨_, rfl⟩
 replace H : ((money_alike.f k 1 y174).bind fun bt177 => (if bt177.2.2 = true then ((money_checked.f a0_0 (wrap64 (a0_1 + a1_1))).bind fun bt181 => (some (bt181.1, bt181.2))) else (some (bt177.1, bt177.2.1)))) = some (r1, r2) := by first | (rw [hy174]; with_reducible exact H) | (have H2_ := (Option.bind_some _ _).symm.trans H; rw [hy174]; with_reducible exact H2_) | (have H2_ := (Option.bind_some _ _).symm.trans H; with_reducible exact H2_) | with_reducible exact H | (rw [hy174]; exact H) | exact H
 have Ny174 := Aside0.mk hy174
 clear hy174
 replace H := Option.bind_eq_some_iff.mp H
 obtain ⟨⟨t177, t178, t179⟩, A30, H⟩ := H
 replace H : (if t179 = true then ((money_checked.f a0_0 (wrap64 (a0_1 + a1_1))).bind fun bt181 => (some (bt181.1, bt181.2))) else (some (t177, t178))) = some (r1, r2) := H
 have A3 := Aside0.mk A30
 clear A30
 by_cases c4 : t179 = true
 ·subst c4
  have H1 : ((money_checked.f a0_0 (wrap64 (a0_1 + a1_1))).bind fun bt181 => (some (bt181.1, bt181.2))) = some (r1, r2) := by rw [if_pos rfl] at H; exact H
  clear H
  have H := H1
  clear H1
  replace H := Option.bind_eq_some_iff.mp H
  obtain ⟨⟨t181, t182⟩, A50, H⟩ := H
  replace H : (some (t181, t182)) = some (r1, r2) := H
  have A5 := Aside0.mk A50
  clear A50
  simp only [Option.some.injEq, Prod.mk.injEq] at H
  obtain ⟨rfl, rfl⟩ := H
  go_enter Tryd.func23, Tryd.ntmps23
  go_wp2_with (first | ((with_reducible refine gate_dst (N := 2) rfl ?_); refine bxe (N := 2) (cs := #[.int .i64 a0_0, .int .i64 a0_1]) (t := 23) ?_; intro gb171 hg w6 hbox hb; have BK171 := Aside0.mk (hbox); have GW171 : Aside0 (w.heap.size ≤ gb171) := gwx hg; have GE171 : Aside0 (w.heap.size ≤ gb171) := gwx hg; replace HB := Aside0.mk (below_step blx hb); clear hb hbox hg) | ((with_reducible refine gate_dst (N := 3) rfl ?_); refine bxe (N := 3) (cs := #[.int .i64 a1_0, .int .i64 a1_1]) (t := 23) ?_; intro gb172 hg w7 hbox hb; have BK172 := Aside0.mk (hbox); have GW172 : Aside0 (w.heap.size ≤ gb172) := gwx hg; have GE172 : Aside0 (w.heap.size ≤ gb172) := gwx hg; replace HB := Aside0.mk (below_step blx hb); have NB171_172 := nbl BK171 hg; have NB172_171 := nbg BK171 hg; replace BK171 := bkq BK171 hb; clear hb hbox hg) | ((with_reducible refine gate_dst (N := 4) rfl ?_); refine bxe (N := 4) (cs := #[.int .i64 0, .int .i64 0]) (t := 23) ?_; intro gb173 hg w8 hbox hb; have BK173 := Aside0.mk (hbox); have GW173 : Aside0 (w.heap.size ≤ gb173) := gwx hg; have GE173 : Aside0 (w.heap.size ≤ gb173) := gwx hg; replace HB := Aside0.mk (below_step blx hb); have NB171_173 := nbl BK171 hg; have NB173_171 := nbg BK171 hg; replace BK171 := bkq BK171 hb; have NB172_173 := nbl BK172 hg; have NB173_172 := nbg BK172 hg; replace BK172 := bkq BK172 hb; clear hb hbox hg; have hnb9 := NB171_172.out; have hnc9 := NB172_171.out; have hnb10 := NB171_173.out; have hnc10 := NB173_171.out; obtain ⟨hcz11_0, hcz11_1, hfz11_0, hfz11_1⟩ := c2_ BK171; have hnb12 := NB172_173.out; have hnc12 := NB173_172.out; obtain ⟨hcz13_0, hcz13_1, hfz13_0, hfz13_1⟩ := c2_ BK172) | ((with_reducible refine gate_dst (N := 10) rfl ?_); refine Kd.R_lit k23 _ 23 ?hg (N := 10) ?hd (xs := ([(⟨a0_0, a0_1⟩ : S23), (⟨a1_0, a1_1⟩ : S23)] : List (S23))) (inner := [.int .i64 a0_0, .int .i64 a0_1, .int .i64 a1_0, .int .i64 a1_1]) (ok := fun _ => True) (okp := fun _ => True) ?hr ?hp (fun _ hk => hk) trivial (Below.refl _ _) (Nat.le_refl _) (by simp) ?_; (case hd => rfl); (case hg => rfl); (case hr => first | (go_simp; done) | (go_simp; rfl)); (case hp => exact (Reps.c2 (show Kd.M k23 _ _ _ (⟨a0_0, a0_1⟩ : S23) [.int .i64 a0_0, .int .i64 a0_1] from (k23_mkM _ _ _ (⟨a0_0, a0_1⟩ : S23) )) (Reps.c2 (show Kd.M k23 _ _ _ (⟨a1_0, a1_1⟩ : S23) [.int .i64 a1_0, .int .i64 a1_1] from (k23_mkM _ _ _ (⟨a1_0, a1_1⟩ : S23) )) (Reps.none _ _)))); intro v175 w14 ho15 hb hg_ hnew_; clear hg_ hnew_; (first | rw [← Ny174.out] at ho15 | (simp only [Int.reduceToNat] at ho15; rw [← Ny174.out] at ho15)); have HO176 := Aside0.mk (Kd.R_lower (Kd.R_newB (Kd.R_newB (Kd.R_newB ho15 (g := gb171) (o := .cells #[.int .i64 a0_0, .int .i64 a0_1] 23 (0, 0)) bkx) (g := gb172) (o := .cells #[.int .i64 a1_0, .int .i64 a1_1] 23 (0, 0)) bkx) (g := gb173) (o := .cells #[.int .i64 0, .int .i64 0] 23 (0, 0)) bkx) (below_size blx)); replace BK171 := bkq BK171 hb; replace BK172 := bkq BK172 hb; replace BK173 := bkq BK173 hb; replace HB := Aside0.mk (below_step blx hb); clear hb ho15; obtain ⟨Ao16, co16, eo16⟩ := Kd.R_slice HO176.out; subst eo16) | ((with_reducible refine gate_callee (f := 61) rfl ?_); refine goesL_ (some 11) rfl rfl Tryd.func61 (by kernel_rfl) rfl #[.int .i64 1, .slice Ao16 y174.length co16] rfl agx ?_; (with_reducible refine (money_alike.calls k 1 _ _ y174 t177 t178 true _ ?side1 ?side2 A3.out (by first | exact HG0.out | exact Kd.C_below HG0.out blx)).mono ?_); (case side1 => exact crx HO176); (case side2 => exact (Kd.R_reads' HO176.out).2.1); rintro e w17 ⟨rfl, hb⟩; refine ⟨_, rfl, ?_⟩; replace HO176 := hoq HO176 hb; replace BK171 := bkq BK171 hb; replace BK172 := bkq BK172 hb; replace BK173 := bkq BK173 hb; replace HB := Aside0.mk (below_step blx hb); (try clear hb); (try clear hb2); (try clear hk); (try clear hi)) | ((with_reducible refine gate_dst (N := 5) rfl ?_); refine bxe (N := 5) (cs := #[.int .i64 0, .int .i64 0]) (t := 23) ?_; intro gb180 hg w18 hbox hb; replace HO176 := Aside0.mk (Kd.R_below (Kd.R_elderB (by (with_reducible repeat (first | apply Kd.R_alloc | apply Kd.R_drewN | apply Kd.R_drew)); exact HO176.out) gb180 (Nat.le_of_eq hg.symm)) hb); have BK180 := Aside0.mk (hbox); have GW180 : Aside0 (w.heap.size ≤ gb180) := gwx hg; have GE180 : Aside0 (w.heap.size ≤ gb180) := gwx hg; replace HB := Aside0.mk (below_step blx hb); have NB171_180 := nbl BK171 hg; have NB180_171 := nbg BK171 hg; replace BK171 := bkq BK171 hb; have NB172_180 := nbl BK172 hg; have NB180_172 := nbg BK172 hg; replace BK172 := bkq BK172 hb; have NB173_180 := nbl BK173 hg; have NB180_173 := nbg BK173 hg; replace BK173 := bkq BK173 hb; clear hb hbox hg; have hnb19 := NB180_171.out; have hnc19 := NB171_180.out; have hnb20 := NB180_172.out; have hnc20 := NB172_180.out; have hnb21 := NB180_173.out; have hnc21 := NB173_180.out; obtain ⟨hcz22_0, hcz22_1, hfz22_0, hfz22_1⟩ := c2_ BK180; obtain ⟨hcz23_0, hcz23_1, hfz23_0, hfz23_1⟩ := c2_ BK171; obtain ⟨hcz24_0, hcz24_1, hfz24_0, hfz24_1⟩ := c2_ BK172) | ((with_reducible refine gate_callee (f := 60) rfl ?_); refine goesL_ (some 24) rfl rfl Tryd.func60 (by kernel_rfl) rfl #[.int .i64 a0_0, .int .i64 (wrap64 (a0_1 + a1_1))] rfl agx ?_; (with_reducible refine (money_checked.calls a0_0 (wrap64 (a0_1 + a1_1)) t181 t182 _ A5.out (by first | exact HG0.out | exact Kd.C_below HG0.out blx)).mono ?_); rintro e w25 ⟨rfl, hb⟩; refine ⟨_, rfl, ?_⟩; replace HO176 := Aside0.mk (Kd.R_below (by (with_reducible repeat (first | apply Kd.R_alloc | apply Kd.R_drewN | apply Kd.R_drew)); exact (Kd.R_mono (Kd.R_far (p := ⟨gb180, 1, none⟩) (Kd.R_far (p := ⟨gb180, 0, none⟩) (Kd.R_mono HO176.out (fun k_ hk => (⟨hk, hk.2⟩ : _ ∧ k_ ≠ gb180))) (fun _ hk => hk.2) (.int .i64 t177)) (fun _ hk => hk.2) (.int .i64 t178)) (fun _ h_ => h_.1))) hb); replace BK171 := bkq BK171 hb; replace BK172 := bkq BK172 hb; replace BK173 := bkq BK173 hb; replace BK180 := Aside0.mk (blk_below (g := gb180) (o := .cells #[.int .i64 t177, .int .i64 t178] 23 (0, 0)) (by (with_reducible repeat (first | refine blk_drewN ?_ _ | refine blk_drew ?_ | refine blk_alloc ?_ _)); refine blk_put (cs := #[.int .i64 t177, .int .i64 0]) ?_ 1 _ rfl; (with_reducible repeat (first | refine blk_drewN ?_ _ | refine blk_drew ?_ | refine blk_alloc ?_ _)); refine blk_put (cs := #[.int .i64 0, .int .i64 0]) ?_ 0 _ rfl; (with_reducible repeat (first | refine blk_drewN ?_ _ | refine blk_drew ?_ | refine blk_alloc ?_ _)); exact BK180.out) hb); replace HB := Aside0.mk (below_step blx hb); (try clear hb); (try clear hb2); (try clear hk); (try clear hi); obtain ⟨hcz26_0, hcz26_1, hfz26_0, hfz26_1⟩ := c2_ BK173))
  refine bodyPost_ret (results_cell_row rfl _ _ gb173 23 #[.int .i64 t181, .int .i64 t182] (0, 0) _ rfl (by (with_reducible repeat (first | refine blk_drewN ?_ _ | refine blk_drew ?_ | refine blk_alloc ?_ _)); refine blk_put (cs := #[.int .i64 t181, .int .i64 0]) ?_ 1 _ rfl; (with_reducible repeat (first | refine blk_drewN ?_ _ | refine blk_drew ?_ | refine blk_alloc ?_ _)); refine blk_put (cs := #[.int .i64 0, .int .i64 0]) ?_ 0 _ rfl; (with_reducible repeat (first | refine blk_drewN ?_ _ | refine blk_drew ?_ | refine blk_alloc ?_ _)); exact BK173.out) Tryd.underlying23 rfl (by kernel_rfl)) rfl ?_
  exact ⟨by first | rfl | (simp [errW_none, errW_some] <;> rfl) | (simp [*, errW_none, errW_some] <;> rfl), blx⟩
 ·replace c4 := Bool.eq_false_iff.mpr c4
  subst c4
  have H1 : (some (t177, t178)) = some (r1, r2) := by rw [if_neg (show ¬ (false = true) by decide)] at H; exact H
  clear H
  have H := H1
  clear H1
  simp only [Option.some.injEq, Prod.mk.injEq] at H
  obtain ⟨rfl, rfl⟩ := H
  go_enter Tryd.func23, Tryd.ntmps23
  go_wp2_with (first | ((with_reducible refine gate_dst (N := 2) rfl ?_); refine bxe (N := 2) (cs := #[.int .i64 a0_0, .int .i64 a0_1]) (t := 23) ?_; intro gb171 hg w27 hbox hb; have BK171 := Aside0.mk (hbox); have GW171 : Aside0 (w.heap.size ≤ gb171) := gwx hg; have GE171 : Aside0 (w.heap.size ≤ gb171) := gwx hg; replace HB := Aside0.mk (below_step blx hb); clear hb hbox hg) | ((with_reducible refine gate_dst (N := 3) rfl ?_); refine bxe (N := 3) (cs := #[.int .i64 a1_0, .int .i64 a1_1]) (t := 23) ?_; intro gb172 hg w28 hbox hb; have BK172 := Aside0.mk (hbox); have GW172 : Aside0 (w.heap.size ≤ gb172) := gwx hg; have GE172 : Aside0 (w.heap.size ≤ gb172) := gwx hg; replace HB := Aside0.mk (below_step blx hb); have NB171_172 := nbl BK171 hg; have NB172_171 := nbg BK171 hg; replace BK171 := bkq BK171 hb; clear hb hbox hg) | ((with_reducible refine gate_dst (N := 4) rfl ?_); refine bxe (N := 4) (cs := #[.int .i64 0, .int .i64 0]) (t := 23) ?_; intro gb173 hg w29 hbox hb; have BK173 := Aside0.mk (hbox); have GW173 : Aside0 (w.heap.size ≤ gb173) := gwx hg; have GE173 : Aside0 (w.heap.size ≤ gb173) := gwx hg; replace HB := Aside0.mk (below_step blx hb); have NB171_173 := nbl BK171 hg; have NB173_171 := nbg BK171 hg; replace BK171 := bkq BK171 hb; have NB172_173 := nbl BK172 hg; have NB173_172 := nbg BK172 hg; replace BK172 := bkq BK172 hb; clear hb hbox hg; have hnb30 := NB171_172.out; have hnc30 := NB172_171.out; have hnb31 := NB171_173.out; have hnc31 := NB173_171.out; obtain ⟨hcz32_0, hcz32_1, hfz32_0, hfz32_1⟩ := c2_ BK171; have hnb33 := NB172_173.out; have hnc33 := NB173_172.out; obtain ⟨hcz34_0, hcz34_1, hfz34_0, hfz34_1⟩ := c2_ BK172) | ((with_reducible refine gate_dst (N := 10) rfl ?_); refine Kd.R_lit k23 _ 23 ?hg (N := 10) ?hd (xs := ([(⟨a0_0, a0_1⟩ : S23), (⟨a1_0, a1_1⟩ : S23)] : List (S23))) (inner := [.int .i64 a0_0, .int .i64 a0_1, .int .i64 a1_0, .int .i64 a1_1]) (ok := fun _ => True) (okp := fun _ => True) ?hr ?hp (fun _ hk => hk) trivial (Below.refl _ _) (Nat.le_refl _) (by simp) ?_; (case hd => rfl); (case hg => rfl); (case hr => first | (go_simp; done) | (go_simp; rfl)); (case hp => exact (Reps.c2 (show Kd.M k23 _ _ _ (⟨a0_0, a0_1⟩ : S23) [.int .i64 a0_0, .int .i64 a0_1] from (k23_mkM _ _ _ (⟨a0_0, a0_1⟩ : S23) )) (Reps.c2 (show Kd.M k23 _ _ _ (⟨a1_0, a1_1⟩ : S23) [.int .i64 a1_0, .int .i64 a1_1] from (k23_mkM _ _ _ (⟨a1_0, a1_1⟩ : S23) )) (Reps.none _ _)))); intro v175 w35 ho36 hb hg_ hnew_; clear hg_ hnew_; (first | rw [← Ny174.out] at ho36 | (simp only [Int.reduceToNat] at ho36; rw [← Ny174.out] at ho36)); have HO176 := Aside0.mk (Kd.R_lower (Kd.R_newB (Kd.R_newB (Kd.R_newB ho36 (g := gb171) (o := .cells #[.int .i64 a0_0, .int .i64 a0_1] 23 (0, 0)) bkx) (g := gb172) (o := .cells #[.int .i64 a1_0, .int .i64 a1_1] 23 (0, 0)) bkx) (g := gb173) (o := .cells #[.int .i64 0, .int .i64 0] 23 (0, 0)) bkx) (below_size blx)); replace BK171 := bkq BK171 hb; replace BK172 := bkq BK172 hb; replace BK173 := bkq BK173 hb; replace HB := Aside0.mk (below_step blx hb); clear hb ho36; obtain ⟨Ao37, co37, eo37⟩ := Kd.R_slice HO176.out; subst eo37) | ((with_reducible refine gate_callee (f := 61) rfl ?_); refine goesL_ (some 11) rfl rfl Tryd.func61 (by kernel_rfl) rfl #[.int .i64 1, .slice Ao37 y174.length co37] rfl agx ?_; (with_reducible refine (money_alike.calls k 1 _ _ y174 t177 t178 false _ ?side1 ?side2 A3.out (by first | exact HG0.out | exact Kd.C_below HG0.out blx)).mono ?_); (case side1 => exact crx HO176); (case side2 => exact (Kd.R_reads' HO176.out).2.1); rintro e w38 ⟨rfl, hb⟩; refine ⟨_, rfl, ?_⟩; replace HO176 := hoq HO176 hb; replace BK171 := bkq BK171 hb; replace BK172 := bkq BK172 hb; replace BK173 := bkq BK173 hb; replace HB := Aside0.mk (below_step blx hb); (try clear hb); (try clear hb2); (try clear hk); (try clear hi)) | ((with_reducible refine gate_dst (N := 5) rfl ?_); refine bxe (N := 5) (cs := #[.int .i64 0, .int .i64 0]) (t := 23) ?_; intro gb180 hg w39 hbox hb; replace HO176 := Aside0.mk (Kd.R_below (Kd.R_elderB (by (with_reducible repeat (first | apply Kd.R_alloc | apply Kd.R_drewN | apply Kd.R_drew)); exact HO176.out) gb180 (Nat.le_of_eq hg.symm)) hb); have BK180 := Aside0.mk (hbox); have GW180 : Aside0 (w.heap.size ≤ gb180) := gwx hg; have GE180 : Aside0 (w.heap.size ≤ gb180) := gwx hg; replace HB := Aside0.mk (below_step blx hb); have NB171_180 := nbl BK171 hg; have NB180_171 := nbg BK171 hg; replace BK171 := bkq BK171 hb; have NB172_180 := nbl BK172 hg; have NB180_172 := nbg BK172 hg; replace BK172 := bkq BK172 hb; have NB173_180 := nbl BK173 hg; have NB180_173 := nbg BK173 hg; replace BK173 := bkq BK173 hb; clear hb hbox hg; have hnb40 := NB180_171.out; have hnc40 := NB171_180.out; have hnb41 := NB180_172.out; have hnc41 := NB172_180.out; have hnb42 := NB180_173.out; have hnc42 := NB173_180.out; obtain ⟨hcz43_0, hcz43_1, hfz43_0, hfz43_1⟩ := c2_ BK180; obtain ⟨hcz44_0, hcz44_1, hfz44_0, hfz44_1⟩ := c2_ BK173))
  refine bodyPost_ret (results_cell_row rfl _ _ gb173 23 #[.int .i64 t177, .int .i64 t178] (0, 0) _ rfl (by (with_reducible repeat (first | refine blk_drewN ?_ _ | refine blk_drew ?_ | refine blk_alloc ?_ _)); refine blk_put (cs := #[.int .i64 t177, .int .i64 0]) ?_ 1 _ rfl; (with_reducible repeat (first | refine blk_drewN ?_ _ | refine blk_drew ?_ | refine blk_alloc ?_ _)); refine blk_put (cs := #[.int .i64 0, .int .i64 0]) ?_ 0 _ rfl; (with_reducible repeat (first | refine blk_drewN ?_ _ | refine blk_drew ?_ | refine blk_alloc ?_ _)); refine blk_far ?_ NB173_180.out _; (with_reducible repeat (first | refine blk_drewN ?_ _ | refine blk_drew ?_ | refine blk_alloc ?_ _)); refine blk_far ?_ NB173_180.out _; (with_reducible repeat (first | refine blk_drewN ?_ _ | refine blk_drew ?_ | refine blk_alloc ?_ _)); exact BK173.out) Tryd.underlying23 rfl (by kernel_rfl)) rfl ?_
  exact ⟨by first | rfl | (simp [errW_none, errW_some] <;> rfl) | (simp [*, errW_none, errW_some] <;> rfl), blx⟩
end Go.Proofs.YtnjhjaifmgjljaaDoor.PM
end

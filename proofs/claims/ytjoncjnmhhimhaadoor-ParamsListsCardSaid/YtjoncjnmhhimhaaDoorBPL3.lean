/- Texts of one proof, one behind the other. -/
import Derived.Test.YtjoncjnmhhimhaaDoorBPL0
import Derived.Test.YtjoncjnmhhimhaaDoorBPL1
import Derived.Test.YtjoncjnmhhimhaaDoorProg
import Derived.Below
import Derived.Deep.Draws
import Derived.Deep.AppendLies
import Derived.Maps.AppendAt
import Derived.OwnWalk
import Derived.Laws.BytesArg
import Derived.Laws.MakeOwn
import Derived.Laws.OwnMore
import Derived.Deep.OwnRows
import Derived.Tactics
import Derived.Lib.ConvBytes
import Derived.Laws.Slices
import Derived.WalkKit
import Derived.KernelRfl
import Derived.RowKit3
import Derived.Deep.LoopGhost
import Derived.Deep.QuietTactic
import Derived.BigQuiet
import Derived.WideLaws
import Derived.Deep.DeepCutAuto
import Derived.Deep.CutBlock
import Derived.Deep.RegionHeld3
import Derived.Laws.Rows
import Derived.Lib.AppendStr
import Derived.ArgAppend
import Derived.Laws.IdiomCopy
import Derived.OrdersHeld
import Derived.Laws.BitsLemmas
import Derived.RowKit
import Derived.Test.YtjoncjnmhhimhaaDoorWMore
import Derived.Test.YtjoncjnmhhimhaaDoorWGuard
import Derived.Test.YtjoncjnmhhimhaaDoorWRepsOne
import Derived.Test.YtjoncjnmhhimhaaDoorWTab
import Derived.Test.YtjoncjnmhhimhaaDoorBPL2
section
-- Written by the kit's print.py, driven by this place's wip/tools/myprint.py. Not trusted: Lean checks it.
namespace Go.Proofs.YtjoncjnmhhimhaaDoor.PLL
open Go.RowKit Go.Proofs.YtjoncjnmhhimhaaDoor.Hand Go.Proofs.YtjoncjnmhhimhaaDoor.PT13s Go.Proofs.YtjoncjnmhhimhaaDoorW.PrintWords Go.Proofs.YtjoncjnmhhimhaaDoorW.PrintLast Go.Proofs.YtjoncjnmhhimhaaDoorW.PrintMore
attribute [local go_sem] max2_int min2_int max_two min_two max_three min_three max_four min_four   -- for this text's walks alone
set_option linter.unusedVariables false
set_option linter.unusedSimpArgs false



def errW : Option Int → Value
  | none => .nilIface
  | some c => .iface 0 (.int .i64 c)
theorem errW_none : errW none = .nilIface := rfl
theorem errW_some (c : Int) : errW (some c) = .iface 0 (.int .i64 c) := rfl

theorem info3 : (Tryd.prog.info? 3).map (fun i => (i.zero, i.size, i.bytes)) = some (some (.int .i64 0), 1, 8) := by kernel_rfl
theorem info42 : (Tryd.prog.info? 42).map (fun i => (i.zero, i.size, i.bytes)) = some (some (.agg #[(.int .i64 0), (.int .i64 0), (.string ⟨#[]⟩), (.int .i64 0), (.int .i64 0), (.int .i64 0), (.int .i64 0), (.string ⟨#[]⟩), (.int .i64 0), (.int .u32 0)]), 10, 96) := by kernel_rfl
-- the values' own types
def rd_L1 (xs : List (List Int)) (i : Int) : (List Int) := xs.getD i.toNat ([] : List Int)
theorem at_L1 {w : World} {A : Option Addr} {n : Nat} {xs : List (List Int)} (h : Kd.C (Kd.slice 27 (Kd.int .u32)) w A n xs) (i : Int) (h0 : 0 ≤ i) (h1 : i < n) : ∃ ad A0 c0, A = some ad ∧ w.cell? (ad.add i.toNat) = some (.slice A0 (rd_L1 xs i).length c0) ∧ (rd_L1 xs i).length ≤ c0 ∧ (Kd.int .u32).C w A0 (rd_L1 xs i).length (rd_L1 xs i) := by
  obtain ⟨ad, c, e, _, hK, hc0⟩ := Kd.C_get h ([] : List Int) i h0 h1
  have hc : ∀ j u, c[j]? = some u → w.cell? (ad.add (i.toNat * 1 + j)) = some u := hc0
  obtain ⟨A0, c0, rfl, l0, g0⟩ := hK
  exact ⟨ad, A0, c0, e, by have hq := hc 0 _ rfl; rwa [Nat.mul_one, Nat.add_zero] at hq, l0, g0⟩

/-! #### struct type 42 -/
structure S42 where
  f0 : Int
  f1 : Int
  f2 : ByteArray
  f3 : Int
  f4 : Int
  f5 : Int
  f6 : Int
  f7 : ByteArray
  f8 : Int
  f9 : Int
def z42 : S42 := ⟨(0 : Int), (0 : Int), (⟨#[]⟩ : ByteArray), (0 : Int), (0 : Int), (0 : Int), (0 : Int), (⟨#[]⟩ : ByteArray), (0 : Int), (0 : Int)⟩
def k42 : Kd S42 := Kd.iso (Kd.pair (Kd.int .i64) (Kd.pair (Kd.int .i64) (Kd.pair Kd.string (Kd.pair (Kd.int .i64) (Kd.pair (Kd.int .i64) (Kd.pair (Kd.int .i64) (Kd.pair (Kd.int .i64) (Kd.pair Kd.string (Kd.pair (Kd.int .i64) (Kd.int .u32)))))))))) (fun x : S42 => (x.f0, x.f1, x.f2, x.f3, x.f4, x.f5, x.f6, x.f7, x.f8, x.f9))
theorem k42_open {w : World} {x : S42} {cs : List Value} (h : k42.K w x cs) : cs = [.int .i64 x.f0, .int .i64 x.f1, .string x.f2, .int .i64 x.f3, .int .i64 x.f4, .int .i64 x.f5, .int .i64 x.f6, .string x.f7, .int .i64 x.f8, .int .u32 x.f9] := by
  obtain ⟨_, _, rfl, rfl, ⟨_, _, rfl, rfl, ⟨_, _, rfl, rfl, ⟨_, _, rfl, rfl, ⟨_, _, rfl, rfl, ⟨_, _, rfl, rfl, ⟨_, _, rfl, rfl, ⟨_, _, rfl, rfl, ⟨_, _, rfl, rfl, rfl⟩⟩⟩⟩⟩⟩⟩⟩⟩ := h
  exact rfl
theorem k42_openM {w : World} {base : Nat} {ok : Nat → Prop} {x : S42} {cs : List Value} (h : k42.M w base ok x cs) : cs = [.int .i64 x.f0, .int .i64 x.f1, .string x.f2, .int .i64 x.f3, .int .i64 x.f4, .int .i64 x.f5, .int .i64 x.f6, .string x.f7, .int .i64 x.f8, .int .u32 x.f9] := by
  obtain ⟨_, _, rfl, rfl, ⟨_, _, rfl, rfl, ⟨_, _, rfl, rfl, ⟨_, _, rfl, rfl, ⟨_, _, rfl, rfl, ⟨_, _, rfl, rfl, ⟨_, _, rfl, rfl, ⟨_, _, rfl, rfl, ⟨_, _, rfl, rfl, rfl⟩⟩⟩⟩⟩⟩⟩⟩⟩ := h
  exact rfl
theorem k42_mk (w : World) (x : S42)  : k42.K w x [.int .i64 x.f0, .int .i64 x.f1, .string x.f2, .int .i64 x.f3, .int .i64 x.f4, .int .i64 x.f5, .int .i64 x.f6, .string x.f7, .int .i64 x.f8, .int .u32 x.f9] := ⟨[.int .i64 x.f0], [.int .i64 x.f1, .string x.f2, .int .i64 x.f3, .int .i64 x.f4, .int .i64 x.f5, .int .i64 x.f6, .string x.f7, .int .i64 x.f8, .int .u32 x.f9], rfl, rfl, ⟨[.int .i64 x.f1], [.string x.f2, .int .i64 x.f3, .int .i64 x.f4, .int .i64 x.f5, .int .i64 x.f6, .string x.f7, .int .i64 x.f8, .int .u32 x.f9], rfl, rfl, ⟨[.string x.f2], [.int .i64 x.f3, .int .i64 x.f4, .int .i64 x.f5, .int .i64 x.f6, .string x.f7, .int .i64 x.f8, .int .u32 x.f9], rfl, rfl, ⟨[.int .i64 x.f3], [.int .i64 x.f4, .int .i64 x.f5, .int .i64 x.f6, .string x.f7, .int .i64 x.f8, .int .u32 x.f9], rfl, rfl, ⟨[.int .i64 x.f4], [.int .i64 x.f5, .int .i64 x.f6, .string x.f7, .int .i64 x.f8, .int .u32 x.f9], rfl, rfl, ⟨[.int .i64 x.f5], [.int .i64 x.f6, .string x.f7, .int .i64 x.f8, .int .u32 x.f9], rfl, rfl, ⟨[.int .i64 x.f6], [.string x.f7, .int .i64 x.f8, .int .u32 x.f9], rfl, rfl, ⟨[.string x.f7], [.int .i64 x.f8, .int .u32 x.f9], rfl, rfl, ⟨[.int .i64 x.f8], [.int .u32 x.f9], rfl, rfl, rfl⟩⟩⟩⟩⟩⟩⟩⟩⟩
theorem k42_mkM (w : World) (base : Nat) (ok : Nat → Prop) (x : S42)  : k42.M w base ok x [.int .i64 x.f0, .int .i64 x.f1, .string x.f2, .int .i64 x.f3, .int .i64 x.f4, .int .i64 x.f5, .int .i64 x.f6, .string x.f7, .int .i64 x.f8, .int .u32 x.f9] := ⟨[.int .i64 x.f0], [.int .i64 x.f1, .string x.f2, .int .i64 x.f3, .int .i64 x.f4, .int .i64 x.f5, .int .i64 x.f6, .string x.f7, .int .i64 x.f8, .int .u32 x.f9], rfl, rfl, ⟨[.int .i64 x.f1], [.string x.f2, .int .i64 x.f3, .int .i64 x.f4, .int .i64 x.f5, .int .i64 x.f6, .string x.f7, .int .i64 x.f8, .int .u32 x.f9], rfl, rfl, ⟨[.string x.f2], [.int .i64 x.f3, .int .i64 x.f4, .int .i64 x.f5, .int .i64 x.f6, .string x.f7, .int .i64 x.f8, .int .u32 x.f9], rfl, rfl, ⟨[.int .i64 x.f3], [.int .i64 x.f4, .int .i64 x.f5, .int .i64 x.f6, .string x.f7, .int .i64 x.f8, .int .u32 x.f9], rfl, rfl, ⟨[.int .i64 x.f4], [.int .i64 x.f5, .int .i64 x.f6, .string x.f7, .int .i64 x.f8, .int .u32 x.f9], rfl, rfl, ⟨[.int .i64 x.f5], [.int .i64 x.f6, .string x.f7, .int .i64 x.f8, .int .u32 x.f9], rfl, rfl, ⟨[.int .i64 x.f6], [.string x.f7, .int .i64 x.f8, .int .u32 x.f9], rfl, rfl, ⟨[.string x.f7], [.int .i64 x.f8, .int .u32 x.f9], rfl, rfl, ⟨[.int .i64 x.f8], [.int .u32 x.f9], rfl, rfl, rfl⟩⟩⟩⟩⟩⟩⟩⟩⟩
def rd_T42 (xs : List S42) (i : Int) : S42 := xs.getD i.toNat z42
theorem at_T42 {w : World} {A : Option Addr} {n : Nat} {xs : List S42} (h : Kd.C k42 w A n xs) (i : Int) (h0 : 0 ≤ i) (h1 : i < n) : ∃ ad , A = some ad ∧ w.cell? (ad.add (i.toNat * 10)) = some (.int .i64 (rd_T42 xs i).f0) ∧ w.cell? ⟨(ad.add (i.toNat * 10)).block, (ad.add (i.toNat * 10)).off + 1, none⟩ = some (.int .i64 (rd_T42 xs i).f1) ∧ w.cell? ⟨(ad.add (i.toNat * 10)).block, (ad.add (i.toNat * 10)).off + 2, none⟩ = some (.string (rd_T42 xs i).f2) ∧ w.cell? ⟨(ad.add (i.toNat * 10)).block, (ad.add (i.toNat * 10)).off + 3, none⟩ = some (.int .i64 (rd_T42 xs i).f3) ∧ w.cell? ⟨(ad.add (i.toNat * 10)).block, (ad.add (i.toNat * 10)).off + 4, none⟩ = some (.int .i64 (rd_T42 xs i).f4) ∧ w.cell? ⟨(ad.add (i.toNat * 10)).block, (ad.add (i.toNat * 10)).off + 5, none⟩ = some (.int .i64 (rd_T42 xs i).f5) ∧ w.cell? ⟨(ad.add (i.toNat * 10)).block, (ad.add (i.toNat * 10)).off + 6, none⟩ = some (.int .i64 (rd_T42 xs i).f6) ∧ w.cell? ⟨(ad.add (i.toNat * 10)).block, (ad.add (i.toNat * 10)).off + 7, none⟩ = some (.string (rd_T42 xs i).f7) ∧ w.cell? ⟨(ad.add (i.toNat * 10)).block, (ad.add (i.toNat * 10)).off + 8, none⟩ = some (.int .i64 (rd_T42 xs i).f8) ∧ w.cell? ⟨(ad.add (i.toNat * 10)).block, (ad.add (i.toNat * 10)).off + 9, none⟩ = some (.int .u32 (rd_T42 xs i).f9) := by
  obtain ⟨ad, c, e, _, hK, hc0⟩ := Kd.C_get h z42 i h0 h1
  have hc : ∀ j u, c[j]? = some u → w.cell? (ad.add (i.toNat * 10 + j)) = some u := hc0
  obtain rfl := k42_open hK
  exact ⟨ad, e, hc 0 _ rfl, by rw [← add_field _ _ 1 (by omega)]; exact hc 1 _ rfl, by rw [← add_field _ _ 2 (by omega)]; exact hc 2 _ rfl, by rw [← add_field _ _ 3 (by omega)]; exact hc 3 _ rfl, by rw [← add_field _ _ 4 (by omega)]; exact hc 4 _ rfl, by rw [← add_field _ _ 5 (by omega)]; exact hc 5 _ rfl, by rw [← add_field _ _ 6 (by omega)]; exact hc 6 _ rfl, by rw [← add_field _ _ 7 (by omega)]; exact hc 7 _ rfl, by rw [← add_field _ _ 8 (by omega)]; exact hc 8 _ rfl, by rw [← add_field _ _ 9 (by omega)]; exact hc 9 _ rfl⟩

def rd_L6 (xs : List (List Int)) (i : Int) : (List Int) := xs.getD i.toNat ([] : List Int)
theorem at_L6 {w : World} {A : Option Addr} {n : Nat} {xs : List (List Int)} (h : Kd.C (Kd.slice 3 (Kd.int .i64)) w A n xs) (i : Int) (h0 : 0 ≤ i) (h1 : i < n) : ∃ ad A0 c0, A = some ad ∧ w.cell? (ad.add i.toNat) = some (.slice A0 (rd_L6 xs i).length c0) ∧ (rd_L6 xs i).length ≤ c0 ∧ (Kd.int .i64).C w A0 (rd_L6 xs i).length (rd_L6 xs i) := by
  obtain ⟨ad, c, e, _, hK, hc0⟩ := Kd.C_get h ([] : List Int) i h0 h1
  have hc : ∀ j u, c[j]? = some u → w.cell? (ad.add (i.toNat * 1 + j)) = some u := hc0
  obtain ⟨A0, c0, rfl, l0, g0⟩ := hK
  exact ⟨ad, A0, c0, e, by have hq := hc 0 _ rfl; rwa [Nat.mul_one, Nat.add_zero] at hq, l0, g0⟩

end Go.Proofs.YtjoncjnmhhimhaaDoor.PLL
namespace Go.Proofs.YtjoncjnmhhimhaaDoor.PLL
open Go.RowKit Go.Proofs.YtjoncjnmhhimhaaDoor.Hand Go.Proofs.YtjoncjnmhhimhaaDoor.PT13s Go.Proofs.YtjoncjnmhhimhaaDoorW.PrintWords Go.Proofs.YtjoncjnmhhimhaaDoorW.PrintLast Go.Proofs.YtjoncjnmhhimhaaDoorW.PrintMore
attribute [local go_sem] max2_int min2_int max_two min_two max_three min_three max_four min_four   -- for this text's walks alone
set_option linter.unusedVariables false
set_option linter.unusedSimpArgs false

-- BY CONTRACT: function 21 (pyxref09_Text)

-- BY CONTRACT: function 23 (pyxref09_Valid)

-- BY CONTRACT: function 24 (pyxlaw13_awake)

/-! ### pyxref13_Table: function 28 -/
def pyxref13_Table.f  : Option ((List (S42))) := if 19 + 3 ≤ 9223372036854775807 then (if 19 + 4 ≤ 9223372036854775807 then (some (([(⟨1, 1, (⟨#[77, 76, 45, 75, 69, 77, 45, 53, 49, 50]⟩ : ByteArray), 800, 1632, 64, 0, (⟨#[50, 46, 49, 54, 46, 56, 52, 48, 46, 49, 46, 49, 48, 49, 46, 51, 46, 52, 46]⟩ : ByteArray) ++ (⟨#[52, 46, 49]⟩ : ByteArray), (-111), 0⟩ : S42), (⟨2, 1, (⟨#[77, 76, 45, 75, 69, 77, 45, 55, 54, 56]⟩ : ByteArray), 1184, 2400, 64, 0, (⟨#[50, 46, 49, 54, 46, 56, 52, 48, 46, 49, 46, 49, 48, 49, 46, 51, 46, 52, 46]⟩ : ByteArray) ++ (⟨#[52, 46, 50]⟩ : ByteArray), (-112), 0⟩ : S42), (⟨3, 1, (⟨#[77, 76, 45, 75, 69, 77, 45, 49, 48, 50, 52]⟩ : ByteArray), 1568, 3168, 64, 0, (⟨#[50, 46, 49, 54, 46, 56, 52, 48, 46, 49, 46, 49, 48, 49, 46, 51, 46, 52, 46]⟩ : ByteArray) ++ (⟨#[52, 46, 51]⟩ : ByteArray), (-113), 0⟩ : S42), (⟨4, 2, (⟨#[77, 76, 45, 68, 83, 65, 45, 52, 52]⟩ : ByteArray), 1312, 2560, 32, 2420, (⟨#[50, 46, 49, 54, 46, 56, 52, 48, 46, 49, 46, 49, 48, 49, 46, 51, 46, 52, 46]⟩ : ByteArray) ++ (⟨#[51, 46, 49, 55]⟩ : ByteArray), (-48), 0⟩ : S42), (⟨5, 2, (⟨#[77, 76, 45, 68, 83, 65, 45, 54, 53]⟩ : ByteArray), 1952, 4032, 32, 3309, (⟨#[50, 46, 49, 54, 46, 56, 52, 48, 46, 49, 46, 49, 48, 49, 46, 51, 46, 52, 46]⟩ : ByteArray) ++ (⟨#[51, 46, 49, 56]⟩ : ByteArray), (-49), 0⟩ : S42), (⟨6, 2, (⟨#[77, 76, 45, 68, 83, 65, 45, 56, 55]⟩ : ByteArray), 2592, 4896, 32, 4627, (⟨#[50, 46, 49, 54, 46, 56, 52, 48, 46, 49, 46, 49, 48, 49, 46, 51, 46, 52, 46]⟩ : ByteArray) ++ (⟨#[51, 46, 49, 57]⟩ : ByteArray), (-50), 0⟩ : S42), (⟨7, 3, (⟨#[83, 76, 72, 45, 68, 83, 65, 45, 83, 72, 65, 50, 45, 49, 50, 56, 115]⟩ : ByteArray), 32, 64, 0, 7856, (⟨#[50, 46, 49, 54, 46, 56, 52, 48, 46, 49, 46, 49, 48, 49, 46, 51, 46, 52, 46]⟩ : ByteArray) ++ (⟨#[51, 46, 50, 48]⟩ : ByteArray), (-51), 0⟩ : S42), (⟨8, 3, (⟨#[83, 76, 72, 45, 68, 83, 65, 45, 83, 72, 65, 50, 45, 49, 50, 56, 102]⟩ : ByteArray), 32, 64, 0, 17088, (⟨#[50, 46, 49, 54, 46, 56, 52, 48, 46, 49, 46, 49, 48, 49, 46, 51, 46, 52, 46]⟩ : ByteArray) ++ (⟨#[51, 46, 50, 49]⟩ : ByteArray), (-52), 0⟩ : S42), (⟨9, 3, (⟨#[83, 76, 72, 45, 68, 83, 65, 45, 83, 72, 65, 50, 45, 49, 57, 50, 115]⟩ : ByteArray), 48, 96, 0, 16224, (⟨#[50, 46, 49, 54, 46, 56, 52, 48, 46, 49, 46, 49, 48, 49, 46, 51, 46, 52, 46]⟩ : ByteArray) ++ (⟨#[51, 46, 50, 50]⟩ : ByteArray), (-53), 0⟩ : S42), (⟨10, 3, (⟨#[83, 76, 72, 45, 68, 83, 65, 45, 83, 72, 65, 50, 45, 49, 57, 50, 102]⟩ : ByteArray), 48, 96, 0, 35664, (⟨#[50, 46, 49, 54, 46, 56, 52, 48, 46, 49, 46, 49, 48, 49, 46, 51, 46, 52, 46]⟩ : ByteArray) ++ (⟨#[51, 46, 50, 51]⟩ : ByteArray), (-54), 0⟩ : S42), (⟨11, 3, (⟨#[83, 76, 72, 45, 68, 83, 65, 45, 83, 72, 65, 50, 45, 50, 53, 54, 115]⟩ : ByteArray), 64, 128, 0, 29792, (⟨#[50, 46, 49, 54, 46, 56, 52, 48, 46, 49, 46, 49, 48, 49, 46, 51, 46, 52, 46]⟩ : ByteArray) ++ (⟨#[51, 46, 50, 52]⟩ : ByteArray), (-55), 0⟩ : S42), (⟨12, 3, (⟨#[83, 76, 72, 45, 68, 83, 65, 45, 83, 72, 65, 50, 45, 50, 53, 54, 102]⟩ : ByteArray), 64, 128, 0, 49856, (⟨#[50, 46, 49, 54, 46, 56, 52, 48, 46, 49, 46, 49, 48, 49, 46, 51, 46, 52, 46]⟩ : ByteArray) ++ (⟨#[51, 46, 50, 53]⟩ : ByteArray), (-56), 0⟩ : S42), (⟨13, 3, (⟨#[83, 76, 72, 45, 68, 83, 65, 45, 83, 72, 65, 75, 69, 45, 49, 50, 56, 115]⟩ : ByteArray), 32, 64, 0, 7856, (⟨#[50, 46, 49, 54, 46, 56, 52, 48, 46, 49, 46, 49, 48, 49, 46, 51, 46, 52, 46]⟩ : ByteArray) ++ (⟨#[51, 46, 50, 54]⟩ : ByteArray), (-57), 0⟩ : S42), (⟨14, 3, (⟨#[83, 76, 72, 45, 68, 83, 65, 45, 83, 72, 65, 75, 69, 45, 49, 50, 56, 102]⟩ : ByteArray), 32, 64, 0, 17088, (⟨#[50, 46, 49, 54, 46, 56, 52, 48, 46, 49, 46, 49, 48, 49, 46, 51, 46, 52, 46]⟩ : ByteArray) ++ (⟨#[51, 46, 50, 55]⟩ : ByteArray), (-58), 0⟩ : S42), (⟨15, 3, (⟨#[83, 76, 72, 45, 68, 83, 65, 45, 83, 72, 65, 75, 69, 45, 49, 57, 50, 115]⟩ : ByteArray), 48, 96, 0, 16224, (⟨#[50, 46, 49, 54, 46, 56, 52, 48, 46, 49, 46, 49, 48, 49, 46, 51, 46, 52, 46]⟩ : ByteArray) ++ (⟨#[51, 46, 50, 56]⟩ : ByteArray), (-59), 0⟩ : S42), (⟨16, 3, (⟨#[83, 76, 72, 45, 68, 83, 65, 45, 83, 72, 65, 75, 69, 45, 49, 57, 50, 102]⟩ : ByteArray), 48, 96, 0, 35664, (⟨#[50, 46, 49, 54, 46, 56, 52, 48, 46, 49, 46, 49, 48, 49, 46, 51, 46, 52, 46]⟩ : ByteArray) ++ (⟨#[51, 46, 50, 57]⟩ : ByteArray), (-60), 0⟩ : S42), (⟨17, 3, (⟨#[83, 76, 72, 45, 68, 83, 65, 45, 83, 72, 65, 75, 69, 45, 50, 53, 54, 115]⟩ : ByteArray), 64, 128, 0, 29792, (⟨#[50, 46, 49, 54, 46, 56, 52, 48, 46, 49, 46, 49, 48, 49, 46, 51, 46, 52, 46]⟩ : ByteArray) ++ (⟨#[51, 46, 51, 48]⟩ : ByteArray), (-61), 0⟩ : S42), (⟨18, 3, (⟨#[83, 76, 72, 45, 68, 83, 65, 45, 83, 72, 65, 75, 69, 45, 50, 53, 54, 102]⟩ : ByteArray), 64, 128, 0, 49856, (⟨#[50, 46, 49, 54, 46, 56, 52, 48, 46, 49, 46, 49, 48, 49, 46, 51, 46, 52, 46]⟩ : ByteArray) ++ (⟨#[51, 46, 51, 49]⟩ : ByteArray), (-62), 0⟩ : S42), (⟨19, 4, (⟨#[72, 83, 83, 47, 76, 77, 83]⟩ : ByteArray), 0, 0, 0, 0, (⟨#[49, 46, 50, 46, 56, 52, 48, 46, 49, 49, 51, 53, 52, 57, 46, 49, 46, 57, 46, 49, 54, 46, 51, 46, 49, 55]⟩ : ByteArray), 0, 0⟩ : S42), (⟨20, 5, (⟨#[88, 77, 83, 83, 45, 83, 72, 65, 50, 95, 49, 48, 95, 50, 53, 54]⟩ : ByteArray), 68, 0, 0, 2500, (⟨#[49, 46, 51, 46, 54, 46, 49, 46, 53, 46, 53, 46, 55, 46, 54, 46, 51, 52]⟩ : ByteArray), 0, 1⟩ : S42), (⟨21, 5, (⟨#[88, 77, 83, 83, 45, 83, 72, 65, 50, 95, 49, 54, 95, 50, 53, 54]⟩ : ByteArray), 68, 0, 0, 2692, (⟨#[49, 46, 51, 46, 54, 46, 49, 46, 53, 46, 53, 46, 55, 46, 54, 46, 51, 52]⟩ : ByteArray), 0, 2⟩ : S42), (⟨22, 5, (⟨#[88, 77, 83, 83, 45, 83, 72, 65, 50, 95, 50, 48, 95, 50, 53, 54]⟩ : ByteArray), 68, 0, 0, 2820, (⟨#[49, 46, 51, 46, 54, 46, 49, 46, 53, 46, 53, 46, 55, 46, 54, 46, 51, 52]⟩ : ByteArray), 0, 3⟩ : S42), (⟨23, 5, (⟨#[88, 77, 83, 83, 45, 83, 72, 65, 50, 95, 49, 48, 95, 53, 49, 50]⟩ : ByteArray), 132, 0, 0, 9092, (⟨#[49, 46, 51, 46, 54, 46, 49, 46, 53, 46, 53, 46, 55, 46, 54, 46, 51, 52]⟩ : ByteArray), 0, 4⟩ : S42), (⟨24, 5, (⟨#[88, 77, 83, 83, 45, 83, 72, 65, 50, 95, 49, 54, 95, 53, 49, 50]⟩ : ByteArray), 132, 0, 0, 9476, (⟨#[49, 46, 51, 46, 54, 46, 49, 46, 53, 46, 53, 46, 55, 46, 54, 46, 51, 52]⟩ : ByteArray), 0, 5⟩ : S42), (⟨25, 5, (⟨#[88, 77, 83, 83, 45, 83, 72, 65, 50, 95, 50, 48, 95, 53, 49, 50]⟩ : ByteArray), 132, 0, 0, 9732, (⟨#[49, 46, 51, 46, 54, 46, 49, 46, 53, 46, 53, 46, 55, 46, 54, 46, 51, 52]⟩ : ByteArray), 0, 6⟩ : S42)] : List (S42)))) else (none)) else (none)
set_option maxHeartbeats 8000000 in
set_option maxRecDepth 100000 in
theorem pyxref13_Table.calls  (r : List (S42)) (w : World) (h : pyxref13_Table.f  = some r) :
    Calls Tryd.prog 28 #[] w fun e w' => ∃ v0_ : Value, e = .returned (v0_) ∧ Kd.R k42 42 w' w.heap.size (fun _ => True) v0_ r ∧ Below w.heap.size w w' := by
  have hs : pyxref13_Table.f = some (pyxref13_Table.f.getD []) := by kernel_rfl
  obtain rfl := Option.some.inj (hs.symm.trans h)
  clear h hs
  have hrun : Hand.runFn Tryd.prog 10 Tryd.f28 #[] w = some (.slice (some ⟨w.heap.size, 0, none⟩) (pyxref13_Table.f.getD []).length (pyxref13_Table.f.getD []).length, w.alloc (.cells ((pyxref13_Table.f.getD []).flatMap fun x : S42 => [.int .i64 x.f0, .int .i64 x.f1, .string x.f2, .int .i64 x.f3, .int .i64 x.f4, .int .i64 x.f5, .int .i64 x.f6, .string x.f7, .int .i64 x.f8, .int .u32 x.f9]).toArray 42), w.alloc (.cells ((pyxref13_Table.f.getD []).flatMap fun x : S42 => [.int .i64 x.f0, .int .i64 x.f1, .string x.f2, .int .i64 x.f3, .int .i64 x.f4, .int .i64 x.f5, .int .i64 x.f6, .string x.f7, .int .i64 x.f8, .int .u32 x.f9]).toArray 42)) := by kernel_rfl
  refine (Hand.calls_of_runFn Tryd.func28 10 hrun).mono ?_
  rintro e w2 ⟨rfl, rfl⟩
  refine ⟨_, rfl, Hand.R_lit_any k42 42 _ (fun w base ok x => ⟨[_], _, rfl, rfl, ⟨[_], _, rfl, rfl, ⟨[_], _, rfl, rfl, ⟨[_], _, rfl, rfl, ⟨[_], _, rfl, rfl, ⟨[_], _, rfl, rfl, ⟨[_], _, rfl, rfl, ⟨[_], _, rfl, rfl, ⟨[_], _, rfl, rfl, rfl⟩⟩⟩⟩⟩⟩⟩⟩⟩) w _ (by rw [show (pyxref13_Table.f.getD []).length = 25 by kernel_rfl]; decide), below_alloc (Below.refl _ _) _⟩

-- BY CONTRACT: function 29 (slices_Equal_int_int)

-- BY CONTRACT: function 30 (params_ByOID)

-- BY CONTRACT: function 31 (params_BySize)

/-! ### pyxlaw13_ParamsLists: function 8 -/
mutual
def pyxlaw13_ParamsLists.j0 : Nat → List Int → Int → Int → Bool → Option (Bool)
  | 0, _, _, _, _ => none
  | k + 1, x0, x1, x2, x17 => if x17 = true then ((pyxlaw13_awake.f).bind fun t105 => (some t105)) else ((pyxref13_Table.f).bind fun t106 => (pyxlaw13_ParamsLists.l0 k x0 x1 x2 ([] : List Int) ([] : List Int) t106 0))
def pyxlaw13_ParamsLists.l0 : Nat → List Int → Int → Int → List Int → List Int → List (S42) → Int → Option (Bool)
  | 0, _, _, _, _, _, _, _ => none
  | k + 1, x0, x1, x2, x7, x8, x9, x10 => if x10 < (x9.length : Int) then ((pyxref09_Valid.f x0).bind fun t109 => (if t109 = true then (if 0 ≤ x10 then ((pyxref09_Text.f x0).bind fun t111 => (pyxlaw13_ParamsLists.j2 k x0 x1 x2 x7 x8 x9 x10 (((rd_T42 x9 x10).f7).toList == t111.toList))) else (none)) else (pyxlaw13_ParamsLists.j2 k x0 x1 x2 x7 x8 x9 x10 false))) else ((params_ByOID.f x0).bind fun t128 => ((slices_Equal_int_int.f t128 x7).bind fun t131 => (if t131 = true then ((params_BySize.f x1 x2).bind fun t132 => ((slices_Equal_int_int.f t132 x8).bind fun t135 => (some t135))) else (none))))
def pyxlaw13_ParamsLists.j2 : Nat → List Int → Int → Int → List Int → List Int → List (S42) → Int → Bool → Option (Bool)
  | 0, _, _, _, _, _, _, _, _ => none
  | k + 1, x0, x1, x2, x7, x8, x9, x10, x37 => if x37 = true then (if 0 ≤ x10 then (if x10 < (x9.length : Int) then (if x7.length < 17592186044416 then ((some (x7 ++ [(rd_T42 x9 x10).f0] : List Int)).bind fun y113 => (if x2 = 0 then (pyxlaw13_ParamsLists.l0 k x0 x1 x2 y113 x8 x9 (wrap64 (x10 + 1))) else (if ((rd_T42 x9 x10).f1) = x1 then (if ((rd_T42 x9 x10).f6) = x2 then (if x8.length < 17592186044416 then (pyxlaw13_ParamsLists.l0 k x0 x1 x2 y113 (x8 ++ [(rd_T42 x9 x10).f0]) x9 (wrap64 (x10 + 1))) else (none)) else (pyxlaw13_ParamsLists.l0 k x0 x1 x2 y113 x8 x9 (wrap64 (x10 + 1)))) else (pyxlaw13_ParamsLists.l0 k x0 x1 x2 y113 x8 x9 (wrap64 (x10 + 1)))))) else (none)) else (none)) else (none)) else (if x2 = 0 then (pyxlaw13_ParamsLists.l0 k x0 x1 x2 x7 x8 x9 (wrap64 (x10 + 1))) else (if 0 ≤ x10 then (if x10 < (x9.length : Int) then (if ((rd_T42 x9 x10).f1) = x1 then (if ((rd_T42 x9 x10).f6) = x2 then (if x8.length < 17592186044416 then (pyxlaw13_ParamsLists.l0 k x0 x1 x2 x7 (x8 ++ [(rd_T42 x9 x10).f0]) x9 (wrap64 (x10 + 1))) else (none)) else (pyxlaw13_ParamsLists.l0 k x0 x1 x2 x7 x8 x9 (wrap64 (x10 + 1)))) else (pyxlaw13_ParamsLists.l0 k x0 x1 x2 x7 x8 x9 (wrap64 (x10 + 1)))) else (none)) else (none)))
end
def pyxlaw13_ParamsLists.f (k : Nat) (l0 : List Int) (a1 : Int) (a2 : Int) : Option (Bool) := (pyxlaw13_awake.f).bind fun t104 => (if t104 = true then (pyxlaw13_ParamsLists.j0 k l0 a1 a2 (decide ((l0.length : Int) > 100))) else (pyxlaw13_ParamsLists.j0 k l0 a1 a2 true))
theorem pyxlaw13_ParamsLists.mono_l : ∀ k, (∀ y0 y1 y2 y3, LeO (pyxlaw13_ParamsLists.j0 k y0 y1 y2 y3) (pyxlaw13_ParamsLists.j0 (k + 1) y0 y1 y2 y3)) ∧ (∀ y0 y1 y2 y3 y4 y5 y6, LeO (pyxlaw13_ParamsLists.l0 k y0 y1 y2 y3 y4 y5 y6) (pyxlaw13_ParamsLists.l0 (k + 1) y0 y1 y2 y3 y4 y5 y6)) ∧ (∀ y0 y1 y2 y3 y4 y5 y6 y7, LeO (pyxlaw13_ParamsLists.j2 k y0 y1 y2 y3 y4 y5 y6 y7) (pyxlaw13_ParamsLists.j2 (k + 1) y0 y1 y2 y3 y4 y5 y6 y7))
  | 0 => ⟨fun _ _ _ _ r h => by simp [pyxlaw13_ParamsLists.j0] at h, fun _ _ _ _ _ _ _ r h => by simp [pyxlaw13_ParamsLists.l0] at h, fun _ _ _ _ _ _ _ _ r h => by simp [pyxlaw13_ParamsLists.j2] at h⟩
  | k + 1 => by
    obtain ⟨ih0, ih1, ih2⟩ := pyxlaw13_ParamsLists.mono_l k
    refine ⟨?_, ?_, ?_⟩
    · intro y0 y1 y2 y3
      unfold pyxlaw13_ParamsLists.j0
      repeat' first
      | (with_reducible exact ih0 _ _ _ _)
      | (with_reducible exact ih1 _ _ _ _ _ _ _)
      | (with_reducible exact ih2 _ _ _ _ _ _ _ _)
      | (with_reducible exact LeO.refl _)
      | (with_reducible exact LeO.none _)
      | (with_reducible refine LeO.ite ?_ ?_)
      | (with_reducible refine LeO.bind ?_ (fun _ => ?_))
      | exact ih0 _ _ _ _
      | exact ih1 _ _ _ _ _ _ _
      | exact ih2 _ _ _ _ _ _ _ _
      | exact LeO.none _
      | refine LeO.ite ?_ ?_
      | refine LeO.bind ?_ (fun _ => ?_)
    · intro y0 y1 y2 y3 y4 y5 y6
      unfold pyxlaw13_ParamsLists.l0
      repeat' first
      | (with_reducible exact ih0 _ _ _ _)
      | (with_reducible exact ih1 _ _ _ _ _ _ _)
      | (with_reducible exact ih2 _ _ _ _ _ _ _ _)
      | (with_reducible exact LeO.refl _)
      | (with_reducible exact LeO.none _)
      | (with_reducible refine LeO.ite ?_ ?_)
      | (with_reducible refine LeO.bind ?_ (fun _ => ?_))
      | exact ih0 _ _ _ _
      | exact ih1 _ _ _ _ _ _ _
      | exact ih2 _ _ _ _ _ _ _ _
      | exact LeO.none _
      | refine LeO.ite ?_ ?_
      | refine LeO.bind ?_ (fun _ => ?_)
    · intro y0 y1 y2 y3 y4 y5 y6 y7
      unfold pyxlaw13_ParamsLists.j2
      repeat' first
      | (with_reducible exact ih0 _ _ _ _)
      | (with_reducible exact ih1 _ _ _ _ _ _ _)
      | (with_reducible exact ih2 _ _ _ _ _ _ _ _)
      | (with_reducible exact LeO.refl _)
      | (with_reducible exact LeO.none _)
      | (with_reducible refine LeO.ite ?_ ?_)
      | (with_reducible refine LeO.bind ?_ (fun _ => ?_))
      | exact ih0 _ _ _ _
      | exact ih1 _ _ _ _ _ _ _
      | exact ih2 _ _ _ _ _ _ _ _
      | exact LeO.none _
      | refine LeO.ite ?_ ?_
      | refine LeO.bind ?_ (fun _ => ?_)
theorem pyxlaw13_ParamsLists.mono : ∀ a0 a1 a2 k, LeO (pyxlaw13_ParamsLists.f k a0 a1 a2) (pyxlaw13_ParamsLists.f (k + 1) a0 a1 a2) := by
  intro a0 a1 a2 k
  obtain ⟨ih0, ih1, ih2⟩ := pyxlaw13_ParamsLists.mono_l k
  unfold pyxlaw13_ParamsLists.f
  repeat' first
      | (with_reducible exact ih0 _ _ _ _)
      | (with_reducible exact ih1 _ _ _ _ _ _ _)
      | (with_reducible exact ih2 _ _ _ _ _ _ _ _)
      | (with_reducible exact LeO.refl _)
      | (with_reducible exact LeO.none _)
      | (with_reducible refine LeO.ite ?_ ?_)
      | (with_reducible refine LeO.bind ?_ (fun _ => ?_))
      | exact ih0 _ _ _ _
      | exact ih1 _ _ _ _ _ _ _
      | exact ih2 _ _ _ _ _ _ _ _
      | exact LeO.none _
      | refine LeO.ite ?_ ?_
      | refine LeO.bind ?_ (fun _ => ?_)
def pyxlaw13_ParamsLists.T9 : Bool × List (List Nat × List Nat) := (true, [([], []), ([0], [0]), ([1, 1], [1]), ([2], [2]), ([2], [2]), ([3, 4, 2], [2, 3, 4]), ([5, 2], [2, 5]), ([6, 2], [2, 6]), ([2], [2]), ([8, 2, 2], [2, 8]), ([7, 9, 2], [2, 7, 9]), ([2, 10], [2, 10])])
def pyxlaw13_ParamsLists.B9 : List Nat := [0, 1, 3, 7, 7, 31, 63, 127, 7, 263, 1023, 2047]
theorem pyxlaw13_ParamsLists.tab9 : rtab .any (opsOf Tryd.f8 9) = pyxlaw13_ParamsLists.T9 := by kernel_rfl
theorem pyxlaw13_ParamsLists.bits9 : waitsOk pyxlaw13_ParamsLists.T9.2 pyxlaw13_ParamsLists.B9 = true := by kernel_rfl
set_option maxHeartbeats 8000000 in
set_option maxRecDepth 100000 in
theorem pyxlaw13_ParamsLists.calls (k : Nat) (A0 : Option Addr) (c0 : Nat) (l0 : List Int) (a1 : Int) (a2 : Int) (r : Bool) (w : World) (HLd : LaidOk w) (hr0 : Kd.C (Kd.int .u32) w A0 l0.length l0) (hc0 : l0.length ≤ c0) (h : pyxlaw13_ParamsLists.f k l0 a1 a2 = some r) :
    Calls Tryd.prog 8 #[.slice A0 l0.length c0, .int .i64 a1, .int .i64 a2] w fun e w' => e = .returned (.bool r) ∧ Below w.heap.size w w' := by
  have HR0 := Aside0.mk hr0
  have HC0 := Aside0.mk hc0
  clear hr0 hc0
  have HB := Aside0.mk (Below.refl w.heap.size w)
  have H : ((pyxlaw13_awake.f).bind fun t104 => (if t104 = true then (pyxlaw13_ParamsLists.j0 k l0 a1 a2 (decide ((l0.length : Int) > 100))) else (pyxlaw13_ParamsLists.j0 k l0 a1 a2 true))) = some r := h
  clear h
  have HC4 := Aside0.mk H
  clear H
  go_enter Tryd.func8, Tryd.ntmps8
  go_upto_region 1 with (fail)
  go_cut [17] (fun v17 wc => ∃ (kq : Nat) (x17_3 : Bool), v17 = .bool x17_3 ∧ Aside0 (pyxlaw13_ParamsLists.j0 kq l0 a1 a2 x17_3 = some r) ∧ Aside0 (kq ≤ k) ∧ Aside0 (Below w.heap.size w wc))
  case first =>
    have H := HC4.out
    clear HC4
    replace H := Option.bind_eq_some_iff.mp H
    obtain ⟨t104, A50, H⟩ := H
    replace H : (if t104 = true then (pyxlaw13_ParamsLists.j0 k l0 a1 a2 (decide ((l0.length : Int) > 100))) else (pyxlaw13_ParamsLists.j0 k l0 a1 a2 true)) = some r := H
    have A5 := Aside0.mk A50
    clear A50
    by_cases c6 : t104 = true
    · subst c6
      have H1 : (pyxlaw13_ParamsLists.j0 k l0 a1 a2 (decide ((l0.length : Int) > 100))) = some r := by rw [if_pos rfl] at H; exact H
      clear H
      have H := H1
      clear H1
      have H' := Aside0.mk H
      clear H
      go_wp2_with (first | ((with_reducible refine gate_callee (f := 24) rfl ?_); refine goesL_ (some 11) rfl rfl Tryd.func24 (by kernel_rfl) rfl #[] rfl (by (try simp only [List.map_toArray, List.map_cons, List.map_nil]); first | done | rfl | (simp only [List.length_drop, List.length_take]; rfl)) ?_; (with_reducible refine (pyxlaw13_awake.calls  true _ ?side1 A5.out).mono ?_); (case side1 => first | exact HLd | (exact LaidOk.below HLd (by repeat (first | (with_reducible first | exact HB.out | apply below_alloc | apply pw_below_drewN | apply below_drew1) | exact HB.out))) | (repeat (first | exact HLd | apply LaidOk.drewN | apply LaidOk.drew | apply LaidOk.alloc))); rintro e w7 ⟨rfl, hb⟩; refine ⟨_, rfl, ?_⟩; have n0_ := Aside0.mk (below_step (by repeat (first | (with_reducible first | exact HB.out | apply below_alloc | apply pw_below_drewN | apply below_drew1) | exact HB.out)) hb); clear HB; have HB := n0_; clear n0_; (try clear hb); (try clear hb2); (try clear hk); (try clear hi)))
      go_meet
      case rel => exact ⟨_, (decide ((l0.length : Int) > 100)), (by first | rfl | (simp; done) | (simp [*]; done)), H', ⟨by first | omega | exact Nat.le_refl _⟩, ⟨by repeat (first | (with_reducible first | exact HB.out | apply below_alloc | apply pw_below_drewN | apply below_drew1) | exact HB.out)⟩⟩
    · replace c6 := Bool.eq_false_iff.mpr c6
      subst c6
      have H1 : (pyxlaw13_ParamsLists.j0 k l0 a1 a2 true) = some r := by rw [if_neg (show ¬ (false = true) by decide)] at H; exact H
      clear H
      have H := H1
      clear H1
      have H' := Aside0.mk H
      clear H
      go_wp2_with (first | ((with_reducible refine gate_callee (f := 24) rfl ?_); refine goesL_ (some 11) rfl rfl Tryd.func24 (by kernel_rfl) rfl #[] rfl (by (try simp only [List.map_toArray, List.map_cons, List.map_nil]); first | done | rfl | (simp only [List.length_drop, List.length_take]; rfl)) ?_; (with_reducible refine (pyxlaw13_awake.calls  false _ ?side1 A5.out).mono ?_); (case side1 => first | exact HLd | (exact LaidOk.below HLd (by repeat (first | (with_reducible first | exact HB.out | apply below_alloc | apply pw_below_drewN | apply below_drew1) | exact HB.out))) | (repeat (first | exact HLd | apply LaidOk.drewN | apply LaidOk.drew | apply LaidOk.alloc))); rintro e w8 ⟨rfl, hb⟩; refine ⟨_, rfl, ?_⟩; have n0_ := Aside0.mk (below_step (by repeat (first | (with_reducible first | exact HB.out | apply below_alloc | apply pw_below_drewN | apply below_drew1) | exact HB.out)) hb); clear HB; have HB := n0_; clear n0_; (try clear hb); (try clear hb2); (try clear hk); (try clear hi)))
      go_meet
      case rel => exact ⟨_, (true), (by first | rfl | (simp; done) | (simp [*]; done)), H', ⟨by first | omega | exact Nat.le_refl _⟩, ⟨by repeat (first | (with_reducible first | exact HB.out | apply below_alloc | apply pw_below_drewN | apply below_drew1) | exact HB.out)⟩⟩
  case rest =>
    clear HC4
    try clear c2
    try clear p2
    try clear c6
    try clear c8
    obtain ⟨kq, x17_3, rfl, HA, HJ3, HB⟩ := hcut
    cases kq with
    | zero => exact absurd HA.out (by simp [pyxlaw13_ParamsLists.j0])
    | succ kj3 =>
      have H := HA.out
      clear HA
      simp only [pyxlaw13_ParamsLists.j0] at H
      by_cases c9 : x17_3 = true
      · subst c9
        have H1 : ((pyxlaw13_awake.f).bind fun t105 => (some t105)) = some r := by rw [if_pos rfl] at H; exact H
        clear H
        have H := H1
        clear H1
        replace H := Option.bind_eq_some_iff.mp H
        obtain ⟨t105, A100, H⟩ := H
        replace H : (some t105) = some r := H
        have A10 := Aside0.mk A100
        clear A100
        obtain rfl := Option.some.inj H
        go_wp2_with (first | ((with_reducible refine gate_callee (f := 24) rfl ?_); refine goesL_ (some 18) rfl rfl Tryd.func24 (by kernel_rfl) rfl #[] rfl (by (try simp only [List.map_toArray, List.map_cons, List.map_nil]); first | done | rfl | (simp only [List.length_drop, List.length_take]; rfl)) ?_; (with_reducible refine (pyxlaw13_awake.calls  t105 _ ?side1 A10.out).mono ?_); (case side1 => first | exact HLd | (exact LaidOk.below HLd (by repeat (first | (with_reducible first | exact HB.out | apply below_alloc | apply pw_below_drewN | apply below_drew1) | exact HB.out))) | (repeat (first | exact HLd | apply LaidOk.drewN | apply LaidOk.drew | apply LaidOk.alloc))); rintro e w11 ⟨rfl, hb⟩; refine ⟨_, rfl, ?_⟩; have n0_ := Aside0.mk (below_step (by repeat (first | (with_reducible first | exact HB.out | apply below_alloc | apply pw_below_drewN | apply below_drew1) | exact HB.out)) hb); clear HB; have HB := n0_; clear n0_; (try clear hb); (try clear hb2); (try clear hk); (try clear hi)))
        go_ret
        exact ⟨by first | rfl | (simp [errW_none, errW_some] <;> rfl) | (simp [*, errW_none, errW_some] <;> rfl), by repeat (first | (with_reducible first | exact HB.out | apply below_alloc | apply pw_below_drewN | apply below_drew1) | exact HB.out)⟩
      · replace c9 := Bool.eq_false_iff.mpr c9
        subst c9
        have H1 : ((pyxref13_Table.f).bind fun t106 => (pyxlaw13_ParamsLists.l0 kj3 l0 a1 a2 ([] : List Int) ([] : List Int) t106 0)) = some r := by rw [if_neg (show ¬ (false = true) by decide)] at H; exact H
        clear H
        have H := H1
        clear H1
        replace H := Option.bind_eq_some_iff.mp H
        obtain ⟨t106, A120, H⟩ := H
        replace H : (pyxlaw13_ParamsLists.l0 kj3 l0 a1 a2 ([] : List Int) ([] : List Int) t106 0) = some r := H
        have A12 := Aside0.mk A120
        clear A120
        have H' := Aside0.mk H
        clear H
        go_wp2_with (first | ((with_reducible refine gate_callee (f := 28) rfl ?_); refine goesL_ (some 19) rfl rfl Tryd.func28 (by kernel_rfl) rfl #[] rfl (by (try simp only [List.map_toArray, List.map_cons, List.map_nil]); first | done | rfl | (simp only [List.length_drop, List.length_take]; rfl)) ?_; (with_reducible refine (pyxref13_Table.calls  t106 _ A12.out).mono ?_); rintro e w13 ⟨v107, rfl, ho0, hb⟩; refine ⟨_, rfl, ?_⟩; have n0_ := Aside0.mk (Kd.R_lower ho0 (below_size (by repeat (first | (with_reducible first | exact HB.out | apply below_alloc | apply pw_below_drewN | apply below_drew1) | exact HB.out)))); have n1_ := Aside0.mk (below_step (by repeat (first | (with_reducible first | exact HB.out | apply below_alloc | apply pw_below_drewN | apply below_drew1) | exact HB.out)) hb); clear HB; have HO108 := n0_; have HB := n1_; clear n0_ n1_; (try clear hb); (try clear hb2); (try clear hk); (try clear hi); (try clear ho0)))
        go_loopg [7, 8, 10] kj3 (fun kq v7 v8 v10 w' => ∃ (x7_2 : List Int) (x8_2 : List Int) (x10_2 : Int), v10 = .int .i64 x10_2 ∧ Aside0 (pyxlaw13_ParamsLists.l0 kq l0 a1 a2 x7_2 x8_2 t106 x10_2 = some r) ∧ Aside0 (kq ≤ kj3) ∧ Aside0 (Kd.R (Kd.int .i64) 3 w' w.heap.size (fun k_ => some k_ ≠ (v8 : Value).ownBlock) v7 x7_2) ∧ Aside0 (Kd.R (Kd.int .i64) 3 w' w.heap.size (fun k_ => some k_ ≠ (v7 : Value).ownBlock) v8 x8_2) ∧ Aside0 (Kd.R k42 42 w' w.heap.size (fun _ => True) v107 t106) ∧ Aside0 (Below w.heap.size w w'))
        case atStart => exact ⟨(([] : List Int)), (([] : List Int)), (0), (by first | rfl | (simp; done) | (simp [*]; done)), H', ⟨Nat.le_refl _⟩, ⟨by first | exact Kd.R_nil _ _ _ _ _ | exact Kd.N_nil _ _ _ _ _ | exact Kd.V_nil _ _ _ _ _ | exact Kd.Q_nil _ _ _ _ _ | exact Kd.S_nil _ _ _ _ _⟩, ⟨by first | exact Kd.R_nil _ _ _ _ _ | exact Kd.N_nil _ _ _ _ _ | exact Kd.V_nil _ _ _ _ _ | exact Kd.Q_nil _ _ _ _ _ | exact Kd.S_nil _ _ _ _ _⟩, ⟨by (with_reducible repeat (first | apply Kd.R_alloc | apply Kd.R_drewN | apply Kd.R_drew)); exact HO108.out⟩, ⟨by repeat (first | (with_reducible first | exact HB.out | apply below_alloc | apply pw_below_drewN | apply below_drew1) | exact HB.out)⟩⟩
        case round =>
          clear H'
          try clear c2
          try clear p2
          try clear c6
          try clear c8
          try clear c9
          try clear p2
          obtain ⟨x7_2, x8_2, x10_2, rfl, HA, HK2, HO_7, HO_8, HO_9, HB⟩ := hrel
          cases gk with
          | zero => exact absurd HA.out (by simp [pyxlaw13_ParamsLists.l0])
          | succ k2 =>
            have H := HA.out
            clear HA
            simp only [pyxlaw13_ParamsLists.l0] at H
            by_cases c14 : x10_2 < (t106.length : Int)
            · rw [if_pos c14] at H
              have c14b0 : decide (x10_2 < (t106.length : Int)) = true := decide_eq_true c14
              clear c14
              have HC15 := Aside0.mk H
              clear H
              obtain ⟨Ao16, co16, eo16⟩ := Kd.R_slice HO_9.out
              subst eo16
              go_upto_region 9 with (fail)
              go_cut [37] (fun v37 wc => ∃ (kq : Nat) (x37_14 : Bool), v37 = .bool x37_14 ∧ Aside0 (pyxlaw13_ParamsLists.j2 kq l0 a1 a2 x7_2 x8_2 t106 x10_2 x37_14 = some r) ∧ Aside0 (kq ≤ k2) ∧ Aside0 (Kd.R (Kd.int .i64) 3 wc w.heap.size (fun k_ => some k_ ≠ (u8 : Value).ownBlock) u7 x7_2) ∧ Aside0 (Kd.R (Kd.int .i64) 3 wc w.heap.size (fun k_ => some k_ ≠ (u7 : Value).ownBlock) u8 x8_2) ∧ Aside0 (Kd.R k42 42 wc w.heap.size (fun _ => True) (.slice Ao16 t106.length co16) t106) ∧ Aside0 (Below w.heap.size w wc))
              case first =>
                have H := HC15.out
                clear HC15
                replace H := Option.bind_eq_some_iff.mp H
                obtain ⟨t109, A170, H⟩ := H
                replace H : (if t109 = true then (if 0 ≤ x10_2 then ((pyxref09_Text.f l0).bind fun t111 => (pyxlaw13_ParamsLists.j2 k2 l0 a1 a2 x7_2 x8_2 t106 x10_2 (((rd_T42 t106 x10_2).f7).toList == t111.toList))) else (none)) else (pyxlaw13_ParamsLists.j2 k2 l0 a1 a2 x7_2 x8_2 t106 x10_2 false)) = some r := H
                have A17 := Aside0.mk A170
                clear A170
                by_cases c18 : t109 = true
                · subst c18
                  have H1 : (if 0 ≤ x10_2 then ((pyxref09_Text.f l0).bind fun t111 => (pyxlaw13_ParamsLists.j2 k2 l0 a1 a2 x7_2 x8_2 t106 x10_2 (((rd_T42 t106 x10_2).f7).toList == t111.toList))) else (none)) = some r := by rw [if_pos rfl] at H; exact H
                  clear H
                  have H := H1
                  clear H1
                  by_cases c19 : 0 ≤ x10_2
                  · rw [if_pos c19] at H
                    have c19b0 : decide (0 ≤ x10_2) = true := decide_eq_true c19
                    clear c19
                    (first | rw [c19b0] | (simp only [i64_w, i32_w]; rw [c19b0]) | skip)
                    replace H := Option.bind_eq_some_iff.mp H
                    obtain ⟨t111, A200, H⟩ := H
                    replace H : (pyxlaw13_ParamsLists.j2 k2 l0 a1 a2 x7_2 x8_2 t106 x10_2 (((rd_T42 t106 x10_2).f7).toList == t111.toList)) = some r := H
                    have A20 := Aside0.mk A200
                    clear A200
                    have H' := Aside0.mk H
                    clear H
                    try go_wp2
                    have n0_ := Aside0.mk (Kd.R_drew HO_7.out)
                    have n1_ := Aside0.mk (Kd.R_drew HO_8.out)
                    have n2_ := Aside0.mk (Kd.R_drew HO_9.out)
                    have n3_ := Aside0.mk (below_drew1 HB.out)
                    clear HO_7
                    clear HO_8
                    clear HO_9
                    clear HB
                    have HO_7 := n0_
                    have HO_8 := n1_
                    have HO_9 := n2_
                    have HB := n3_
                    clear n0_ n1_ n2_ n3_
                    have p110 : 0 ≤ (x10_2 : Int) := of_decide_eq_true (by first | (with_reducible assumption) | assumption)
                    have q110 : x10_2 < (t106.length : Int) := of_decide_eq_true (by first | (with_reducible assumption) | assumption)
                    obtain ⟨ad110, e110, hx110_0, hx110_1, hx110_2, hx110_3, hx110_4, hx110_5, hx110_6, hx110_7, hx110_8, hx110_9⟩ := at_T42 (Kd.R_reads' HO_9.out).2.2 x10_2 p110 q110
                    cases e110
                    replace p110 := eq_true p110
                    replace q110 := eq_true q110
                    refine start_ (n := 12) (S := fun w' => w'.cell? (ad110.add ((x10_2).toNat * 10)) = some (.int .i64 ((rd_T42 t106 x10_2).f0)) ∧ w'.cell? ⟨(ad110.add ((x10_2).toNat * 10)).block, (ad110.add ((x10_2).toNat * 10)).off + 1, none⟩ = some (.int .i64 ((rd_T42 t106 x10_2).f1)) ∧ w'.cell? ⟨(ad110.add ((x10_2).toNat * 10)).block, (ad110.add ((x10_2).toNat * 10)).off + 2, none⟩ = some (.string ((rd_T42 t106 x10_2).f2)) ∧ w'.cell? ⟨(ad110.add ((x10_2).toNat * 10)).block, (ad110.add ((x10_2).toNat * 10)).off + 3, none⟩ = some (.int .i64 ((rd_T42 t106 x10_2).f3)) ∧ w'.cell? ⟨(ad110.add ((x10_2).toNat * 10)).block, (ad110.add ((x10_2).toNat * 10)).off + 4, none⟩ = some (.int .i64 ((rd_T42 t106 x10_2).f4)) ∧ w'.cell? ⟨(ad110.add ((x10_2).toNat * 10)).block, (ad110.add ((x10_2).toNat * 10)).off + 5, none⟩ = some (.int .i64 ((rd_T42 t106 x10_2).f5)) ∧ w'.cell? ⟨(ad110.add ((x10_2).toNat * 10)).block, (ad110.add ((x10_2).toNat * 10)).off + 6, none⟩ = some (.int .i64 ((rd_T42 t106 x10_2).f6)) ∧ w'.cell? ⟨(ad110.add ((x10_2).toNat * 10)).block, (ad110.add ((x10_2).toNat * 10)).off + 7, none⟩ = some (.string ((rd_T42 t106 x10_2).f7)) ∧ w'.cell? ⟨(ad110.add ((x10_2).toNat * 10)).block, (ad110.add ((x10_2).toNat * 10)).off + 8, none⟩ = some (.int .i64 ((rd_T42 t106 x10_2).f8)) ∧ w'.cell? ⟨(ad110.add ((x10_2).toNat * 10)).block, (ad110.add ((x10_2).toNat * 10)).off + 9, none⟩ = some (.int .u32 ((rd_T42 t106 x10_2).f9))) (ds := []) #[false, false, false, false, false, false, false, false, false, false, false, false] (by kernel_rfl) rfl rfl ⟨hx110_0, hx110_1, hx110_2, hx110_3, hx110_4, hx110_5, hx110_6, hx110_7, hx110_8, hx110_9⟩ (fun hHeld => ?_); refine with_tabW pyxlaw13_ParamsLists.tab9 pyxlaw13_ParamsLists.bits9 (fun HT_ HW_ => ?_)
                    generalize wr.drew = w21 at HO_7 HO_8 HO_9 HB hx110_0 hx110_1 hx110_2 hx110_3 hx110_4 hx110_5 hx110_6 hx110_7 hx110_8 hx110_9 hHeld ⊢
                    refine pure_ (i := 0) (N := some 26) (v := ?_) (a' := ?_) #[true, false, false, false, false, false, false, false, false, false, false, false] rfl rfl (any_of HT_.out (by kernel_rfl)) (fun _ _ _ h => h) (Or.inl ⟨by rfl, ?_⟩) ?_ ?_
                    rotate_left
                    · intro w'
                      go_simp
                      with_reducible rfl
                    rotate_left
                    · simp only [Act.put, List.setIfInBounds_toArray, List.set_cons_zero, List.set_cons_succ, i64_w, i32_w]
                      rfl
                    refine one_ (i := 1) (N := some 27) #[true, true, false, false, false, false, false, false, false, false, false, false] rfl rfl (one_of HT_.out (by kernel_rfl)) (by decide) (fun K hK => ?_)
                    refine goes_ Tryd.func23 (by kernel_rfl) rfl #[.slice A0 l0.length c0] (by rfl) rfl rfl (by (try simp only [List.map_toArray, List.map_cons, List.map_nil]); first | done | rfl | (simp only [List.length_drop, List.length_take]; rfl)) ?_
                    with_reducible refine (pyxref09_Valid.calls _ _ l0 true _ ?side1 ?side2 A17.out).mono ?_
                    (case side1 => repeat (first | exact (Kd.C_below HR0.out HB.out) | (with_reducible refine Kd.C_alloc ?_ _) | (with_reducible refine Kd.C_drewN ?_ _) | (with_reducible refine Kd.C_drew ?_)))
                    (case side2 => exact HC0.out)
                    rintro e w' ⟨rfl, ⟨nd, rfl⟩⟩
                    refine ⟨_, rfl, ?_⟩
                    refine hK.out _ _ ⟨hHeld.1, hHeld.2.1, hHeld.2.2.1, hHeld.2.2.2.1, hHeld.2.2.2.2.1, hHeld.2.2.2.2.2.1, hHeld.2.2.2.2.2.2.1, hHeld.2.2.2.2.2.2.2.1, hHeld.2.2.2.2.2.2.2.2.1, hHeld.2.2.2.2.2.2.2.2.2⟩ (fun hHeld => ?_)
                    clear hK K
                    refine norm_ (a' := ?_) ?_ ?_
                    rotate_left
                    · show Act.put _ (some 27) _ = _
                      simp only [Act.put, List.setIfInBounds_toArray, List.set_cons_zero, List.set_cons_succ, i64_w, i32_w]
                      rfl
                    refine pure_ (i := 2) (N := some 28) (v := ?_) (a' := ?_) #[true, true, true, false, false, false, false, false, false, false, false, false] rfl rfl (any_of HT_.out (by kernel_rfl)) (fun _ _ _ h => h) (Or.inl ⟨by rfl, ?_⟩) ?_ ?_
                    rotate_left
                    · intro w'
                      go_simp
                      with_reducible rfl
                    rotate_left
                    · simp only [Act.put, List.setIfInBounds_toArray, List.set_cons_zero, List.set_cons_succ, i64_w, i32_w]
                      rfl
                    refine pure_ (i := 3) (N := some 29) (v := ?_) (a' := ?_) #[true, true, true, true, false, false, false, false, false, false, false, false] rfl rfl (any_of HT_.out (by kernel_rfl)) (fun _ _ _ h => h) (Or.inl ⟨by rfl, ?_⟩) ?_ ?_
                    rotate_left
                    · intro w'
                      go_simp
                      with_reducible rfl
                    rotate_left
                    · simp only [Act.put, List.setIfInBounds_toArray, List.set_cons_zero, List.set_cons_succ, i64_w, i32_w]
                      rfl
                    refine pure_ (i := 4) (N := some 30) (v := ?_) (a' := ?_) #[true, true, true, true, true, false, false, false, false, false, false, false] rfl rfl (any_of HT_.out (by kernel_rfl)) (fun _ _ _ h => h) (Or.inl ⟨by rfl, ?_⟩) ?_ ?_
                    rotate_left
                    · intro w'
                      go_simp
                      with_reducible rfl
                    rotate_left
                    · simp only [Act.put, List.setIfInBounds_toArray, List.set_cons_zero, List.set_cons_succ, i64_w, i32_w]
                      rfl
                    refine pure_ (i := 5) (N := some 31) (v := ?_) (a' := ?_) #[true, true, true, true, true, true, false, false, false, false, false, false] rfl rfl (any_of HT_.out (by kernel_rfl)) (fun _ _ _ h => h) (Or.inl ⟨by rfl, ?_⟩) ?_ ?_
                    rotate_left
                    · intro w'
                      go_simp
                      with_reducible rfl
                    rotate_left
                    · simp only [Act.put, List.setIfInBounds_toArray, List.set_cons_zero, List.set_cons_succ, i64_w, i32_w]
                      rfl
                    refine pure_ (i := 6) (N := some 32) (v := ?_) (a' := ?_) #[true, true, true, true, true, true, true, false, false, false, false, false] rfl rfl (any_of HT_.out (by kernel_rfl)) (fun _ _ _ h => h) (Or.inl ⟨by rfl, ?_⟩) ?_ ?_
                    rotate_left
                    · intro w'
                      go_simp
                      with_reducible rfl
                    rotate_left
                    · simp only [Act.put, List.setIfInBounds_toArray, List.set_cons_zero, List.set_cons_succ, i64_w, i32_w]
                      rfl
                    refine pure_ (i := 8) (N := some 34) (v := ?_) (a' := ?_) #[true, true, true, true, true, true, true, false, true, false, false, false] rfl rfl (any_of HT_.out (by kernel_rfl)) (fun _ _ _ h => h) (Or.inl ⟨by rfl, ?_⟩) ?_ ?_
                    rotate_left
                    · intro w'
                      go_simp
                      with_reducible rfl
                    rotate_left
                    · simp only [Act.put, List.setIfInBounds_toArray, List.set_cons_zero, List.set_cons_succ, i64_w, i32_w]
                      rfl
                    refine take_ (i := 7) (N := some 33) (v := ?_) (a' := ?_) #[true, true, true, true, true, true, true, true, true, false, false, false] rfl rfl (take_ofW HT_.out HW_.out (by kernel_rfl)) (fun _ _ _ h => h) (Or.inl ⟨by rfl, ?_⟩) hHeld ?_ ?_
                    rotate_left
                    · rintro w' ⟨s0, s1, s2, s3, s4, s5, s6, s7, s8, s9⟩
                      go_simp
                      with_reducible rfl
                    rotate_left
                    · simp only [Act.put, List.setIfInBounds_toArray, List.set_cons_zero, List.set_cons_succ, i64_w, i32_w]
                      rfl
                    refine one_ (i := 9) (N := some 35) #[true, true, true, true, true, true, true, true, true, true, false, false] rfl rfl (one_of HT_.out (by kernel_rfl)) (by decide) (fun K hK => ?_)
                    refine goes_ Tryd.func21 (by kernel_rfl) rfl #[.slice A0 l0.length c0] (by rfl) rfl rfl (by (try simp only [List.map_toArray, List.map_cons, List.map_nil]); first | done | rfl | (simp only [List.length_drop, List.length_take]; rfl)) ?_
                    with_reducible refine (pyxref09_Text.calls _ _ l0 t111 _ ?side1 ?side2 ?side3 A20.out).mono ?_
                    (case side1 => first | exact HLd | (exact LaidOk.below HLd (by repeat (first | (with_reducible first | exact HB.out | apply below_alloc | apply pw_below_drewN | apply below_drew1) | exact HB.out))) | (repeat (first | exact HLd | apply LaidOk.drewN | apply LaidOk.drew | apply LaidOk.alloc)))
                    (case side2 => repeat (first | exact (Kd.C_below HR0.out (by repeat (first | (with_reducible first | exact HB.out | apply below_alloc | apply pw_below_drewN | apply below_drew1) | exact HB.out))) | (with_reducible refine Kd.C_alloc ?_ _) | (with_reducible refine Kd.C_drewN ?_ _) | (with_reducible refine Kd.C_drew ?_)))
                    (case side3 => exact HC0.out)
                    rintro e w22 ⟨rfl, hb⟩
                    have HS0_ := (hb.cell (World.block_lt_of_cell? _ _ (hHeld.1))).trans (hHeld.1)
                    have HS1_ := (hb.cell (World.block_lt_of_cell? _ _ (hHeld.2.1))).trans (hHeld.2.1)
                    have HS2_ := (hb.cell (World.block_lt_of_cell? _ _ (hHeld.2.2.1))).trans (hHeld.2.2.1)
                    have HS3_ := (hb.cell (World.block_lt_of_cell? _ _ (hHeld.2.2.2.1))).trans (hHeld.2.2.2.1)
                    have HS4_ := (hb.cell (World.block_lt_of_cell? _ _ (hHeld.2.2.2.2.1))).trans (hHeld.2.2.2.2.1)
                    have HS5_ := (hb.cell (World.block_lt_of_cell? _ _ (hHeld.2.2.2.2.2.1))).trans (hHeld.2.2.2.2.2.1)
                    have HS6_ := (hb.cell (World.block_lt_of_cell? _ _ (hHeld.2.2.2.2.2.2.1))).trans (hHeld.2.2.2.2.2.2.1)
                    have HS7_ := (hb.cell (World.block_lt_of_cell? _ _ (hHeld.2.2.2.2.2.2.2.1))).trans (hHeld.2.2.2.2.2.2.2.1)
                    have HS8_ := (hb.cell (World.block_lt_of_cell? _ _ (hHeld.2.2.2.2.2.2.2.2.1))).trans (hHeld.2.2.2.2.2.2.2.2.1)
                    have HS9_ := (hb.cell (World.block_lt_of_cell? _ _ (hHeld.2.2.2.2.2.2.2.2.2))).trans (hHeld.2.2.2.2.2.2.2.2.2)
                    refine ⟨_, rfl, ?_⟩
                    have n0_ := Aside0.mk (Kd.R_below (by (with_reducible repeat (first | apply Kd.R_alloc | apply Kd.R_drewN | apply Kd.R_drew)); exact HO_7.out) hb)
                    have n1_ := Aside0.mk (Kd.R_below (by (with_reducible repeat (first | apply Kd.R_alloc | apply Kd.R_drewN | apply Kd.R_drew)); exact HO_8.out) hb)
                    have n2_ := Aside0.mk (Kd.R_below (by (with_reducible repeat (first | apply Kd.R_alloc | apply Kd.R_drewN | apply Kd.R_drew)); exact HO_9.out) hb)
                    have n3_ := Aside0.mk (below_step (by repeat (first | (with_reducible first | exact HB.out | apply below_alloc | apply pw_below_drewN | apply below_drew1) | exact HB.out)) hb)
                    clear HO_7
                    clear HO_8
                    clear HO_9
                    clear HB
                    have HO_7 := n0_
                    have HO_8 := n1_
                    have HO_9 := n2_
                    have HB := n3_
                    clear n0_ n1_ n2_ n3_
                    (try clear hb)
                    (try clear hb2)
                    (try clear hk)
                    (try clear hi)
                    refine hK.out _ _ ⟨HS0_, HS1_, HS2_, HS3_, HS4_, HS5_, HS6_, HS7_, HS8_, HS9_⟩ (fun hHeld => ?_)
                    clear hK K
                    refine norm_ (a' := ?_) ?_ ?_
                    rotate_left
                    · show Act.put _ (some 35) _ = _
                      simp only [Act.put, List.setIfInBounds_toArray, List.set_cons_zero, List.set_cons_succ, i64_w, i32_w]
                      rfl
                    refine pure_ (i := 10) (N := some 36) (v := ?_) (a' := ?_) #[true, true, true, true, true, true, true, true, true, true, true, false] rfl rfl (any_of HT_.out (by kernel_rfl)) (fun _ _ _ h => h) (Or.inl ⟨by rfl, ?_⟩) ?_ ?_
                    rotate_left
                    · intro w'
                      go_simp
                      with_reducible rfl
                    rotate_left
                    · simp only [Act.put, List.setIfInBounds_toArray, List.set_cons_zero, List.set_cons_succ, i64_w, i32_w]
                      rfl
                    refine pure_ (i := 11) (N := some 37) (v := ?_) (a' := ?_) #[true, true, true, true, true, true, true, true, true, true, true, true] rfl rfl (any_of HT_.out (by kernel_rfl)) (fun _ _ _ h => h) (Or.inl ⟨by rfl, ?_⟩) ?_ ?_
                    rotate_left
                    · intro w'
                      go_simp
                      with_reducible rfl
                    rotate_left
                    · simp only [Act.put, List.setIfInBounds_toArray, List.set_cons_zero, List.set_cons_succ, i64_w, i32_w]
                      rfl
                    refine done_ (done_of HT_.out (by kernel_rfl)) ?_
                    try go_wp2
                    go_meet
                    case rel => exact ⟨_, ((((rd_T42 t106 x10_2).f7).toList == t111.toList)), (by first | rfl | (simp; done) | (simp [*]; done)), H', ⟨by have := HJ3.out; have := HK2.out; first | omega | exact Nat.le_refl _⟩, ⟨by (with_reducible repeat (first | apply Kd.R_alloc | apply Kd.R_drewN | apply Kd.R_drew)); exact HO_7.out⟩, ⟨by (with_reducible repeat (first | apply Kd.R_alloc | apply Kd.R_drewN | apply Kd.R_drew)); exact HO_8.out⟩, ⟨by (with_reducible repeat (first | apply Kd.R_alloc | apply Kd.R_drewN | apply Kd.R_drew)); exact HO_9.out⟩, ⟨by repeat (first | (with_reducible first | exact HB.out | apply below_alloc | apply pw_below_drewN | apply below_drew1) | exact HB.out)⟩⟩
                  · rw [if_neg c19] at H
                    exact absurd H (by simp)
                · replace c18 := Bool.eq_false_iff.mpr c18
                  subst c18
                  have H1 : (pyxlaw13_ParamsLists.j2 k2 l0 a1 a2 x7_2 x8_2 t106 x10_2 false) = some r := by rw [if_neg (show ¬ (false = true) by decide)] at H; exact H
                  clear H
                  have H := H1
                  clear H1
                  have H' := Aside0.mk H
                  clear H
                  try go_wp2
                  have n0_ := Aside0.mk (Kd.R_drew HO_7.out)
                  have n1_ := Aside0.mk (Kd.R_drew HO_8.out)
                  have n2_ := Aside0.mk (Kd.R_drew HO_9.out)
                  have n3_ := Aside0.mk (below_drew1 HB.out)
                  clear HO_7
                  clear HO_8
                  clear HO_9
                  clear HB
                  have HO_7 := n0_
                  have HO_8 := n1_
                  have HO_9 := n2_
                  have HB := n3_
                  clear n0_ n1_ n2_ n3_
                  refine start_ (n := 12) (S := fun w' => True) (ds := []) #[false, false, false, false, false, false, false, false, false, false, false, false] (by kernel_rfl) rfl rfl trivial (fun hHeld => ?_); refine with_tabW pyxlaw13_ParamsLists.tab9 pyxlaw13_ParamsLists.bits9 (fun HT_ HW_ => ?_)
                  generalize wr.drew = w23 at HO_7 HO_8 HO_9 HB hHeld ⊢
                  refine pure_ (i := 0) (N := some 26) (v := ?_) (a' := ?_) #[true, false, false, false, false, false, false, false, false, false, false, false] rfl rfl (any_of HT_.out (by kernel_rfl)) (fun _ _ _ h => h) (Or.inl ⟨by rfl, ?_⟩) ?_ ?_
                  rotate_left
                  · intro w'
                    go_simp
                    with_reducible rfl
                  rotate_left
                  · simp only [Act.put, List.setIfInBounds_toArray, List.set_cons_zero, List.set_cons_succ, i64_w, i32_w]
                    rfl
                  refine one_ (i := 1) (N := some 27) #[true, true, false, false, false, false, false, false, false, false, false, false] rfl rfl (one_of HT_.out (by kernel_rfl)) (by decide) (fun K hK => ?_)
                  refine goes_ Tryd.func23 (by kernel_rfl) rfl #[.slice A0 l0.length c0] (by rfl) rfl rfl (by (try simp only [List.map_toArray, List.map_cons, List.map_nil]); first | done | rfl | (simp only [List.length_drop, List.length_take]; rfl)) ?_
                  with_reducible refine (pyxref09_Valid.calls _ _ l0 false _ ?side1 ?side2 A17.out).mono ?_
                  (case side1 => repeat (first | exact (Kd.C_below HR0.out HB.out) | (with_reducible refine Kd.C_alloc ?_ _) | (with_reducible refine Kd.C_drewN ?_ _) | (with_reducible refine Kd.C_drew ?_)))
                  (case side2 => exact HC0.out)
                  rintro e w' ⟨rfl, ⟨nd, rfl⟩⟩
                  refine ⟨_, rfl, ?_⟩
                  refine hK.out _ _ trivial (fun hHeld => ?_)
                  clear hK K
                  refine norm_ (a' := ?_) ?_ ?_
                  rotate_left
                  · show Act.put _ (some 27) _ = _
                    simp only [Act.put, List.setIfInBounds_toArray, List.set_cons_zero, List.set_cons_succ, i64_w, i32_w]
                    rfl
                  refine pure_ (i := 2) (N := some 28) (v := ?_) (a' := ?_) #[true, true, true, false, false, false, false, false, false, false, false, false] rfl rfl (any_of HT_.out (by kernel_rfl)) (fun _ _ _ h => h) (Or.inl ⟨by rfl, ?_⟩) ?_ ?_
                  rotate_left
                  · intro w'
                    go_simp
                    with_reducible rfl
                  rotate_left
                  · simp only [Act.put, List.setIfInBounds_toArray, List.set_cons_zero, List.set_cons_succ, i64_w, i32_w]
                    rfl
                  refine pure_ (i := 3) (N := some 29) (v := undef) (a' := ?_) #[true, true, true, true, false, false, false, false, false, false, false, false] rfl rfl (any_of HT_.out (by kernel_rfl)) (fun _ _ _ h => h) (Or.inr ⟨by rfl, rfl⟩) ?_ ?_
                  rotate_left
                  · simp only [Act.put, List.setIfInBounds_toArray, List.set_cons_zero, List.set_cons_succ, i64_w, i32_w]
                    rfl
                  refine pure_ (i := 4) (N := some 30) (v := undef) (a' := ?_) #[true, true, true, true, true, false, false, false, false, false, false, false] rfl rfl (any_of HT_.out (by kernel_rfl)) (fun _ _ _ h => h) (Or.inr ⟨by rfl, rfl⟩) ?_ ?_
                  rotate_left
                  · simp only [Act.put, List.setIfInBounds_toArray, List.set_cons_zero, List.set_cons_succ, i64_w, i32_w]
                    rfl
                  refine pure_ (i := 5) (N := some 31) (v := undef) (a' := ?_) #[true, true, true, true, true, true, false, false, false, false, false, false] rfl rfl (any_of HT_.out (by kernel_rfl)) (fun _ _ _ h => h) (Or.inr ⟨by rfl, rfl⟩) ?_ ?_
                  rotate_left
                  · simp only [Act.put, List.setIfInBounds_toArray, List.set_cons_zero, List.set_cons_succ, i64_w, i32_w]
                    rfl
                  refine pure_ (i := 6) (N := some 32) (v := undef) (a' := ?_) #[true, true, true, true, true, true, true, false, false, false, false, false] rfl rfl (any_of HT_.out (by kernel_rfl)) (fun _ _ _ h => h) (Or.inr ⟨by rfl, rfl⟩) ?_ ?_
                  rotate_left
                  · simp only [Act.put, List.setIfInBounds_toArray, List.set_cons_zero, List.set_cons_succ, i64_w, i32_w]
                    rfl
                  refine pure_ (i := 7) (N := some 33) (v := undef) (a' := ?_) #[true, true, true, true, true, true, true, true, false, false, false, false] rfl rfl (any_of HT_.out (by kernel_rfl)) (fun _ _ _ h => h) (Or.inr ⟨by rfl, rfl⟩) ?_ ?_
                  rotate_left
                  · simp only [Act.put, List.setIfInBounds_toArray, List.set_cons_zero, List.set_cons_succ, i64_w, i32_w]
                    rfl
                  refine pure_ (i := 8) (N := some 34) (v := undef) (a' := ?_) #[true, true, true, true, true, true, true, true, true, false, false, false] rfl rfl (any_of HT_.out (by kernel_rfl)) (fun _ _ _ h => h) (Or.inr ⟨by rfl, rfl⟩) ?_ ?_
                  rotate_left
                  · simp only [Act.put, List.setIfInBounds_toArray, List.set_cons_zero, List.set_cons_succ, i64_w, i32_w]
                    rfl
                  refine pure_ (i := 9) (N := some 35) (v := undef) (a' := ?_) #[true, true, true, true, true, true, true, true, true, true, false, false] rfl rfl (any_of HT_.out (by kernel_rfl)) (fun _ _ _ h => h) (Or.inr ⟨by rfl, rfl⟩) ?_ ?_
                  rotate_left
                  · simp only [Act.put, List.setIfInBounds_toArray, List.set_cons_zero, List.set_cons_succ, i64_w, i32_w]
                    rfl
                  refine pure_ (i := 10) (N := some 36) (v := undef) (a' := ?_) #[true, true, true, true, true, true, true, true, true, true, true, false] rfl rfl (any_of HT_.out (by kernel_rfl)) (fun _ _ _ h => h) (Or.inr ⟨by rfl, rfl⟩) ?_ ?_
                  rotate_left
                  · simp only [Act.put, List.setIfInBounds_toArray, List.set_cons_zero, List.set_cons_succ, i64_w, i32_w]
                    rfl
                  refine pure_ (i := 11) (N := some 37) (v := ?_) (a' := ?_) #[true, true, true, true, true, true, true, true, true, true, true, true] rfl rfl (any_of HT_.out (by kernel_rfl)) (fun _ _ _ h => h) (Or.inl ⟨by rfl, ?_⟩) ?_ ?_
                  rotate_left
                  · intro w'
                    go_simp
                    with_reducible rfl
                  rotate_left
                  · simp only [Act.put, List.setIfInBounds_toArray, List.set_cons_zero, List.set_cons_succ, i64_w, i32_w]
                    rfl
                  refine done_ (done_of HT_.out (by kernel_rfl)) ?_
                  try go_wp2
                  go_meet
                  case rel => exact ⟨_, (false), (by first | rfl | (simp; done) | (simp [*]; done)), H', ⟨by have := HJ3.out; have := HK2.out; first | omega | exact Nat.le_refl _⟩, ⟨by (with_reducible repeat (first | apply Kd.R_alloc | apply Kd.R_drewN | apply Kd.R_drew)); exact HO_7.out⟩, ⟨by (with_reducible repeat (first | apply Kd.R_alloc | apply Kd.R_drewN | apply Kd.R_drew)); exact HO_8.out⟩, ⟨by (with_reducible repeat (first | apply Kd.R_alloc | apply Kd.R_drewN | apply Kd.R_drew)); exact HO_9.out⟩, ⟨by repeat (first | (with_reducible first | exact HB.out | apply below_alloc | apply pw_below_drewN | apply below_drew1) | exact HB.out)⟩⟩
              case rest =>
                clear HC15
                try clear c1
                try clear p1
                try clear q1
                try clear hx1
                try clear c2
                try clear p2
                try clear c6
                try clear c8
                try clear c9
                try clear p11
                try clear q11
                try clear hx11
                try clear c14
                try clear c14b0
                try clear c18
                try clear c19
                try clear c19b0
                try clear c21
                try clear c23
                try clear hx110_0
                try clear hx110_1
                try clear hx110_2
                try clear hx110_3
                try clear hx110_4
                try clear hx110_5
                try clear hx110_6
                try clear hx110_7
                try clear hx110_8
                try clear hx110_9
                try clear p110
                try clear p2
                try clear q110
                obtain ⟨kq, x37_14, rfl, HA, HJ14, HO_7, HO_8, HO_9, HB⟩ := hcut
                cases kq with
                | zero => exact absurd HA.out (by simp [pyxlaw13_ParamsLists.j2])
                | succ kj14 =>
                  have H := HA.out
                  clear HA
                  simp only [pyxlaw13_ParamsLists.j2] at H
                  by_cases c24 : x37_14 = true
                  · subst c24
                    have H1 : (if 0 ≤ x10_2 then (if x10_2 < (t106.length : Int) then (if x7_2.length < 17592186044416 then ((some (x7_2 ++ [(rd_T42 t106 x10_2).f0] : List Int)).bind fun y113 => (if a2 = 0 then (pyxlaw13_ParamsLists.l0 kj14 l0 a1 a2 y113 x8_2 t106 (wrap64 (x10_2 + 1))) else (if ((rd_T42 t106 x10_2).f1) = a1 then (if ((rd_T42 t106 x10_2).f6) = a2 then (if x8_2.length < 17592186044416 then (pyxlaw13_ParamsLists.l0 kj14 l0 a1 a2 y113 (x8_2 ++ [(rd_T42 t106 x10_2).f0]) t106 (wrap64 (x10_2 + 1))) else (none)) else (pyxlaw13_ParamsLists.l0 kj14 l0 a1 a2 y113 x8_2 t106 (wrap64 (x10_2 + 1)))) else (pyxlaw13_ParamsLists.l0 kj14 l0 a1 a2 y113 x8_2 t106 (wrap64 (x10_2 + 1)))))) else (none)) else (none)) else (none)) = some r := by rw [if_pos rfl] at H; exact H
                    clear H
                    have H := H1
                    clear H1
                    by_cases c25 : 0 ≤ x10_2
                    · rw [if_pos c25] at H
                      have c25b0 : decide (0 ≤ x10_2) = true := decide_eq_true c25
                      clear c25
                      by_cases c26 : x10_2 < (t106.length : Int)
                      · rw [if_pos c26] at H
                        have c26b0 : decide (x10_2 < (t106.length : Int)) = true := decide_eq_true c26
                        clear c26
                        by_cases c27 : x7_2.length < 17592186044416
                        · rw [if_pos c27] at H
                          have LMc27 := Aside0.mk c27
                          clear c27
                          obtain ⟨y113, hy113⟩ : ∃ y_ : List Int, y_ = (x7_2 ++ [(rd_T42 t106 x10_2).f0]) := ⟨_, rfl⟩
                          replace H : (if a2 = 0 then (pyxlaw13_ParamsLists.l0 kj14 l0 a1 a2 y113 x8_2 t106 (wrap64 (x10_2 + 1))) else (if ((rd_T42 t106 x10_2).f1) = a1 then (if ((rd_T42 t106 x10_2).f6) = a2 then (if x8_2.length < 17592186044416 then (pyxlaw13_ParamsLists.l0 kj14 l0 a1 a2 y113 (x8_2 ++ [(rd_T42 t106 x10_2).f0]) t106 (wrap64 (x10_2 + 1))) else (none)) else (pyxlaw13_ParamsLists.l0 kj14 l0 a1 a2 y113 x8_2 t106 (wrap64 (x10_2 + 1)))) else (pyxlaw13_ParamsLists.l0 kj14 l0 a1 a2 y113 x8_2 t106 (wrap64 (x10_2 + 1))))) = some r := by first | (rw [hy113]; with_reducible exact H) | (have H2_ := (Option.bind_some _ _).symm.trans H; rw [hy113]; with_reducible exact H2_) | (have H2_ := (Option.bind_some _ _).symm.trans H; with_reducible exact H2_) | with_reducible exact H | (rw [hy113]; exact H) | exact H
                          have Ny113 := Aside0.mk hy113
                          clear hy113
                          by_cases c28 : a2 = 0
                          · rw [if_pos c28] at H
                            have c28b0 : (a2 == 0) = true := beq_iff_eq.mpr c28
                            have c28b1 : (a2 != 0) = false := bne_eq_false_iff_eq.mpr c28
                            clear c28
                            have H' := Aside0.mk H
                            clear H
                            have p112 : 0 ≤ (x10_2 : Int) := of_decide_eq_true (by first | (with_reducible assumption) | assumption)
                            have q112 : x10_2 < (t106.length : Int) := of_decide_eq_true (by first | (with_reducible assumption) | assumption)
                            obtain ⟨ad112, e112, hx112_0, hx112_1, hx112_2, hx112_3, hx112_4, hx112_5, hx112_6, hx112_7, hx112_8, hx112_9⟩ := at_T42 (Kd.R_reads' HO_9.out).2.2 x10_2 p112 q112
                            cases e112
                            replace p112 := eq_true p112
                            replace q112 := eq_true q112
                            go_wp2_with (first | ((with_reducible refine gate_builtin (b := .append) (xs := #[.tmp 38, .tmp 44]) rfl ?_); (try (refine gate_guard (by rfl) ?_; dsimp only)); at_builtin; refine Kd.R_append (Kd.int .i64) (w0 := w) w.heap.size rfl (.tmp 38) (.tmp 44) 45 3 (.int .i64 0) 8 rfl Tryd.underlying45 info3 rfl (by decide) (by omega) u7 x7_2 ((rd_T42 t106 x10_2).f0) [.int .i64 ((rd_T42 t106 x10_2).f0)] (fun k_ => some k_ ≠ (u8 : Value).ownBlock) (fun _ => False) rfl rfl ?aP (fun _ hk => hk.elim) ?aF ?aO ?aB ?aS ?aL ?_; (case aP => exact rfl); (case aB => exact (by repeat (first | (with_reducible first | exact HB.out | apply below_alloc | apply pw_below_drewN | apply below_drew1) | exact HB.out))); (case aF => exact (fun k_ hk => Kd.fresh' (Kd.R_lt (by (with_reducible repeat (first | apply Kd.R_alloc | apply Kd.R_drewN | apply Kd.R_drew)); exact HO_8.out)) k_ hk)); (case aO => exact (by (with_reducible repeat (first | apply Kd.R_alloc | apply Kd.R_drewN | apply Kd.R_drew)); exact HO_7.out)); (case aS => exact (below_size (by repeat (first | (with_reducible first | exact HB.out | apply below_alloc | apply pw_below_drewN | apply below_drew1) | exact HB.out)))); (case aL => have := LMc27.out; omega); intro v114 w29 ho hb hg hat; rw [← Ny113.out] at ho; have n0_ := Aside0.mk (Kd.R_after (ok := (fun _ => True)) (by (with_reducible repeat (first | apply Kd.R_alloc | apply Kd.R_drewN | apply Kd.R_drew)); exact Kd.R_mono HO_8.out (fun _ hk => ⟨trivial, hk⟩)) hg hat); have n1_ := Aside0.mk (Kd.R_over' (by (with_reducible repeat (first | apply Kd.R_alloc | apply Kd.R_drewN | apply Kd.R_drew)); exact HO_9.out) (Kd.R_typed (by (with_reducible repeat (first | apply Kd.R_alloc | apply Kd.R_drewN | apply Kd.R_drew)); exact HO_7.out)) (by decide) hg); have n2_ := Aside0.mk (hb); have n3_ := Aside0.mk (ho); clear HO_8; clear HO_9; clear HB; clear HO_7; have HO_8 := n0_; have HO_9 := n1_; have HB := n2_; have HO115 := n3_; clear n0_ n1_ n2_ n3_; clear ho hb hg hat))
                            go_roundg kj14
                            case measure => have := HJ3.out; have := HK2.out; have := HJ14.out; omega
                            case rel => exact ⟨(y113), (x8_2), (wrap64 (x10_2 + 1)), (by first | rfl | (simp; done) | (simp [*]; done)), H', ⟨by have := HJ3.out; have := HK2.out; have := HJ14.out; omega⟩, ⟨by (with_reducible repeat (first | apply Kd.R_alloc | apply Kd.R_drewN | apply Kd.R_drew)); exact HO115.out⟩, ⟨by (with_reducible repeat (first | apply Kd.R_alloc | apply Kd.R_drewN | apply Kd.R_drew)); exact Kd.R_mono HO_8.out (fun _ hk => hk.2)⟩, ⟨by (with_reducible repeat (first | apply Kd.R_alloc | apply Kd.R_drewN | apply Kd.R_drew)); exact HO_9.out⟩, ⟨by repeat (first | (with_reducible first | exact HB.out | apply below_alloc | apply pw_below_drewN | apply below_drew1) | exact HB.out)⟩⟩
                          · rw [if_neg c28] at H
                            have c28b0 : (a2 == 0) = false := beq_eq_false_iff_ne.mpr c28
                            have c28b1 : (a2 != 0) = true := bne_iff_ne.mpr c28
                            by_cases c30 : ((rd_T42 t106 x10_2).f1) = a1
                            · rw [if_pos c30] at H
                              have c30b0 : (((rd_T42 t106 x10_2).f1) == a1) = true := beq_iff_eq.mpr c30
                              have c30b1 : (((rd_T42 t106 x10_2).f1) != a1) = false := bne_eq_false_iff_eq.mpr c30
                              clear c30
                              by_cases c31 : ((rd_T42 t106 x10_2).f6) = a2
                              · rw [if_pos c31] at H
                                have c31b0 : (((rd_T42 t106 x10_2).f6) == a2) = true := beq_iff_eq.mpr c31
                                have c31b1 : (((rd_T42 t106 x10_2).f6) != a2) = false := bne_eq_false_iff_eq.mpr c31
                                clear c31
                                by_cases c32 : x8_2.length < 17592186044416
                                · rw [if_pos c32] at H
                                  have LMc32 := Aside0.mk c32
                                  clear c32
                                  obtain ⟨y119, hy119⟩ : ∃ y_ : List Int, y_ = (x8_2 ++ [(rd_T42 t106 x10_2).f0]) := ⟨_, rfl⟩
                                  replace H : (pyxlaw13_ParamsLists.l0 kj14 l0 a1 a2 y113 y119 t106 (wrap64 (x10_2 + 1))) = some r := by first | (rw [hy119]; with_reducible exact H) | (have H2_ := (Option.bind_some _ _).symm.trans H; rw [hy119]; with_reducible exact H2_) | (have H2_ := (Option.bind_some _ _).symm.trans H; with_reducible exact H2_) | with_reducible exact H | (rw [hy119]; exact H) | exact H
                                  have Ny119 := Aside0.mk hy119
                                  clear hy119
                                  have H' := Aside0.mk H
                                  clear H
                                  have p112 : 0 ≤ (x10_2 : Int) := of_decide_eq_true (by first | (with_reducible assumption) | assumption)
                                  have q112 : x10_2 < (t106.length : Int) := of_decide_eq_true (by first | (with_reducible assumption) | assumption)
                                  obtain ⟨ad112, e112, hx112_0, hx112_1, hx112_2, hx112_3, hx112_4, hx112_5, hx112_6, hx112_7, hx112_8, hx112_9⟩ := at_T42 (Kd.R_reads' HO_9.out).2.2 x10_2 p112 q112
                                  cases e112
                                  replace p112 := eq_true p112
                                  replace q112 := eq_true q112
                                  go_wp2_with (first | ((with_reducible refine gate_builtin (b := .append) (xs := #[.tmp 38, .tmp 44]) rfl ?_); (try (refine gate_guard (by rfl) ?_; dsimp only)); at_builtin; refine Kd.R_append (Kd.int .i64) (w0 := w) w.heap.size rfl (.tmp 38) (.tmp 44) 45 3 (.int .i64 0) 8 rfl Tryd.underlying45 info3 rfl (by decide) (by omega) u7 x7_2 ((rd_T42 t106 x10_2).f0) [.int .i64 ((rd_T42 t106 x10_2).f0)] (fun k_ => some k_ ≠ (u8 : Value).ownBlock) (fun _ => False) rfl rfl ?aP (fun _ hk => hk.elim) ?aF ?aO ?aB ?aS ?aL ?_; (case aP => exact rfl); (case aB => exact (by repeat (first | (with_reducible first | exact HB.out | apply below_alloc | apply pw_below_drewN | apply below_drew1) | exact HB.out))); (case aF => exact (fun k_ hk => Kd.fresh' (Kd.R_lt (by (with_reducible repeat (first | apply Kd.R_alloc | apply Kd.R_drewN | apply Kd.R_drew)); exact HO_8.out)) k_ hk)); (case aO => exact (by (with_reducible repeat (first | apply Kd.R_alloc | apply Kd.R_drewN | apply Kd.R_drew)); exact HO_7.out)); (case aS => exact (below_size (by repeat (first | (with_reducible first | exact HB.out | apply below_alloc | apply pw_below_drewN | apply below_drew1) | exact HB.out)))); (case aL => have := LMc27.out; omega); intro v114 w33 ho hb hg hat; rw [← Ny113.out] at ho; have n0_ := Aside0.mk (Kd.R_after (ok := (fun _ => True)) (by (with_reducible repeat (first | apply Kd.R_alloc | apply Kd.R_drewN | apply Kd.R_drew)); exact Kd.R_mono HO_8.out (fun _ hk => ⟨trivial, hk⟩)) hg hat); have n1_ := Aside0.mk (Kd.R_over' (by (with_reducible repeat (first | apply Kd.R_alloc | apply Kd.R_drewN | apply Kd.R_drew)); exact HO_9.out) (Kd.R_typed (by (with_reducible repeat (first | apply Kd.R_alloc | apply Kd.R_drewN | apply Kd.R_drew)); exact HO_7.out)) (by decide) hg); have n2_ := Aside0.mk (hb); have n3_ := Aside0.mk (ho); clear HO_8; clear HO_9; clear HB; clear HO_7; have HO_8 := n0_; have HO_9 := n1_; have HB := n2_; have HO115 := n3_; clear n0_ n1_ n2_ n3_; clear ho hb hg hat; have p116 : 0 ≤ (x10_2 : Int) := of_decide_eq_true (by first | (with_reducible assumption) | assumption); have q116 : x10_2 < (t106.length : Int) := of_decide_eq_true (by first | (with_reducible assumption) | assumption); obtain ⟨ad116, e116, hx116_0, hx116_1, hx116_2, hx116_3, hx116_4, hx116_5, hx116_6, hx116_7, hx116_8, hx116_9⟩ := at_T42 (Kd.R_reads' HO_9.out).2.2 x10_2 p116 q116; obtain rfl : ad112 = ad116 := (by injection e116); replace p116 := eq_true p116; replace q116 := eq_true q116; have p117 : 0 ≤ (x10_2 : Int) := of_decide_eq_true (by first | (with_reducible assumption) | assumption); have q117 : x10_2 < (t106.length : Int) := of_decide_eq_true (by first | (with_reducible assumption) | assumption); obtain ⟨ad117, e117, hx117_0, hx117_1, hx117_2, hx117_3, hx117_4, hx117_5, hx117_6, hx117_7, hx117_8, hx117_9⟩ := at_T42 (Kd.R_reads' HO_9.out).2.2 x10_2 p117 q117; obtain rfl : ad112 = ad117 := (by injection e117); replace p117 := eq_true p117; replace q117 := eq_true q117; have p118 : 0 ≤ (x10_2 : Int) := of_decide_eq_true (by first | (with_reducible assumption) | assumption); have q118 : x10_2 < (t106.length : Int) := of_decide_eq_true (by first | (with_reducible assumption) | assumption); obtain ⟨ad118, e118, hx118_0, hx118_1, hx118_2, hx118_3, hx118_4, hx118_5, hx118_6, hx118_7, hx118_8, hx118_9⟩ := at_T42 (Kd.R_reads' HO_9.out).2.2 x10_2 p118 q118; obtain rfl : ad112 = ad118 := (by injection e118); replace p118 := eq_true p118; replace q118 := eq_true q118) | ((with_reducible refine gate_builtin (b := .append) (xs := #[.tmp 66, .tmp 72]) rfl ?_); (try (refine gate_guard (by rfl) ?_; dsimp only)); at_builtin; refine Kd.R_append (Kd.int .i64) (w0 := w) w.heap.size rfl (.tmp 66) (.tmp 72) 45 3 (.int .i64 0) 8 rfl Tryd.underlying45 info3 rfl (by decide) (by omega) u8 x8_2 ((rd_T42 t106 x10_2).f0) [.int .i64 ((rd_T42 t106 x10_2).f0)] (fun k_ => some k_ ≠ (v114 : Value).ownBlock) (fun _ => False) rfl rfl ?aP (fun _ hk => hk.elim) ?aF ?aO ?aB ?aS ?aL ?_; (case aP => exact rfl); (case aB => exact (by repeat (first | (with_reducible first | exact HB.out | apply below_alloc | apply pw_below_drewN | apply below_drew1) | exact HB.out))); (case aF => exact (fun k_ hk => Kd.fresh' (Kd.R_lt (by (with_reducible repeat (first | apply Kd.R_alloc | apply Kd.R_drewN | apply Kd.R_drew)); exact HO115.out)) k_ hk)); (case aO => exact (by (with_reducible repeat (first | apply Kd.R_alloc | apply Kd.R_drewN | apply Kd.R_drew)); exact Kd.R_mono HO_8.out (fun _ hk => hk.2))); (case aS => exact (below_size (by repeat (first | (with_reducible first | exact HB.out | apply below_alloc | apply pw_below_drewN | apply below_drew1) | exact HB.out)))); (case aL => have := LMc32.out; omega); intro v120 w34 ho hb hg hat; rw [← Ny119.out] at ho; have n0_ := Aside0.mk (Kd.R_over' (by (with_reducible repeat (first | apply Kd.R_alloc | apply Kd.R_drewN | apply Kd.R_drew)); exact HO_9.out) (Kd.R_typed (by (with_reducible repeat (first | apply Kd.R_alloc | apply Kd.R_drewN | apply Kd.R_drew)); exact HO_8.out)) (by decide) hg); have n1_ := Aside0.mk (Kd.R_after (ok := (fun _ => True)) (by (with_reducible repeat (first | apply Kd.R_alloc | apply Kd.R_drewN | apply Kd.R_drew)); exact Kd.R_mono HO115.out (fun _ hk => ⟨trivial, hk⟩)) hg hat); have n2_ := Aside0.mk (hb); have n3_ := Aside0.mk (ho); clear HO_9; clear HO115; clear HB; clear HO_8; have HO_9 := n0_; have HO115 := n1_; have HB := n2_; have HO121 := n3_; clear n0_ n1_ n2_ n3_; clear ho hb hg hat))
                                  go_roundg kj14
                                  case measure => have := HJ3.out; have := HK2.out; have := HJ14.out; omega
                                  case rel => exact ⟨(y113), (y119), (wrap64 (x10_2 + 1)), (by first | rfl | (simp; done) | (simp [*]; done)), H', ⟨by have := HJ3.out; have := HK2.out; have := HJ14.out; omega⟩, ⟨by (with_reducible repeat (first | apply Kd.R_alloc | apply Kd.R_drewN | apply Kd.R_drew)); exact Kd.R_mono HO115.out (fun _ hk => hk.2)⟩, ⟨by (with_reducible repeat (first | apply Kd.R_alloc | apply Kd.R_drewN | apply Kd.R_drew)); exact HO121.out⟩, ⟨by (with_reducible repeat (first | apply Kd.R_alloc | apply Kd.R_drewN | apply Kd.R_drew)); exact HO_9.out⟩, ⟨by repeat (first | (with_reducible first | exact HB.out | apply below_alloc | apply pw_below_drewN | apply below_drew1) | exact HB.out)⟩⟩
                                · rw [if_neg c32] at H
                                  exact absurd H (by simp)
                              · rw [if_neg c31] at H
                                have c31b0 : (((rd_T42 t106 x10_2).f6) == a2) = false := beq_eq_false_iff_ne.mpr c31
                                have c31b1 : (((rd_T42 t106 x10_2).f6) != a2) = true := bne_iff_ne.mpr c31
                                have H' := Aside0.mk H
                                clear H
                                have p112 : 0 ≤ (x10_2 : Int) := of_decide_eq_true (by first | (with_reducible assumption) | assumption)
                                have q112 : x10_2 < (t106.length : Int) := of_decide_eq_true (by first | (with_reducible assumption) | assumption)
                                obtain ⟨ad112, e112, hx112_0, hx112_1, hx112_2, hx112_3, hx112_4, hx112_5, hx112_6, hx112_7, hx112_8, hx112_9⟩ := at_T42 (Kd.R_reads' HO_9.out).2.2 x10_2 p112 q112
                                cases e112
                                replace p112 := eq_true p112
                                replace q112 := eq_true q112
                                go_wp2_with (first | ((with_reducible refine gate_builtin (b := .append) (xs := #[.tmp 38, .tmp 44]) rfl ?_); (try (refine gate_guard (by rfl) ?_; dsimp only)); at_builtin; refine Kd.R_append (Kd.int .i64) (w0 := w) w.heap.size rfl (.tmp 38) (.tmp 44) 45 3 (.int .i64 0) 8 rfl Tryd.underlying45 info3 rfl (by decide) (by omega) u7 x7_2 ((rd_T42 t106 x10_2).f0) [.int .i64 ((rd_T42 t106 x10_2).f0)] (fun k_ => some k_ ≠ (u8 : Value).ownBlock) (fun _ => False) rfl rfl ?aP (fun _ hk => hk.elim) ?aF ?aO ?aB ?aS ?aL ?_; (case aP => exact rfl); (case aB => exact (by repeat (first | (with_reducible first | exact HB.out | apply below_alloc | apply pw_below_drewN | apply below_drew1) | exact HB.out))); (case aF => exact (fun k_ hk => Kd.fresh' (Kd.R_lt (by (with_reducible repeat (first | apply Kd.R_alloc | apply Kd.R_drewN | apply Kd.R_drew)); exact HO_8.out)) k_ hk)); (case aO => exact (by (with_reducible repeat (first | apply Kd.R_alloc | apply Kd.R_drewN | apply Kd.R_drew)); exact HO_7.out)); (case aS => exact (below_size (by repeat (first | (with_reducible first | exact HB.out | apply below_alloc | apply pw_below_drewN | apply below_drew1) | exact HB.out)))); (case aL => have := LMc27.out; omega); intro v114 w35 ho hb hg hat; rw [← Ny113.out] at ho; have n0_ := Aside0.mk (Kd.R_after (ok := (fun _ => True)) (by (with_reducible repeat (first | apply Kd.R_alloc | apply Kd.R_drewN | apply Kd.R_drew)); exact Kd.R_mono HO_8.out (fun _ hk => ⟨trivial, hk⟩)) hg hat); have n1_ := Aside0.mk (Kd.R_over' (by (with_reducible repeat (first | apply Kd.R_alloc | apply Kd.R_drewN | apply Kd.R_drew)); exact HO_9.out) (Kd.R_typed (by (with_reducible repeat (first | apply Kd.R_alloc | apply Kd.R_drewN | apply Kd.R_drew)); exact HO_7.out)) (by decide) hg); have n2_ := Aside0.mk (hb); have n3_ := Aside0.mk (ho); clear HO_8; clear HO_9; clear HB; clear HO_7; have HO_8 := n0_; have HO_9 := n1_; have HB := n2_; have HO115 := n3_; clear n0_ n1_ n2_ n3_; clear ho hb hg hat; have p116 : 0 ≤ (x10_2 : Int) := of_decide_eq_true (by first | (with_reducible assumption) | assumption); have q116 : x10_2 < (t106.length : Int) := of_decide_eq_true (by first | (with_reducible assumption) | assumption); obtain ⟨ad116, e116, hx116_0, hx116_1, hx116_2, hx116_3, hx116_4, hx116_5, hx116_6, hx116_7, hx116_8, hx116_9⟩ := at_T42 (Kd.R_reads' HO_9.out).2.2 x10_2 p116 q116; obtain rfl : ad112 = ad116 := (by injection e116); replace p116 := eq_true p116; replace q116 := eq_true q116; have p117 : 0 ≤ (x10_2 : Int) := of_decide_eq_true (by first | (with_reducible assumption) | assumption); have q117 : x10_2 < (t106.length : Int) := of_decide_eq_true (by first | (with_reducible assumption) | assumption); obtain ⟨ad117, e117, hx117_0, hx117_1, hx117_2, hx117_3, hx117_4, hx117_5, hx117_6, hx117_7, hx117_8, hx117_9⟩ := at_T42 (Kd.R_reads' HO_9.out).2.2 x10_2 p117 q117; obtain rfl : ad112 = ad117 := (by injection e117); replace p117 := eq_true p117; replace q117 := eq_true q117))
                                go_roundg kj14
                                case measure => have := HJ3.out; have := HK2.out; have := HJ14.out; omega
                                case rel => exact ⟨(y113), (x8_2), (wrap64 (x10_2 + 1)), (by first | rfl | (simp; done) | (simp [*]; done)), H', ⟨by have := HJ3.out; have := HK2.out; have := HJ14.out; omega⟩, ⟨by (with_reducible repeat (first | apply Kd.R_alloc | apply Kd.R_drewN | apply Kd.R_drew)); exact HO115.out⟩, ⟨by (with_reducible repeat (first | apply Kd.R_alloc | apply Kd.R_drewN | apply Kd.R_drew)); exact Kd.R_mono HO_8.out (fun _ hk => hk.2)⟩, ⟨by (with_reducible repeat (first | apply Kd.R_alloc | apply Kd.R_drewN | apply Kd.R_drew)); exact HO_9.out⟩, ⟨by repeat (first | (with_reducible first | exact HB.out | apply below_alloc | apply pw_below_drewN | apply below_drew1) | exact HB.out)⟩⟩
                            · rw [if_neg c30] at H
                              have c30b0 : (((rd_T42 t106 x10_2).f1) == a1) = false := beq_eq_false_iff_ne.mpr c30
                              have c30b1 : (((rd_T42 t106 x10_2).f1) != a1) = true := bne_iff_ne.mpr c30
                              have H' := Aside0.mk H
                              clear H
                              have p112 : 0 ≤ (x10_2 : Int) := of_decide_eq_true (by first | (with_reducible assumption) | assumption)
                              have q112 : x10_2 < (t106.length : Int) := of_decide_eq_true (by first | (with_reducible assumption) | assumption)
                              obtain ⟨ad112, e112, hx112_0, hx112_1, hx112_2, hx112_3, hx112_4, hx112_5, hx112_6, hx112_7, hx112_8, hx112_9⟩ := at_T42 (Kd.R_reads' HO_9.out).2.2 x10_2 p112 q112
                              cases e112
                              replace p112 := eq_true p112
                              replace q112 := eq_true q112
                              go_wp2_with (first | ((with_reducible refine gate_builtin (b := .append) (xs := #[.tmp 38, .tmp 44]) rfl ?_); (try (refine gate_guard (by rfl) ?_; dsimp only)); at_builtin; refine Kd.R_append (Kd.int .i64) (w0 := w) w.heap.size rfl (.tmp 38) (.tmp 44) 45 3 (.int .i64 0) 8 rfl Tryd.underlying45 info3 rfl (by decide) (by omega) u7 x7_2 ((rd_T42 t106 x10_2).f0) [.int .i64 ((rd_T42 t106 x10_2).f0)] (fun k_ => some k_ ≠ (u8 : Value).ownBlock) (fun _ => False) rfl rfl ?aP (fun _ hk => hk.elim) ?aF ?aO ?aB ?aS ?aL ?_; (case aP => exact rfl); (case aB => exact (by repeat (first | (with_reducible first | exact HB.out | apply below_alloc | apply pw_below_drewN | apply below_drew1) | exact HB.out))); (case aF => exact (fun k_ hk => Kd.fresh' (Kd.R_lt (by (with_reducible repeat (first | apply Kd.R_alloc | apply Kd.R_drewN | apply Kd.R_drew)); exact HO_8.out)) k_ hk)); (case aO => exact (by (with_reducible repeat (first | apply Kd.R_alloc | apply Kd.R_drewN | apply Kd.R_drew)); exact HO_7.out)); (case aS => exact (below_size (by repeat (first | (with_reducible first | exact HB.out | apply below_alloc | apply pw_below_drewN | apply below_drew1) | exact HB.out)))); (case aL => have := LMc27.out; omega); intro v114 w36 ho hb hg hat; rw [← Ny113.out] at ho; have n0_ := Aside0.mk (Kd.R_after (ok := (fun _ => True)) (by (with_reducible repeat (first | apply Kd.R_alloc | apply Kd.R_drewN | apply Kd.R_drew)); exact Kd.R_mono HO_8.out (fun _ hk => ⟨trivial, hk⟩)) hg hat); have n1_ := Aside0.mk (Kd.R_over' (by (with_reducible repeat (first | apply Kd.R_alloc | apply Kd.R_drewN | apply Kd.R_drew)); exact HO_9.out) (Kd.R_typed (by (with_reducible repeat (first | apply Kd.R_alloc | apply Kd.R_drewN | apply Kd.R_drew)); exact HO_7.out)) (by decide) hg); have n2_ := Aside0.mk (hb); have n3_ := Aside0.mk (ho); clear HO_8; clear HO_9; clear HB; clear HO_7; have HO_8 := n0_; have HO_9 := n1_; have HB := n2_; have HO115 := n3_; clear n0_ n1_ n2_ n3_; clear ho hb hg hat; have p116 : 0 ≤ (x10_2 : Int) := of_decide_eq_true (by first | (with_reducible assumption) | assumption); have q116 : x10_2 < (t106.length : Int) := of_decide_eq_true (by first | (with_reducible assumption) | assumption); obtain ⟨ad116, e116, hx116_0, hx116_1, hx116_2, hx116_3, hx116_4, hx116_5, hx116_6, hx116_7, hx116_8, hx116_9⟩ := at_T42 (Kd.R_reads' HO_9.out).2.2 x10_2 p116 q116; obtain rfl : ad112 = ad116 := (by injection e116); replace p116 := eq_true p116; replace q116 := eq_true q116))
                              go_roundg kj14
                              case measure => have := HJ3.out; have := HK2.out; have := HJ14.out; omega
                              case rel => exact ⟨(y113), (x8_2), (wrap64 (x10_2 + 1)), (by first | rfl | (simp; done) | (simp [*]; done)), H', ⟨by have := HJ3.out; have := HK2.out; have := HJ14.out; omega⟩, ⟨by (with_reducible repeat (first | apply Kd.R_alloc | apply Kd.R_drewN | apply Kd.R_drew)); exact HO115.out⟩, ⟨by (with_reducible repeat (first | apply Kd.R_alloc | apply Kd.R_drewN | apply Kd.R_drew)); exact Kd.R_mono HO_8.out (fun _ hk => hk.2)⟩, ⟨by (with_reducible repeat (first | apply Kd.R_alloc | apply Kd.R_drewN | apply Kd.R_drew)); exact HO_9.out⟩, ⟨by repeat (first | (with_reducible first | exact HB.out | apply below_alloc | apply pw_below_drewN | apply below_drew1) | exact HB.out)⟩⟩
                        · rw [if_neg c27] at H
                          exact absurd H (by simp)
                      · rw [if_neg c26] at H
                        exact absurd H (by simp)
                    · rw [if_neg c25] at H
                      exact absurd H (by simp)
                  · replace c24 := Bool.eq_false_iff.mpr c24
                    subst c24
                    have H1 : (if a2 = 0 then (pyxlaw13_ParamsLists.l0 kj14 l0 a1 a2 x7_2 x8_2 t106 (wrap64 (x10_2 + 1))) else (if 0 ≤ x10_2 then (if x10_2 < (t106.length : Int) then (if ((rd_T42 t106 x10_2).f1) = a1 then (if ((rd_T42 t106 x10_2).f6) = a2 then (if x8_2.length < 17592186044416 then (pyxlaw13_ParamsLists.l0 kj14 l0 a1 a2 x7_2 (x8_2 ++ [(rd_T42 t106 x10_2).f0]) t106 (wrap64 (x10_2 + 1))) else (none)) else (pyxlaw13_ParamsLists.l0 kj14 l0 a1 a2 x7_2 x8_2 t106 (wrap64 (x10_2 + 1)))) else (pyxlaw13_ParamsLists.l0 kj14 l0 a1 a2 x7_2 x8_2 t106 (wrap64 (x10_2 + 1)))) else (none)) else (none))) = some r := by rw [if_neg (show ¬ (false = true) by decide)] at H; exact H
                    clear H
                    have H := H1
                    clear H1
                    by_cases c37 : a2 = 0
                    · rw [if_pos c37] at H
                      have c37b0 : (a2 == 0) = true := beq_iff_eq.mpr c37
                      have c37b1 : (a2 != 0) = false := bne_eq_false_iff_eq.mpr c37
                      clear c37
                      have H' := Aside0.mk H
                      clear H
                      go_wp2
                      go_roundg kj14
                      case measure => have := HJ3.out; have := HK2.out; have := HJ14.out; omega
                      case rel => exact ⟨(x7_2), (x8_2), (wrap64 (x10_2 + 1)), (by first | rfl | (simp; done) | (simp [*]; done)), H', ⟨by have := HJ3.out; have := HK2.out; have := HJ14.out; omega⟩, ⟨by (with_reducible repeat (first | apply Kd.R_alloc | apply Kd.R_drewN | apply Kd.R_drew)); exact HO_7.out⟩, ⟨by (with_reducible repeat (first | apply Kd.R_alloc | apply Kd.R_drewN | apply Kd.R_drew)); exact HO_8.out⟩, ⟨by (with_reducible repeat (first | apply Kd.R_alloc | apply Kd.R_drewN | apply Kd.R_drew)); exact HO_9.out⟩, ⟨by repeat (first | (with_reducible first | exact HB.out | apply below_alloc | apply pw_below_drewN | apply below_drew1) | exact HB.out)⟩⟩
                    · rw [if_neg c37] at H
                      have c37b0 : (a2 == 0) = false := beq_eq_false_iff_ne.mpr c37
                      have c37b1 : (a2 != 0) = true := bne_iff_ne.mpr c37
                      by_cases c38 : 0 ≤ x10_2
                      · rw [if_pos c38] at H
                        have c38b0 : decide (0 ≤ x10_2) = true := decide_eq_true c38
                        clear c38
                        by_cases c39 : x10_2 < (t106.length : Int)
                        · rw [if_pos c39] at H
                          have c39b0 : decide (x10_2 < (t106.length : Int)) = true := decide_eq_true c39
                          clear c39
                          by_cases c40 : ((rd_T42 t106 x10_2).f1) = a1
                          · rw [if_pos c40] at H
                            have c40b0 : (((rd_T42 t106 x10_2).f1) == a1) = true := beq_iff_eq.mpr c40
                            have c40b1 : (((rd_T42 t106 x10_2).f1) != a1) = false := bne_eq_false_iff_eq.mpr c40
                            clear c40
                            by_cases c41 : ((rd_T42 t106 x10_2).f6) = a2
                            · rw [if_pos c41] at H
                              have c41b0 : (((rd_T42 t106 x10_2).f6) == a2) = true := beq_iff_eq.mpr c41
                              have c41b1 : (((rd_T42 t106 x10_2).f6) != a2) = false := bne_eq_false_iff_eq.mpr c41
                              clear c41
                              by_cases c42 : x8_2.length < 17592186044416
                              · rw [if_pos c42] at H
                                have LMc42 := Aside0.mk c42
                                clear c42
                                obtain ⟨y125, hy125⟩ : ∃ y_ : List Int, y_ = (x8_2 ++ [(rd_T42 t106 x10_2).f0]) := ⟨_, rfl⟩
                                replace H : (pyxlaw13_ParamsLists.l0 kj14 l0 a1 a2 x7_2 y125 t106 (wrap64 (x10_2 + 1))) = some r := by first | (rw [hy125]; with_reducible exact H) | (have H2_ := (Option.bind_some _ _).symm.trans H; rw [hy125]; with_reducible exact H2_) | (have H2_ := (Option.bind_some _ _).symm.trans H; with_reducible exact H2_) | with_reducible exact H | (rw [hy125]; exact H) | exact H
                                have Ny125 := Aside0.mk hy125
                                clear hy125
                                have H' := Aside0.mk H
                                clear H
                                have p122 : 0 ≤ (x10_2 : Int) := of_decide_eq_true (by first | (with_reducible assumption) | assumption)
                                have q122 : x10_2 < (t106.length : Int) := of_decide_eq_true (by first | (with_reducible assumption) | assumption)
                                obtain ⟨ad122, e122, hx122_0, hx122_1, hx122_2, hx122_3, hx122_4, hx122_5, hx122_6, hx122_7, hx122_8, hx122_9⟩ := at_T42 (Kd.R_reads' HO_9.out).2.2 x10_2 p122 q122
                                cases e122
                                replace p122 := eq_true p122
                                replace q122 := eq_true q122
                                have p123 : 0 ≤ (x10_2 : Int) := of_decide_eq_true (by first | (with_reducible assumption) | assumption)
                                have q123 : x10_2 < (t106.length : Int) := of_decide_eq_true (by first | (with_reducible assumption) | assumption)
                                obtain ⟨ad123, e123, hx123_0, hx123_1, hx123_2, hx123_3, hx123_4, hx123_5, hx123_6, hx123_7, hx123_8, hx123_9⟩ := at_T42 (Kd.R_reads' HO_9.out).2.2 x10_2 p123 q123
                                obtain rfl : ad122 = ad123 := (by injection e123)
                                replace p123 := eq_true p123
                                replace q123 := eq_true q123
                                have p124 : 0 ≤ (x10_2 : Int) := of_decide_eq_true (by first | (with_reducible assumption) | assumption)
                                have q124 : x10_2 < (t106.length : Int) := of_decide_eq_true (by first | (with_reducible assumption) | assumption)
                                obtain ⟨ad124, e124, hx124_0, hx124_1, hx124_2, hx124_3, hx124_4, hx124_5, hx124_6, hx124_7, hx124_8, hx124_9⟩ := at_T42 (Kd.R_reads' HO_9.out).2.2 x10_2 p124 q124
                                obtain rfl : ad122 = ad124 := (by injection e124)
                                replace p124 := eq_true p124
                                replace q124 := eq_true q124
                                go_wp2_with (first | ((with_reducible refine gate_builtin (b := .append) (xs := #[.tmp 66, .tmp 72]) rfl ?_); (try (refine gate_guard (by rfl) ?_; dsimp only)); at_builtin; refine Kd.R_append (Kd.int .i64) (w0 := w) w.heap.size rfl (.tmp 66) (.tmp 72) 45 3 (.int .i64 0) 8 rfl Tryd.underlying45 info3 rfl (by decide) (by omega) u8 x8_2 ((rd_T42 t106 x10_2).f0) [.int .i64 ((rd_T42 t106 x10_2).f0)] (fun k_ => some k_ ≠ (u7 : Value).ownBlock) (fun _ => False) rfl rfl ?aP (fun _ hk => hk.elim) ?aF ?aO ?aB ?aS ?aL ?_; (case aP => exact rfl); (case aB => exact (by repeat (first | (with_reducible first | exact HB.out | apply below_alloc | apply pw_below_drewN | apply below_drew1) | exact HB.out))); (case aF => exact (fun k_ hk => Kd.fresh' (Kd.R_lt (by (with_reducible repeat (first | apply Kd.R_alloc | apply Kd.R_drewN | apply Kd.R_drew)); exact HO_7.out)) k_ hk)); (case aO => exact (by (with_reducible repeat (first | apply Kd.R_alloc | apply Kd.R_drewN | apply Kd.R_drew)); exact HO_8.out)); (case aS => exact (below_size (by repeat (first | (with_reducible first | exact HB.out | apply below_alloc | apply pw_below_drewN | apply below_drew1) | exact HB.out)))); (case aL => have := LMc42.out; omega); intro v126 w43 ho hb hg hat; rw [← Ny125.out] at ho; have n0_ := Aside0.mk (Kd.R_after (ok := (fun _ => True)) (by (with_reducible repeat (first | apply Kd.R_alloc | apply Kd.R_drewN | apply Kd.R_drew)); exact Kd.R_mono HO_7.out (fun _ hk => ⟨trivial, hk⟩)) hg hat); have n1_ := Aside0.mk (Kd.R_over' (by (with_reducible repeat (first | apply Kd.R_alloc | apply Kd.R_drewN | apply Kd.R_drew)); exact HO_9.out) (Kd.R_typed (by (with_reducible repeat (first | apply Kd.R_alloc | apply Kd.R_drewN | apply Kd.R_drew)); exact HO_8.out)) (by decide) hg); have n2_ := Aside0.mk (hb); have n3_ := Aside0.mk (ho); clear HO_7; clear HO_9; clear HB; clear HO_8; have HO_7 := n0_; have HO_9 := n1_; have HB := n2_; have HO127 := n3_; clear n0_ n1_ n2_ n3_; clear ho hb hg hat))
                                go_roundg kj14
                                case measure => have := HJ3.out; have := HK2.out; have := HJ14.out; omega
                                case rel => exact ⟨(x7_2), (y125), (wrap64 (x10_2 + 1)), (by first | rfl | (simp; done) | (simp [*]; done)), H', ⟨by have := HJ3.out; have := HK2.out; have := HJ14.out; omega⟩, ⟨by (with_reducible repeat (first | apply Kd.R_alloc | apply Kd.R_drewN | apply Kd.R_drew)); exact Kd.R_mono HO_7.out (fun _ hk => hk.2)⟩, ⟨by (with_reducible repeat (first | apply Kd.R_alloc | apply Kd.R_drewN | apply Kd.R_drew)); exact HO127.out⟩, ⟨by (with_reducible repeat (first | apply Kd.R_alloc | apply Kd.R_drewN | apply Kd.R_drew)); exact HO_9.out⟩, ⟨by repeat (first | (with_reducible first | exact HB.out | apply below_alloc | apply pw_below_drewN | apply below_drew1) | exact HB.out)⟩⟩
                              · rw [if_neg c42] at H
                                exact absurd H (by simp)
                            · rw [if_neg c41] at H
                              have c41b0 : (((rd_T42 t106 x10_2).f6) == a2) = false := beq_eq_false_iff_ne.mpr c41
                              have c41b1 : (((rd_T42 t106 x10_2).f6) != a2) = true := bne_iff_ne.mpr c41
                              have H' := Aside0.mk H
                              clear H
                              have p122 : 0 ≤ (x10_2 : Int) := of_decide_eq_true (by first | (with_reducible assumption) | assumption)
                              have q122 : x10_2 < (t106.length : Int) := of_decide_eq_true (by first | (with_reducible assumption) | assumption)
                              obtain ⟨ad122, e122, hx122_0, hx122_1, hx122_2, hx122_3, hx122_4, hx122_5, hx122_6, hx122_7, hx122_8, hx122_9⟩ := at_T42 (Kd.R_reads' HO_9.out).2.2 x10_2 p122 q122
                              cases e122
                              replace p122 := eq_true p122
                              replace q122 := eq_true q122
                              have p123 : 0 ≤ (x10_2 : Int) := of_decide_eq_true (by first | (with_reducible assumption) | assumption)
                              have q123 : x10_2 < (t106.length : Int) := of_decide_eq_true (by first | (with_reducible assumption) | assumption)
                              obtain ⟨ad123, e123, hx123_0, hx123_1, hx123_2, hx123_3, hx123_4, hx123_5, hx123_6, hx123_7, hx123_8, hx123_9⟩ := at_T42 (Kd.R_reads' HO_9.out).2.2 x10_2 p123 q123
                              obtain rfl : ad122 = ad123 := (by injection e123)
                              replace p123 := eq_true p123
                              replace q123 := eq_true q123
                              go_wp2
                              go_roundg kj14
                              case measure => have := HJ3.out; have := HK2.out; have := HJ14.out; omega
                              case rel => exact ⟨(x7_2), (x8_2), (wrap64 (x10_2 + 1)), (by first | rfl | (simp; done) | (simp [*]; done)), H', ⟨by have := HJ3.out; have := HK2.out; have := HJ14.out; omega⟩, ⟨by (with_reducible repeat (first | apply Kd.R_alloc | apply Kd.R_drewN | apply Kd.R_drew)); exact HO_7.out⟩, ⟨by (with_reducible repeat (first | apply Kd.R_alloc | apply Kd.R_drewN | apply Kd.R_drew)); exact HO_8.out⟩, ⟨by (with_reducible repeat (first | apply Kd.R_alloc | apply Kd.R_drewN | apply Kd.R_drew)); exact HO_9.out⟩, ⟨by repeat (first | (with_reducible first | exact HB.out | apply below_alloc | apply pw_below_drewN | apply below_drew1) | exact HB.out)⟩⟩
                          · rw [if_neg c40] at H
                            have c40b0 : (((rd_T42 t106 x10_2).f1) == a1) = false := beq_eq_false_iff_ne.mpr c40
                            have c40b1 : (((rd_T42 t106 x10_2).f1) != a1) = true := bne_iff_ne.mpr c40
                            have H' := Aside0.mk H
                            clear H
                            have p122 : 0 ≤ (x10_2 : Int) := of_decide_eq_true (by first | (with_reducible assumption) | assumption)
                            have q122 : x10_2 < (t106.length : Int) := of_decide_eq_true (by first | (with_reducible assumption) | assumption)
                            obtain ⟨ad122, e122, hx122_0, hx122_1, hx122_2, hx122_3, hx122_4, hx122_5, hx122_6, hx122_7, hx122_8, hx122_9⟩ := at_T42 (Kd.R_reads' HO_9.out).2.2 x10_2 p122 q122
                            cases e122
                            replace p122 := eq_true p122
                            replace q122 := eq_true q122
                            go_wp2
                            go_roundg kj14
                            case measure => have := HJ3.out; have := HK2.out; have := HJ14.out; omega
                            case rel => exact ⟨(x7_2), (x8_2), (wrap64 (x10_2 + 1)), (by first | rfl | (simp; done) | (simp [*]; done)), H', ⟨by have := HJ3.out; have := HK2.out; have := HJ14.out; omega⟩, ⟨by (with_reducible repeat (first | apply Kd.R_alloc | apply Kd.R_drewN | apply Kd.R_drew)); exact HO_7.out⟩, ⟨by (with_reducible repeat (first | apply Kd.R_alloc | apply Kd.R_drewN | apply Kd.R_drew)); exact HO_8.out⟩, ⟨by (with_reducible repeat (first | apply Kd.R_alloc | apply Kd.R_drewN | apply Kd.R_drew)); exact HO_9.out⟩, ⟨by repeat (first | (with_reducible first | exact HB.out | apply below_alloc | apply pw_below_drewN | apply below_drew1) | exact HB.out)⟩⟩
                        · rw [if_neg c39] at H
                          exact absurd H (by simp)
                      · rw [if_neg c38] at H
                        exact absurd H (by simp)
            · rw [if_neg c14] at H
              have c14b0 : decide (x10_2 < (t106.length : Int)) = false := decide_eq_false c14
              clear c14
              replace H := Option.bind_eq_some_iff.mp H
              obtain ⟨t128, A440, H⟩ := H
              replace H : ((slices_Equal_int_int.f t128 x7_2).bind fun t131 => (if t131 = true then ((params_BySize.f a1 a2).bind fun t132 => ((slices_Equal_int_int.f t132 x8_2).bind fun t135 => (some t135))) else (none))) = some r := H
              have A44 := Aside0.mk A440
              clear A440
              replace H := Option.bind_eq_some_iff.mp H
              obtain ⟨t131, A450, H⟩ := H
              replace H : (if t131 = true then ((params_BySize.f a1 a2).bind fun t132 => ((slices_Equal_int_int.f t132 x8_2).bind fun t135 => (some t135))) else (none)) = some r := H
              have A45 := Aside0.mk A450
              clear A450
              by_cases c46 : t131 = true
              · subst c46
                have H1 : ((params_BySize.f a1 a2).bind fun t132 => ((slices_Equal_int_int.f t132 x8_2).bind fun t135 => (some t135))) = some r := by rw [if_pos rfl] at H; exact H
                clear H
                have H := H1
                clear H1
                replace H := Option.bind_eq_some_iff.mp H
                obtain ⟨t132, A470, H⟩ := H
                replace H : ((slices_Equal_int_int.f t132 x8_2).bind fun t135 => (some t135)) = some r := H
                have A47 := Aside0.mk A470
                clear A470
                replace H := Option.bind_eq_some_iff.mp H
                obtain ⟨t135, A480, H⟩ := H
                replace H : (some t135) = some r := H
                have A48 := Aside0.mk A480
                clear A480
                obtain rfl := Option.some.inj H
                obtain ⟨Ao49, co49, eo49⟩ := Kd.R_slice HO_9.out
                subst eo49
                go_wp2_with (first | ((with_reducible refine gate_callee (f := 30) rfl ?_); refine goesL_ (some 75) rfl rfl Tryd.func30 (by kernel_rfl) rfl #[.slice A0 l0.length c0] rfl (by (try simp only [List.map_toArray, List.map_cons, List.map_nil]); first | done | rfl | (simp only [List.length_drop, List.length_take]; rfl)) ?_; (with_reducible refine (params_ByOID.calls _ _ l0 t128 _ ?side1 ?side2 ?side3 A44.out).mono ?_); (case side1 => first | exact HLd | (exact LaidOk.below HLd (by repeat (first | (with_reducible first | exact HB.out | apply below_alloc | apply pw_below_drewN | apply below_drew1) | exact HB.out))) | (repeat (first | exact HLd | apply LaidOk.drewN | apply LaidOk.drew | apply LaidOk.alloc))); (case side2 => repeat (first | exact (Kd.C_below HR0.out HB.out) | (with_reducible refine Kd.C_alloc ?_ _) | (with_reducible refine Kd.C_drewN ?_ _) | (with_reducible refine Kd.C_drew ?_))); (case side3 => exact HC0.out); rintro e w50 ⟨v129, rfl, ho0, hb⟩; refine ⟨_, rfl, ?_⟩; have n0_ := Aside0.mk (Kd.R_elder' (by (with_reducible repeat (first | apply Kd.R_alloc | apply Kd.R_drewN | apply Kd.R_drew)); exact HO_7.out) (Kd.R_base ho0) hb); have n1_ := Aside0.mk (Kd.R_elder' (by (with_reducible repeat (first | apply Kd.R_alloc | apply Kd.R_drewN | apply Kd.R_drew)); exact HO_8.out) (Kd.R_base ho0) hb); have n2_ := Aside0.mk (Kd.R_below (by (with_reducible repeat (first | apply Kd.R_alloc | apply Kd.R_drewN | apply Kd.R_drew)); exact HO_9.out) hb); have n3_ := Aside0.mk (Kd.R_lower (Kd.R_new' (Kd.R_new' ho0 (Kd.R_lt (by (with_reducible repeat (first | apply Kd.R_alloc | apply Kd.R_drewN | apply Kd.R_drew)); exact HO_7.out))) (Kd.R_lt (by (with_reducible repeat (first | apply Kd.R_alloc | apply Kd.R_drewN | apply Kd.R_drew)); exact HO_8.out))) (below_size (by repeat (first | (with_reducible first | exact HB.out | apply below_alloc | apply pw_below_drewN | apply below_drew1) | exact HB.out)))); have n4_ := Aside0.mk (below_step (by repeat (first | (with_reducible first | exact HB.out | apply below_alloc | apply pw_below_drewN | apply below_drew1) | exact HB.out)) hb); clear HO_7; clear HO_8; clear HO_9; clear HB; have HO_7 := n0_; have HO_8 := n1_; have HO_9 := n2_; have HO130 := n3_; have HB := n4_; clear n0_ n1_ n2_ n3_ n4_; (try clear hb); (try clear hb2); (try clear hk); (try clear hi); (try clear ho0); obtain ⟨Ao51, co51, eo51⟩ := Kd.R_slice HO130.out; subst eo51; obtain ⟨Ao52, co52, eo52⟩ := Kd.R_slice HO_7.out; subst eo52) | ((with_reducible refine gate_callee (f := 29) rfl ?_); refine goesL_ (some 77) rfl rfl Tryd.func29 (by kernel_rfl) rfl #[.slice Ao51 t128.length co51, .slice Ao52 x7_2.length co52] rfl (by (try simp only [List.map_toArray, List.map_cons, List.map_nil]); first | done | rfl | (simp only [List.length_drop, List.length_take]; rfl)) ?_; (with_reducible refine (slices_Equal_int_int.calls _ _ t128 _ _ x7_2 true _ ?side1 ?side2 ?side3 ?side4 A45.out).mono ?_); (case side1 => repeat (first | exact (Kd.R_reads' HO130.out).2.2 | (with_reducible refine Kd.C_alloc ?_ _) | (with_reducible refine Kd.C_drewN ?_ _) | (with_reducible refine Kd.C_drew ?_))); (case side2 => exact (Kd.R_reads' HO130.out).2.1); (case side3 => repeat (first | exact (Kd.R_reads' HO_7.out).2.2 | (with_reducible refine Kd.C_alloc ?_ _) | (with_reducible refine Kd.C_drewN ?_ _) | (with_reducible refine Kd.C_drew ?_))); (case side4 => exact (Kd.R_reads' HO_7.out).2.1); rintro e w' ⟨rfl, ⟨nd, rfl⟩⟩; refine ⟨_, rfl, ?_⟩) | (go_at_call 31; (with_reducible refine (params_BySize.calls a1 a2 t132 _ ?side1 A47.out).mono ?_); (case side1 => first | exact HLd | (exact LaidOk.below HLd (by repeat (first | (with_reducible first | exact HB.out | apply below_alloc | apply pw_below_drewN | apply below_drew1) | exact HB.out))) | (repeat (first | exact HLd | apply LaidOk.drewN | apply LaidOk.drew | apply LaidOk.alloc))); rintro e w53 ⟨v133, rfl, ho0, hb⟩; have n0_ := Aside0.mk (Kd.R_elder' (by (with_reducible repeat (first | apply Kd.R_alloc | apply Kd.R_drewN | apply Kd.R_drew)); exact HO_7.out) (Kd.R_base ho0) hb); have n1_ := Aside0.mk (Kd.R_elder' (by (with_reducible repeat (first | apply Kd.R_alloc | apply Kd.R_drewN | apply Kd.R_drew)); exact HO_8.out) (Kd.R_base ho0) hb); have n2_ := Aside0.mk (Kd.R_below (by (with_reducible repeat (first | apply Kd.R_alloc | apply Kd.R_drewN | apply Kd.R_drew)); exact HO_9.out) hb); have n3_ := Aside0.mk (Kd.R_elder' (by (with_reducible repeat (first | apply Kd.R_alloc | apply Kd.R_drewN | apply Kd.R_drew)); exact HO130.out) (Kd.R_base ho0) hb); have n4_ := Aside0.mk (Kd.R_lower (Kd.R_new' (Kd.R_new' (Kd.R_new' ho0 (Kd.R_lt (by (with_reducible repeat (first | apply Kd.R_alloc | apply Kd.R_drewN | apply Kd.R_drew)); exact HO_7.out))) (Kd.R_lt (by (with_reducible repeat (first | apply Kd.R_alloc | apply Kd.R_drewN | apply Kd.R_drew)); exact HO_8.out))) (Kd.R_lt (by (with_reducible repeat (first | apply Kd.R_alloc | apply Kd.R_drewN | apply Kd.R_drew)); exact HO130.out))) (below_size (by repeat (first | (with_reducible first | exact HB.out | apply below_alloc | apply pw_below_drewN | apply below_drew1) | exact HB.out)))); have n5_ := Aside0.mk (below_step (by repeat (first | (with_reducible first | exact HB.out | apply below_alloc | apply pw_below_drewN | apply below_drew1) | exact HB.out)) hb); clear HO_7; clear HO_8; clear HO_9; clear HO130; clear HB; have HO_7 := n0_; have HO_8 := n1_; have HO_9 := n2_; have HO130 := n3_; have HO134 := n4_; have HB := n5_; clear n0_ n1_ n2_ n3_ n4_ n5_; (try clear hb); (try clear hb2); (try clear hk); (try clear hi); (try clear ho0); obtain ⟨Ao54, co54, eo54⟩ := Kd.R_slice HO134.out; subst eo54; obtain ⟨Ao55, co55, eo55⟩ := Kd.R_slice HO_8.out; subst eo55) | (go_at_call 29; (with_reducible refine (slices_Equal_int_int.calls _ _ t132 _ _ x8_2 t135 _ ?side1 ?side2 ?side3 ?side4 A48.out).mono ?_); (case side1 => repeat (first | exact (Kd.R_reads' HO134.out).2.2 | (with_reducible refine Kd.C_alloc ?_ _) | (with_reducible refine Kd.C_drewN ?_ _) | (with_reducible refine Kd.C_drew ?_))); (case side2 => exact (Kd.R_reads' HO134.out).2.1); (case side3 => repeat (first | exact (Kd.R_reads' HO_8.out).2.2 | (with_reducible refine Kd.C_alloc ?_ _) | (with_reducible refine Kd.C_drewN ?_ _) | (with_reducible refine Kd.C_drew ?_))); (case side4 => exact (Kd.R_reads' HO_8.out).2.1); rintro e w' ⟨rfl, ⟨nd, rfl⟩⟩))
                go_ret
                exact ⟨by first | rfl | (simp [errW_none, errW_some] <;> rfl) | (simp [*, errW_none, errW_some] <;> rfl), by repeat (first | (with_reducible first | exact HB.out | apply below_alloc | apply pw_below_drewN | apply below_drew1) | exact HB.out)⟩
              · replace c46 := Bool.eq_false_iff.mpr c46
                subst c46
                have H1 : (none) = some r := by rw [if_neg (show ¬ (false = true) by decide)] at H; exact H
                clear H
                have H := H1
                clear H1
                exact absurd H (by simp)

/-- THE ONE PURE STATEMENT of pyxlaw13_ParamsLists: yours. -/
def pyxlaw13_ParamsLists.Pure : Prop := ∀ (l0 : List Int) (a1 : Int) (a2 : Int), l0.length ≤ maxLen → l0.length * 4 ≤ 140737488351232 → (∀ x ∈ l0, (Lit.int .u32 x).wf = true) → (Lit.int .i64 a1).wf = true → (Lit.int .i64 a2).wf = true → ∃ k, pyxlaw13_ParamsLists.f k l0 a1 a2 = some true
theorem pyxlaw13_ParamsLists.walk (P : pyxlaw13_ParamsLists.Pure) (a0 : Option Addr) (len0 cap0 : Nat) (z0 : List Int) (a1 : Int) (a2 : Int) (w : World) (HLd : LaidOk w) (w0 : (a0 = none ∧ len0 = 0 ∧ cap0 = 0 ∧ z0 = []) ∨ ∃ x, a0 = some x ∧ len0 ≤ cap0 ∧ cap0 ≤ maxLen ∧ z0.length = cap0 ∧ (∀ i, i < z0.length → w.cell? (x.add i) = some (.int .u32 (z0.getD i 0))) ∧ ∀ n ∈ z0, (Lit.int .u32 n).wf = true) (y0 : len0 * 4 ≤ 140737488351232) (w1 : (Lit.int .i64 a1).wf = true) (w2 : (Lit.int .i64 a2).wf = true) :
    Calls Tryd.prog 8 #[.slice a0 len0 cap0, .int .i64 a1, .int .i64 a2] w fun e w' => e = .returned (.bool true) ∧ Below w.heap.size w w' := by
  obtain ⟨l0, rfl, hr0, hm0, hw0, hc0⟩ := ReadsInt.ofRowC w0
  obtain ⟨k, h⟩ := P l0 a1 a2 hm0 y0 hw0 w1 w2
  refine (pyxlaw13_ParamsLists.calls k _ _ l0 a1 a2 true w HLd (Kd.C_of_reads (d := (0 : Int)) (h1 := fun _ => rfl) hr0) hc0 h).mono ?_
  rintro e w' ⟨rfl, hd⟩
  exact ⟨rfl, hd⟩

end Go.Proofs.YtjoncjnmhhimhaaDoor.PLL
end

section
/- ParamsLists, in plain numbers: the loop over the table gathers what ByOID and BySize give. -/
namespace Go.Proofs.YtjoncjnmhhimhaaDoor.Hand
set_option linter.unusedVariables false
set_option linter.unusedSimpArgs false
open Go.RowKit Go.Proofs.YtjoncjnmhhimhaaDoorW.PrintWords Go.Proofs.YtjoncjnmhhimhaaDoorW.PrintLast Go.Proofs.YtjoncjnmhhimhaaDoorW.PrintMore
open Go.Proofs.YtjoncjnmhhimhaaDoor.Oid

theorem text_inj' {l m : List Int} (hl : validB l = true) (hlp : ∀ x ∈ l, 0 ≤ x) (hm : validB m = true) (hmp : ∀ x ∈ m, 0 ≤ x) (h : textL l = textL m) : l = m := by
  have := refParse_good (s := textL l) (l := l) ⟨hl, hlp, rfl⟩
  rw [h, refParse_good (s := textL m) (l := m) ⟨hm, hmp, rfl⟩] at this
  simpa using this.symm
def refTab : List PLL.S42 := PLL.pyxref13_Table.f.getD []
def oidOf (a : Int) : List Int := (rowOf a).2.2.2.2.2.2.2.1
theorem refTab_eq : PLL.pyxref13_Table.f = some refTab := by kernel_rfl
theorem refTab_len : refTab.length = 25 := by kernel_rfl
theorem tab_facts : ∀ m : Nat, m < 25 → ((PLL.rd_T42 refTab (m : Int)).f0 = (m : Int) + 1 ∧ validB (oidOf ((m : Int) + 1)) = true ∧ ((oidOf ((m : Int) + 1)).all fun x => decide (0 ≤ x)) = true ∧ (PLL.rd_T42 refTab (m : Int)).f7.toList = textL (oidOf ((m : Int) + 1)) ∧ (PLL.rd_T42 refTab (m : Int)).f1 = (rowOf ((m : Int) + 1)).2.1 ∧ (PLL.rd_T42 refTab (m : Int)).f6 = (rowOf ((m : Int) + 1)).2.2.2.2.2.2.1) := by decide +kernel

theorem lists_j2 (x0 : List Int) (x1 x2 : Int) (X7 X8 : List Int) (i : Nat) (b : Bool) (k : Nat) (hi : i < 25) (h7 : X7.length ≤ i) (h8 : X8.length ≤ i) :
    PLL.pyxlaw13_ParamsLists.j2 (k + 1) x0 x1 x2 X7 X8 refTab (i : Int) b = PLL.pyxlaw13_ParamsLists.l0 k x0 x1 x2 (X7 ++ (if b = true then [(i : Int) + 1] else [])) (X8 ++ (if pSize x1 x2 ((i : Int) + 1) = true then [(i : Int) + 1] else [])) refTab ((i : Int) + 1) := by
  obtain ⟨f0, _, _, _, f1, f6⟩ := tab_facts i hi
  have hl := refTab_len
  have hw : wrap64 ((i : Int) + 1) = (i : Int) + 1 := by unfold wrap64; omega
  unfold pSize
  rw [← f1, ← f6]
  rw [PLL.pyxlaw13_ParamsLists.j2]
  have g1 : (0 : Int) ≤ (i : Int) := by omega
  have g2 : (i : Int) < (refTab.length : Int) := by omega
  have g3 : X7.length < 17592186044416 := by omega
  have g4 : X8.length < 17592186044416 := by omega
  rw [if_pos g1, if_pos g2, if_pos g3, if_pos g4, if_pos g1, if_pos g2, hw, f0]
  simp only [Option.bind_some]
  by_cases c2 : x2 = 0
  · subst c2
    cases b <;> simp
  · have e2 : (x2 != 0) = true := by simpa using c2
    rw [e2, if_neg c2, if_neg c2]
    by_cases c1 : (PLL.rd_T42 refTab (i : Int)).f1 = x1
    · by_cases c6 : (PLL.rd_T42 refTab (i : Int)).f6 = x2
      · rw [if_pos c1, if_pos c6, if_pos c1, if_pos c6]
        cases b <;> simp [c1, c6] <;> (try (intro h; omega))
      · rw [if_pos c1, if_neg c6, if_pos c1, if_neg c6]
        cases b <;> simp [c1, c6] <;> (try (intro h; omega))
    · rw [if_neg c1, if_neg c1]
      cases b <;> simp [c1]
theorem lists_loop (x0 : List Int) (x1 x2 : Int) (hp : (x0.all fun x => decide (0 ≤ x)) = true) : ∀ (d k i : Nat), i + d = 25 → 2 * d < k →
    PLL.pyxlaw13_ParamsLists.l0 k x0 x1 x2 (lst (pOid x0) i) (lst (pSize x1 x2) i) refTab (i : Int) = some true := by
  have hl := refTab_len
  intro d
  induction d with
  | zero =>
    intro k i h1 h2
    obtain ⟨k, rfl⟩ : ∃ m, k = m + 1 := ⟨k - 1, by omega⟩
    obtain rfl : i = 25 := by omega
    rw [PLL.pyxlaw13_ParamsLists.l0, if_neg (by omega)]
    unfold params_ByOID.f params_BySize.f slices_Equal_int_int.f
    simp
  | succ d ih =>
    intro k i h1 h2
    obtain ⟨k, rfl⟩ : ∃ m, k = m + 1 + 1 := ⟨k - 2, by omega⟩
    have hi : i < 25 := by omega
    obtain ⟨_, hv, hpo, f7, _, _⟩ := tab_facts i hi
    have key : PLL.pyxlaw13_ParamsLists.l0 (k + 1 + 1) x0 x1 x2 (lst (pOid x0) i) (lst (pSize x1 x2) i) refTab (i : Int) = PLL.pyxlaw13_ParamsLists.j2 (k + 1) x0 x1 x2 (lst (pOid x0) i) (lst (pSize x1 x2) i) refTab (i : Int) (pOid x0 ((i : Int) + 1)) := by
      rw [PLL.pyxlaw13_ParamsLists.l0, if_pos (by omega)]
      unfold pyxref09_Valid.f
      simp only [Option.bind_some]
      by_cases v : validB x0 = true
      · rw [if_pos v, if_pos (by omega)]
        unfold pyxref09_Text.f oid_Text.f
        rw [if_pos hp]
        simp only [Option.bind_some]
        congr 1
        unfold pOid textB
        rw [if_pos v, f7]
        have e1 : (⟨(textL x0).toArray⟩ : ByteArray).toList = textL x0 := Lib.toList_data _
        rw [e1]
        by_cases e : oidOf ((i : Int) + 1) = x0
        · rw [e, decide_eq_true (show (rowOf ((i : Int) + 1)).2.2.2.2.2.2.2.1 = x0 from e)]
          simp
        · rw [decide_eq_false (show ¬ (rowOf ((i : Int) + 1)).2.2.2.2.2.2.2.1 = x0 from e)]
          have : ¬ textL (oidOf ((i : Int) + 1)) = textL x0 := fun h => e (text_inj' hv (fun x hx => by simpa using List.all_eq_true.1 hpo x hx) v (fun x hx => by simpa using List.all_eq_true.1 hp x hx) h)
          simpa using this
      · rw [if_neg v]
        congr 1
        unfold pOid
        symm
        rw [decide_eq_false_iff_not]
        intro e
        rw [← e] at v
        exact v hv
    rw [key, lists_j2 x0 x1 x2 _ _ i _ k hi (lst_len _ _) (lst_len _ _), ← lst_succ, ← lst_succ]
    exact ih k (i + 1) (by omega) (by omega)
theorem lists_long (k : Nat) (l0 : List Int) (a1 a2 : Int) : PLL.pyxlaw13_ParamsLists.j0 (k + 1) l0 a1 a2 true = some true := by
  rw [PLL.pyxlaw13_ParamsLists.j0, if_pos rfl]
  rfl
theorem pureL : PLL.pyxlaw13_ParamsLists.Pure := by
  intro l0 a1 a2 _ _ hw _ _
  obtain ⟨k, hk⟩ : ∃ k, k = 61 := ⟨61, rfl⟩
  refine ⟨k + 1, ?_⟩
  unfold PLL.pyxlaw13_ParamsLists.f pyxlaw13_awake.f
  simp only [Option.bind_some]
  rw [if_pos trivial]
  by_cases h : (l0.length : Int) > 100
  · rw [decide_eq_true h]
    exact lists_long _ _ _ _
  · rw [decide_eq_false h, PLL.pyxlaw13_ParamsLists.j0, if_neg (by decide), refTab_eq]
    simp only [Option.bind_some]
    have e1 : lst (pOid l0) 0 = [] := rfl
    have e2 : lst (pSize a1 a2) 0 = [] := rfl
    have hall : (l0.all fun x => decide (0 ≤ x)) = true := by
     apply List.all_eq_true.2
     intro x hx
     have h3 : And (IntKind.u32.min ≤ x) (x ≤ IntKind.u32.max) := by simpa [Lit.wf] using hw x hx
     have h2 : 0 ≤ x := h3.1
     simpa using h2
    have := lists_loop l0 a1 a2 hall 25 k 0 (by omega) (by omega)
    rw [e1, e2] at this
    exact this
end Go.Proofs.YtjoncjnmhhimhaaDoor.Hand
end

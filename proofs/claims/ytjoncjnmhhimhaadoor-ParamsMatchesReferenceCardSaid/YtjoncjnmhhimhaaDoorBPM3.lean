/- Texts of one proof, one behind the other. -/
import Derived.Test.YtjoncjnmhhimhaaDoorBPM0
import Derived.Test.YtjoncjnmhhimhaaDoorProg
import Derived.Below
import Derived.Deep.Draws
import Derived.Deep.AppendLies
import Derived.Maps.AppendAt
import Derived.OwnWalk
import Derived.Laws.BytesArg
import Derived.Laws.MakeOwn
import Derived.Laws.OwnMore
import Derived.Deep.OwnRows
import Derived.Tactics
import Derived.Lib.ConvBytes
import Derived.Laws.Slices
import Derived.WalkKit
import Derived.KernelRfl
import Derived.RowKit3
import Derived.Deep.LoopGhost
import Derived.Deep.QuietTactic
import Derived.BigQuiet
import Derived.WideLaws
import Derived.Deep.DeepCutAuto
import Derived.Deep.CutBlock
import Derived.Deep.RegionHeld3
import Derived.Laws.Rows
import Derived.Lib.AppendStr
import Derived.ArgAppend
import Derived.Laws.IdiomCopy
import Derived.OrdersHeld
import Derived.Laws.BitsLemmas
import Derived.RowKit
import Derived.Test.YtjoncjnmhhimhaaDoorWMore
import Derived.Test.YtjoncjnmhhimhaaDoorWGuard
import Derived.Test.YtjoncjnmhhimhaaDoorWRepsOne
import Derived.Test.YtjoncjnmhhimhaaDoorWTab
import Derived.Test.YtjoncjnmhhimhaaDoorBPM1
import Derived.Test.YtjoncjnmhhimhaaDoorBPM2
section
-- Written by the kit's print.py, driven by this place's wip/tools/myprint.py. Not trusted: Lean checks it.
namespace Go.Proofs.YtjoncjnmhhimhaaDoor.PLM
open Go.RowKit Go.Proofs.YtjoncjnmhhimhaaDoor.Hand Go.Proofs.YtjoncjnmhhimhaaDoor.PT13s Go.Proofs.YtjoncjnmhhimhaaDoor.PT13r Go.Proofs.YtjoncjnmhhimhaaDoorW.PrintWords Go.Proofs.YtjoncjnmhhimhaaDoorW.PrintLast Go.Proofs.YtjoncjnmhhimhaaDoorW.PrintMore
attribute [local go_sem] max2_int min2_int max_two min_two max_three min_three max_four min_four   -- for this text's walks alone
set_option linter.unusedVariables false
set_option linter.unusedSimpArgs false



def errW : Option Int → Value
  | none => .nilIface
  | some c => .iface 0 (.int .i64 c)
theorem errW_none : errW none = .nilIface := rfl
theorem errW_some (c : Int) : errW (some c) = .iface 0 (.int .i64 c) := rfl

-- the values' own types
def rd_L4 (xs : List (List Int)) (i : Int) : (List Int) := xs.getD i.toNat ([] : List Int)
theorem at_L4 {w : World} {A : Option Addr} {n : Nat} {xs : List (List Int)} (h : Kd.C (Kd.slice 27 (Kd.int .u32)) w A n xs) (i : Int) (h0 : 0 ≤ i) (h1 : i < n) : ∃ ad A0 c0, A = some ad ∧ w.cell? (ad.add i.toNat) = some (.slice A0 (rd_L4 xs i).length c0) ∧ (rd_L4 xs i).length ≤ c0 ∧ (Kd.int .u32).C w A0 (rd_L4 xs i).length (rd_L4 xs i) := by
  obtain ⟨ad, c, e, _, hK, hc0⟩ := Kd.C_get h ([] : List Int) i h0 h1
  have hc : ∀ j u, c[j]? = some u → w.cell? (ad.add (i.toNat * 1 + j)) = some u := hc0
  obtain ⟨A0, c0, rfl, l0, g0⟩ := hK
  exact ⟨ad, A0, c0, e, by have hq := hc 0 _ rfl; rwa [Nat.mul_one, Nat.add_zero] at hq, l0, g0⟩

/-! #### struct type 37 -/
structure S37 where
  f0 : Int
  f1 : Int
  f2 : ByteArray
  f3 : Int
  f4 : Int
  f5 : Int
  f6 : Int
  f7 : (List Int)
  f8 : Int
  f9 : Int
def z37 : S37 := ⟨(0 : Int), (0 : Int), (⟨#[]⟩ : ByteArray), (0 : Int), (0 : Int), (0 : Int), (0 : Int), ([] : List Int), (0 : Int), (0 : Int)⟩
def k37 : Kd S37 := Kd.iso (Kd.pair (Kd.int .i64) (Kd.pair (Kd.int .i64) (Kd.pair Kd.string (Kd.pair (Kd.int .i64) (Kd.pair (Kd.int .i64) (Kd.pair (Kd.int .i64) (Kd.pair (Kd.int .i64) (Kd.pair (Kd.slice 27 (Kd.int .u32)) (Kd.pair (Kd.int .i64) (Kd.int .u32)))))))))) (fun x : S37 => (x.f0, x.f1, x.f2, x.f3, x.f4, x.f5, x.f6, x.f7, x.f8, x.f9))
theorem k37_open {w : World} {x : S37} {cs : List Value} (h : k37.K w x cs) : ∃ A7 c7, cs = [.int .i64 x.f0, .int .i64 x.f1, .string x.f2, .int .i64 x.f3, .int .i64 x.f4, .int .i64 x.f5, .int .i64 x.f6, .slice A7 x.f7.length c7, .int .i64 x.f8, .int .u32 x.f9] ∧ x.f7.length ≤ c7 ∧ (Kd.int .u32).C w A7 x.f7.length x.f7 := by
  obtain ⟨_, _, rfl, rfl, ⟨_, _, rfl, rfl, ⟨_, _, rfl, rfl, ⟨_, _, rfl, rfl, ⟨_, _, rfl, rfl, ⟨_, _, rfl, rfl, ⟨_, _, rfl, rfl, ⟨_, _, rfl, ⟨A7, c7, rfl, l7, g7⟩, ⟨_, _, rfl, rfl, rfl⟩⟩⟩⟩⟩⟩⟩⟩⟩ := h
  exact ⟨A7, c7, rfl, l7, g7⟩
theorem k37_openM {w : World} {base : Nat} {ok : Nat → Prop} {x : S37} {cs : List Value} (h : k37.M w base ok x cs) : ∃ v7, cs = [.int .i64 x.f0, .int .i64 x.f1, .string x.f2, .int .i64 x.f3, .int .i64 x.f4, .int .i64 x.f5, .int .i64 x.f6, v7, .int .i64 x.f8, .int .u32 x.f9] ∧ (Kd.int .u32).R 27 w base ok v7 x.f7 := by
  obtain ⟨_, _, rfl, rfl, ⟨_, _, rfl, rfl, ⟨_, _, rfl, rfl, ⟨_, _, rfl, rfl, ⟨_, _, rfl, rfl, ⟨_, _, rfl, rfl, ⟨_, _, rfl, rfl, ⟨_, _, rfl, ⟨v7, rfl, g7⟩, ⟨_, _, rfl, rfl, rfl⟩⟩⟩⟩⟩⟩⟩⟩⟩ := h
  exact ⟨v7, rfl, g7⟩
theorem k37_mk (w : World) (x : S37) {A7 : Option Addr} {c7 : Nat} (l7 : x.f7.length ≤ c7) (g7 : (Kd.int .u32).C w A7 x.f7.length x.f7) : k37.K w x [.int .i64 x.f0, .int .i64 x.f1, .string x.f2, .int .i64 x.f3, .int .i64 x.f4, .int .i64 x.f5, .int .i64 x.f6, .slice A7 x.f7.length c7, .int .i64 x.f8, .int .u32 x.f9] := ⟨[.int .i64 x.f0], [.int .i64 x.f1, .string x.f2, .int .i64 x.f3, .int .i64 x.f4, .int .i64 x.f5, .int .i64 x.f6, .slice A7 x.f7.length c7, .int .i64 x.f8, .int .u32 x.f9], rfl, rfl, ⟨[.int .i64 x.f1], [.string x.f2, .int .i64 x.f3, .int .i64 x.f4, .int .i64 x.f5, .int .i64 x.f6, .slice A7 x.f7.length c7, .int .i64 x.f8, .int .u32 x.f9], rfl, rfl, ⟨[.string x.f2], [.int .i64 x.f3, .int .i64 x.f4, .int .i64 x.f5, .int .i64 x.f6, .slice A7 x.f7.length c7, .int .i64 x.f8, .int .u32 x.f9], rfl, rfl, ⟨[.int .i64 x.f3], [.int .i64 x.f4, .int .i64 x.f5, .int .i64 x.f6, .slice A7 x.f7.length c7, .int .i64 x.f8, .int .u32 x.f9], rfl, rfl, ⟨[.int .i64 x.f4], [.int .i64 x.f5, .int .i64 x.f6, .slice A7 x.f7.length c7, .int .i64 x.f8, .int .u32 x.f9], rfl, rfl, ⟨[.int .i64 x.f5], [.int .i64 x.f6, .slice A7 x.f7.length c7, .int .i64 x.f8, .int .u32 x.f9], rfl, rfl, ⟨[.int .i64 x.f6], [.slice A7 x.f7.length c7, .int .i64 x.f8, .int .u32 x.f9], rfl, rfl, ⟨[.slice A7 x.f7.length c7], [.int .i64 x.f8, .int .u32 x.f9], rfl, ⟨A7, c7, rfl, l7, g7⟩, ⟨[.int .i64 x.f8], [.int .u32 x.f9], rfl, rfl, rfl⟩⟩⟩⟩⟩⟩⟩⟩⟩
theorem k37_mkM (w : World) (base : Nat) (ok : Nat → Prop) (x : S37) {v7 : Value} (g7 : (Kd.int .u32).R 27 w base ok v7 x.f7) : k37.M w base ok x [.int .i64 x.f0, .int .i64 x.f1, .string x.f2, .int .i64 x.f3, .int .i64 x.f4, .int .i64 x.f5, .int .i64 x.f6, v7, .int .i64 x.f8, .int .u32 x.f9] := ⟨[.int .i64 x.f0], [.int .i64 x.f1, .string x.f2, .int .i64 x.f3, .int .i64 x.f4, .int .i64 x.f5, .int .i64 x.f6, v7, .int .i64 x.f8, .int .u32 x.f9], rfl, rfl, ⟨[.int .i64 x.f1], [.string x.f2, .int .i64 x.f3, .int .i64 x.f4, .int .i64 x.f5, .int .i64 x.f6, v7, .int .i64 x.f8, .int .u32 x.f9], rfl, rfl, ⟨[.string x.f2], [.int .i64 x.f3, .int .i64 x.f4, .int .i64 x.f5, .int .i64 x.f6, v7, .int .i64 x.f8, .int .u32 x.f9], rfl, rfl, ⟨[.int .i64 x.f3], [.int .i64 x.f4, .int .i64 x.f5, .int .i64 x.f6, v7, .int .i64 x.f8, .int .u32 x.f9], rfl, rfl, ⟨[.int .i64 x.f4], [.int .i64 x.f5, .int .i64 x.f6, v7, .int .i64 x.f8, .int .u32 x.f9], rfl, rfl, ⟨[.int .i64 x.f5], [.int .i64 x.f6, v7, .int .i64 x.f8, .int .u32 x.f9], rfl, rfl, ⟨[.int .i64 x.f6], [v7, .int .i64 x.f8, .int .u32 x.f9], rfl, rfl, ⟨[v7], [.int .i64 x.f8, .int .u32 x.f9], rfl, ⟨v7, rfl, g7⟩, ⟨[.int .i64 x.f8], [.int .u32 x.f9], rfl, rfl, rfl⟩⟩⟩⟩⟩⟩⟩⟩⟩
def rd_T37 (xs : List S37) (i : Int) : S37 := xs.getD i.toNat z37
theorem at_T37 {w : World} {A : Option Addr} {n : Nat} {xs : List S37} (h : Kd.C k37 w A n xs) (i : Int) (h0 : 0 ≤ i) (h1 : i < n) : ∃ ad A7 c7, A = some ad ∧ w.cell? (ad.add (i.toNat * 10)) = some (.int .i64 (rd_T37 xs i).f0) ∧ w.cell? ⟨(ad.add (i.toNat * 10)).block, (ad.add (i.toNat * 10)).off + 1, none⟩ = some (.int .i64 (rd_T37 xs i).f1) ∧ w.cell? ⟨(ad.add (i.toNat * 10)).block, (ad.add (i.toNat * 10)).off + 2, none⟩ = some (.string (rd_T37 xs i).f2) ∧ w.cell? ⟨(ad.add (i.toNat * 10)).block, (ad.add (i.toNat * 10)).off + 3, none⟩ = some (.int .i64 (rd_T37 xs i).f3) ∧ w.cell? ⟨(ad.add (i.toNat * 10)).block, (ad.add (i.toNat * 10)).off + 4, none⟩ = some (.int .i64 (rd_T37 xs i).f4) ∧ w.cell? ⟨(ad.add (i.toNat * 10)).block, (ad.add (i.toNat * 10)).off + 5, none⟩ = some (.int .i64 (rd_T37 xs i).f5) ∧ w.cell? ⟨(ad.add (i.toNat * 10)).block, (ad.add (i.toNat * 10)).off + 6, none⟩ = some (.int .i64 (rd_T37 xs i).f6) ∧ w.cell? ⟨(ad.add (i.toNat * 10)).block, (ad.add (i.toNat * 10)).off + 7, none⟩ = some (.slice A7 (rd_T37 xs i).f7.length c7) ∧ w.cell? ⟨(ad.add (i.toNat * 10)).block, (ad.add (i.toNat * 10)).off + 8, none⟩ = some (.int .i64 (rd_T37 xs i).f8) ∧ w.cell? ⟨(ad.add (i.toNat * 10)).block, (ad.add (i.toNat * 10)).off + 9, none⟩ = some (.int .u32 (rd_T37 xs i).f9) ∧ (rd_T37 xs i).f7.length ≤ c7 ∧ (Kd.int .u32).C w A7 (rd_T37 xs i).f7.length (rd_T37 xs i).f7 := by
  obtain ⟨ad, c, e, _, hK, hc0⟩ := Kd.C_get h z37 i h0 h1
  have hc : ∀ j u, c[j]? = some u → w.cell? (ad.add (i.toNat * 10 + j)) = some u := hc0
  obtain ⟨A7, c7, rfl, l7, g7⟩ := k37_open hK
  exact ⟨ad, A7, c7, e, hc 0 _ rfl, by rw [← add_field _ _ 1 (by omega)]; exact hc 1 _ rfl, by rw [← add_field _ _ 2 (by omega)]; exact hc 2 _ rfl, by rw [← add_field _ _ 3 (by omega)]; exact hc 3 _ rfl, by rw [← add_field _ _ 4 (by omega)]; exact hc 4 _ rfl, by rw [← add_field _ _ 5 (by omega)]; exact hc 5 _ rfl, by rw [← add_field _ _ 6 (by omega)]; exact hc 6 _ rfl, by rw [← add_field _ _ 7 (by omega)]; exact hc 7 _ rfl, by rw [← add_field _ _ 8 (by omega)]; exact hc 8 _ rfl, by rw [← add_field _ _ 9 (by omega)]; exact hc 9 _ rfl, l7, g7⟩

/-! #### struct type 42 -/
structure S42 where
  f0 : Int
  f1 : Int
  f2 : ByteArray
  f3 : Int
  f4 : Int
  f5 : Int
  f6 : Int
  f7 : ByteArray
  f8 : Int
  f9 : Int
def z42 : S42 := ⟨(0 : Int), (0 : Int), (⟨#[]⟩ : ByteArray), (0 : Int), (0 : Int), (0 : Int), (0 : Int), (⟨#[]⟩ : ByteArray), (0 : Int), (0 : Int)⟩
def k42 : Kd S42 := Kd.iso (Kd.pair (Kd.int .i64) (Kd.pair (Kd.int .i64) (Kd.pair Kd.string (Kd.pair (Kd.int .i64) (Kd.pair (Kd.int .i64) (Kd.pair (Kd.int .i64) (Kd.pair (Kd.int .i64) (Kd.pair Kd.string (Kd.pair (Kd.int .i64) (Kd.int .u32)))))))))) (fun x : S42 => (x.f0, x.f1, x.f2, x.f3, x.f4, x.f5, x.f6, x.f7, x.f8, x.f9))
theorem k42_open {w : World} {x : S42} {cs : List Value} (h : k42.K w x cs) : cs = [.int .i64 x.f0, .int .i64 x.f1, .string x.f2, .int .i64 x.f3, .int .i64 x.f4, .int .i64 x.f5, .int .i64 x.f6, .string x.f7, .int .i64 x.f8, .int .u32 x.f9] := by
  obtain ⟨_, _, rfl, rfl, ⟨_, _, rfl, rfl, ⟨_, _, rfl, rfl, ⟨_, _, rfl, rfl, ⟨_, _, rfl, rfl, ⟨_, _, rfl, rfl, ⟨_, _, rfl, rfl, ⟨_, _, rfl, rfl, ⟨_, _, rfl, rfl, rfl⟩⟩⟩⟩⟩⟩⟩⟩⟩ := h
  exact rfl
theorem k42_openM {w : World} {base : Nat} {ok : Nat → Prop} {x : S42} {cs : List Value} (h : k42.M w base ok x cs) : cs = [.int .i64 x.f0, .int .i64 x.f1, .string x.f2, .int .i64 x.f3, .int .i64 x.f4, .int .i64 x.f5, .int .i64 x.f6, .string x.f7, .int .i64 x.f8, .int .u32 x.f9] := by
  obtain ⟨_, _, rfl, rfl, ⟨_, _, rfl, rfl, ⟨_, _, rfl, rfl, ⟨_, _, rfl, rfl, ⟨_, _, rfl, rfl, ⟨_, _, rfl, rfl, ⟨_, _, rfl, rfl, ⟨_, _, rfl, rfl, ⟨_, _, rfl, rfl, rfl⟩⟩⟩⟩⟩⟩⟩⟩⟩ := h
  exact rfl
theorem k42_mk (w : World) (x : S42)  : k42.K w x [.int .i64 x.f0, .int .i64 x.f1, .string x.f2, .int .i64 x.f3, .int .i64 x.f4, .int .i64 x.f5, .int .i64 x.f6, .string x.f7, .int .i64 x.f8, .int .u32 x.f9] := ⟨[.int .i64 x.f0], [.int .i64 x.f1, .string x.f2, .int .i64 x.f3, .int .i64 x.f4, .int .i64 x.f5, .int .i64 x.f6, .string x.f7, .int .i64 x.f8, .int .u32 x.f9], rfl, rfl, ⟨[.int .i64 x.f1], [.string x.f2, .int .i64 x.f3, .int .i64 x.f4, .int .i64 x.f5, .int .i64 x.f6, .string x.f7, .int .i64 x.f8, .int .u32 x.f9], rfl, rfl, ⟨[.string x.f2], [.int .i64 x.f3, .int .i64 x.f4, .int .i64 x.f5, .int .i64 x.f6, .string x.f7, .int .i64 x.f8, .int .u32 x.f9], rfl, rfl, ⟨[.int .i64 x.f3], [.int .i64 x.f4, .int .i64 x.f5, .int .i64 x.f6, .string x.f7, .int .i64 x.f8, .int .u32 x.f9], rfl, rfl, ⟨[.int .i64 x.f4], [.int .i64 x.f5, .int .i64 x.f6, .string x.f7, .int .i64 x.f8, .int .u32 x.f9], rfl, rfl, ⟨[.int .i64 x.f5], [.int .i64 x.f6, .string x.f7, .int .i64 x.f8, .int .u32 x.f9], rfl, rfl, ⟨[.int .i64 x.f6], [.string x.f7, .int .i64 x.f8, .int .u32 x.f9], rfl, rfl, ⟨[.string x.f7], [.int .i64 x.f8, .int .u32 x.f9], rfl, rfl, ⟨[.int .i64 x.f8], [.int .u32 x.f9], rfl, rfl, rfl⟩⟩⟩⟩⟩⟩⟩⟩⟩
theorem k42_mkM (w : World) (base : Nat) (ok : Nat → Prop) (x : S42)  : k42.M w base ok x [.int .i64 x.f0, .int .i64 x.f1, .string x.f2, .int .i64 x.f3, .int .i64 x.f4, .int .i64 x.f5, .int .i64 x.f6, .string x.f7, .int .i64 x.f8, .int .u32 x.f9] := ⟨[.int .i64 x.f0], [.int .i64 x.f1, .string x.f2, .int .i64 x.f3, .int .i64 x.f4, .int .i64 x.f5, .int .i64 x.f6, .string x.f7, .int .i64 x.f8, .int .u32 x.f9], rfl, rfl, ⟨[.int .i64 x.f1], [.string x.f2, .int .i64 x.f3, .int .i64 x.f4, .int .i64 x.f5, .int .i64 x.f6, .string x.f7, .int .i64 x.f8, .int .u32 x.f9], rfl, rfl, ⟨[.string x.f2], [.int .i64 x.f3, .int .i64 x.f4, .int .i64 x.f5, .int .i64 x.f6, .string x.f7, .int .i64 x.f8, .int .u32 x.f9], rfl, rfl, ⟨[.int .i64 x.f3], [.int .i64 x.f4, .int .i64 x.f5, .int .i64 x.f6, .string x.f7, .int .i64 x.f8, .int .u32 x.f9], rfl, rfl, ⟨[.int .i64 x.f4], [.int .i64 x.f5, .int .i64 x.f6, .string x.f7, .int .i64 x.f8, .int .u32 x.f9], rfl, rfl, ⟨[.int .i64 x.f5], [.int .i64 x.f6, .string x.f7, .int .i64 x.f8, .int .u32 x.f9], rfl, rfl, ⟨[.int .i64 x.f6], [.string x.f7, .int .i64 x.f8, .int .u32 x.f9], rfl, rfl, ⟨[.string x.f7], [.int .i64 x.f8, .int .u32 x.f9], rfl, rfl, ⟨[.int .i64 x.f8], [.int .u32 x.f9], rfl, rfl, rfl⟩⟩⟩⟩⟩⟩⟩⟩⟩
def rd_T42 (xs : List S42) (i : Int) : S42 := xs.getD i.toNat z42
theorem at_T42 {w : World} {A : Option Addr} {n : Nat} {xs : List S42} (h : Kd.C k42 w A n xs) (i : Int) (h0 : 0 ≤ i) (h1 : i < n) : ∃ ad , A = some ad ∧ w.cell? (ad.add (i.toNat * 10)) = some (.int .i64 (rd_T42 xs i).f0) ∧ w.cell? ⟨(ad.add (i.toNat * 10)).block, (ad.add (i.toNat * 10)).off + 1, none⟩ = some (.int .i64 (rd_T42 xs i).f1) ∧ w.cell? ⟨(ad.add (i.toNat * 10)).block, (ad.add (i.toNat * 10)).off + 2, none⟩ = some (.string (rd_T42 xs i).f2) ∧ w.cell? ⟨(ad.add (i.toNat * 10)).block, (ad.add (i.toNat * 10)).off + 3, none⟩ = some (.int .i64 (rd_T42 xs i).f3) ∧ w.cell? ⟨(ad.add (i.toNat * 10)).block, (ad.add (i.toNat * 10)).off + 4, none⟩ = some (.int .i64 (rd_T42 xs i).f4) ∧ w.cell? ⟨(ad.add (i.toNat * 10)).block, (ad.add (i.toNat * 10)).off + 5, none⟩ = some (.int .i64 (rd_T42 xs i).f5) ∧ w.cell? ⟨(ad.add (i.toNat * 10)).block, (ad.add (i.toNat * 10)).off + 6, none⟩ = some (.int .i64 (rd_T42 xs i).f6) ∧ w.cell? ⟨(ad.add (i.toNat * 10)).block, (ad.add (i.toNat * 10)).off + 7, none⟩ = some (.string (rd_T42 xs i).f7) ∧ w.cell? ⟨(ad.add (i.toNat * 10)).block, (ad.add (i.toNat * 10)).off + 8, none⟩ = some (.int .i64 (rd_T42 xs i).f8) ∧ w.cell? ⟨(ad.add (i.toNat * 10)).block, (ad.add (i.toNat * 10)).off + 9, none⟩ = some (.int .u32 (rd_T42 xs i).f9) := by
  obtain ⟨ad, c, e, _, hK, hc0⟩ := Kd.C_get h z42 i h0 h1
  have hc : ∀ j u, c[j]? = some u → w.cell? (ad.add (i.toNat * 10 + j)) = some u := hc0
  obtain rfl := k42_open hK
  exact ⟨ad, e, hc 0 _ rfl, by rw [← add_field _ _ 1 (by omega)]; exact hc 1 _ rfl, by rw [← add_field _ _ 2 (by omega)]; exact hc 2 _ rfl, by rw [← add_field _ _ 3 (by omega)]; exact hc 3 _ rfl, by rw [← add_field _ _ 4 (by omega)]; exact hc 4 _ rfl, by rw [← add_field _ _ 5 (by omega)]; exact hc 5 _ rfl, by rw [← add_field _ _ 6 (by omega)]; exact hc 6 _ rfl, by rw [← add_field _ _ 7 (by omega)]; exact hc 7 _ rfl, by rw [← add_field _ _ 8 (by omega)]; exact hc 8 _ rfl, by rw [← add_field _ _ 9 (by omega)]; exact hc 9 _ rfl⟩

end Go.Proofs.YtjoncjnmhhimhaaDoor.PLM
namespace Go.Proofs.YtjoncjnmhhimhaaDoor.PLM
open Go.RowKit Go.Proofs.YtjoncjnmhhimhaaDoor.Hand Go.Proofs.YtjoncjnmhhimhaaDoor.PT13s Go.Proofs.YtjoncjnmhhimhaaDoor.PT13r Go.Proofs.YtjoncjnmhhimhaaDoorW.PrintWords Go.Proofs.YtjoncjnmhhimhaaDoorW.PrintLast Go.Proofs.YtjoncjnmhhimhaaDoorW.PrintMore
attribute [local go_sem] max2_int min2_int max_two min_two max_three min_three max_four min_four   -- for this text's walks alone
set_option linter.unusedVariables false
set_option linter.unusedSimpArgs false

-- BY CONTRACT: function 24 (pyxlaw13_awake)

-- BY CONTRACT: function 25 (params_Get)

-- BY CONTRACT: function 26 (pyxlaw13_same)

-- BY CONTRACT: function 27 (pyxref13_Get)

end Go.Proofs.YtjoncjnmhhimhaaDoor.PLM
namespace Go.Proofs.YtjoncjnmhhimhaaDoor.PLM
open Go.RowKit Go.Proofs.YtjoncjnmhhimhaaDoor.Hand Go.Proofs.YtjoncjnmhhimhaaDoor.PT13s Go.Proofs.YtjoncjnmhhimhaaDoor.PT13r Go.Proofs.YtjoncjnmhhimhaaDoorW.PrintWords Go.Proofs.YtjoncjnmhhimhaaDoorW.PrintLast Go.Proofs.YtjoncjnmhhimhaaDoorW.PrintMore
attribute [local go_sem] max2_int min2_int max_two min_two max_three min_three max_four min_four   -- for this text's walks alone
set_option linter.unusedVariables false
set_option linter.unusedSimpArgs false

/-! ### pyxlaw13_ParamsMatchesReference: function 7 -/
mutual
def pyxlaw13_ParamsMatchesReference.j0 : Nat → Int → Bool → Int → Int → ByteArray → Int → Int → Int → Int → List Int → Int → Int → Option (Bool)
  | 0, _, _, _, _, _, _, _, _, _, _, _, _ => none
  | k + 1, x0, x29, x116000, x116001, x116002, x116003, x116004, x116005, x116006, x116007, x116008, x116009 => if x29 = true then (none) else (pyxlaw13_ParamsMatchesReference.l0 k x0 0 x116000 x116001 x116002 x116003 x116004 x116005 x116006 x116007 x116008 x116009)
def pyxlaw13_ParamsMatchesReference.l0 : Nat → Int → Int → Int → Int → ByteArray → Int → Int → Int → Int → List Int → Int → Int → Option (Bool)
  | 0, _, _, _, _, _, _, _, _, _, _, _, _ => none
  | k + 1, x0, x5, x116000, x116001, x116002, x116003, x116004, x116005, x116006, x116007, x116008, x116009 => if x5 < (x116007.length : Int) then (if 0 ≤ x5 then (pyxlaw13_ParamsMatchesReference.l0 k x0 (wrap64 (x5 + 1)) x116000 x116001 x116002 x116003 x116004 x116005 x116006 (x116007.set (x5 : Int).toNat (((rd x116007 x5) + 1) % 4294967296)) x116008 x116009) else (none)) else ((params_Get.f x0).bind fun bt129 => ((pyxref13_Get.f x0).bind fun bt143 => ((pyxlaw13_same.f bt129.1 bt129.2.1 bt129.2.2.1 bt129.2.2.2.1 bt129.2.2.2.2.1 bt129.2.2.2.2.2.1 bt129.2.2.2.2.2.2.1 bt129.2.2.2.2.2.2.2.1 bt129.2.2.2.2.2.2.2.2.1 bt129.2.2.2.2.2.2.2.2.2.1 bt143.1 bt143.2.1 bt143.2.2.1 bt143.2.2.2.1 bt143.2.2.2.2.1 bt143.2.2.2.2.2.1 bt143.2.2.2.2.2.2.1 bt143.2.2.2.2.2.2.2.1 bt143.2.2.2.2.2.2.2.2.1 bt143.2.2.2.2.2.2.2.2.2).bind fun t153 => (some t153))))
end
def pyxlaw13_ParamsMatchesReference.f (k : Nat) (a0 : Int) : Option (Bool) := (pyxlaw13_awake.f).bind fun t101 => (if t101 = true then ((params_Get.f a0).bind fun bt102 => ((pyxref13_Get.f a0).bind fun bt116 => ((pyxlaw13_same.f bt102.1 bt102.2.1 bt102.2.2.1 bt102.2.2.2.1 bt102.2.2.2.2.1 bt102.2.2.2.2.2.1 bt102.2.2.2.2.2.2.1 bt102.2.2.2.2.2.2.2.1 bt102.2.2.2.2.2.2.2.2.1 bt102.2.2.2.2.2.2.2.2.2.1 bt116.1 bt116.2.1 bt116.2.2.1 bt116.2.2.2.1 bt116.2.2.2.2.1 bt116.2.2.2.2.2.1 bt116.2.2.2.2.2.2.1 bt116.2.2.2.2.2.2.2.1 bt116.2.2.2.2.2.2.2.2.1 bt116.2.2.2.2.2.2.2.2.2).bind fun t126 => (if t126 = true then (if a0 ≥ 1 then (pyxlaw13_ParamsMatchesReference.j0 k a0 (bt102.2.2.2.2.2.2.2.2.2.2 != (decide (a0 ≤ 25))) bt102.1 bt102.2.1 bt102.2.2.1 bt102.2.2.2.1 bt102.2.2.2.2.1 bt102.2.2.2.2.2.1 bt102.2.2.2.2.2.2.1 bt102.2.2.2.2.2.2.2.1 bt102.2.2.2.2.2.2.2.2.1 bt102.2.2.2.2.2.2.2.2.2.1) else (pyxlaw13_ParamsMatchesReference.j0 k a0 (bt102.2.2.2.2.2.2.2.2.2.2 != false) bt102.1 bt102.2.1 bt102.2.2.1 bt102.2.2.2.1 bt102.2.2.2.2.1 bt102.2.2.2.2.2.1 bt102.2.2.2.2.2.2.1 bt102.2.2.2.2.2.2.2.1 bt102.2.2.2.2.2.2.2.2.1 bt102.2.2.2.2.2.2.2.2.2.1)) else (pyxlaw13_ParamsMatchesReference.j0 k a0 true bt102.1 bt102.2.1 bt102.2.2.1 bt102.2.2.2.1 bt102.2.2.2.2.1 bt102.2.2.2.2.2.1 bt102.2.2.2.2.2.2.1 bt102.2.2.2.2.2.2.2.1 bt102.2.2.2.2.2.2.2.2.1 bt102.2.2.2.2.2.2.2.2.2.1))))) else (none))
theorem pyxlaw13_ParamsMatchesReference.mono_l : ∀ k, (∀ y0 y1 y2 y3 y4 y5 y6 y7 y8 y9 y10 y11, LeO (pyxlaw13_ParamsMatchesReference.j0 k y0 y1 y2 y3 y4 y5 y6 y7 y8 y9 y10 y11) (pyxlaw13_ParamsMatchesReference.j0 (k + 1) y0 y1 y2 y3 y4 y5 y6 y7 y8 y9 y10 y11)) ∧ (∀ y0 y1 y2 y3 y4 y5 y6 y7 y8 y9 y10 y11, LeO (pyxlaw13_ParamsMatchesReference.l0 k y0 y1 y2 y3 y4 y5 y6 y7 y8 y9 y10 y11) (pyxlaw13_ParamsMatchesReference.l0 (k + 1) y0 y1 y2 y3 y4 y5 y6 y7 y8 y9 y10 y11))
  | 0 => ⟨fun _ _ _ _ _ _ _ _ _ _ _ _ r h => by simp [pyxlaw13_ParamsMatchesReference.j0] at h, fun _ _ _ _ _ _ _ _ _ _ _ _ r h => by simp [pyxlaw13_ParamsMatchesReference.l0] at h⟩
  | k + 1 => by
    obtain ⟨ih0, ih1⟩ := pyxlaw13_ParamsMatchesReference.mono_l k
    refine ⟨?_, ?_⟩
    · intro y0 y1 y2 y3 y4 y5 y6 y7 y8 y9 y10 y11
      unfold pyxlaw13_ParamsMatchesReference.j0
      repeat' first
      | (with_reducible exact ih0 _ _ _ _ _ _ _ _ _ _ _ _)
      | (with_reducible exact ih1 _ _ _ _ _ _ _ _ _ _ _ _)
      | (with_reducible exact LeO.refl _)
      | (with_reducible exact LeO.none _)
      | (with_reducible refine LeO.ite ?_ ?_)
      | (with_reducible refine LeO.bind ?_ (fun _ => ?_))
      | exact ih0 _ _ _ _ _ _ _ _ _ _ _ _
      | exact ih1 _ _ _ _ _ _ _ _ _ _ _ _
      | exact LeO.none _
      | refine LeO.ite ?_ ?_
      | refine LeO.bind ?_ (fun _ => ?_)
    · intro y0 y1 y2 y3 y4 y5 y6 y7 y8 y9 y10 y11
      unfold pyxlaw13_ParamsMatchesReference.l0
      repeat' first
      | (with_reducible exact ih0 _ _ _ _ _ _ _ _ _ _ _ _)
      | (with_reducible exact ih1 _ _ _ _ _ _ _ _ _ _ _ _)
      | (with_reducible exact LeO.refl _)
      | (with_reducible exact LeO.none _)
      | (with_reducible refine LeO.ite ?_ ?_)
      | (with_reducible refine LeO.bind ?_ (fun _ => ?_))
      | exact ih0 _ _ _ _ _ _ _ _ _ _ _ _
      | exact ih1 _ _ _ _ _ _ _ _ _ _ _ _
      | exact LeO.none _
      | refine LeO.ite ?_ ?_
      | refine LeO.bind ?_ (fun _ => ?_)
theorem pyxlaw13_ParamsMatchesReference.mono : ∀ a0 k, LeO (pyxlaw13_ParamsMatchesReference.f k a0) (pyxlaw13_ParamsMatchesReference.f (k + 1) a0) := by
  intro a0 k
  obtain ⟨ih0, ih1⟩ := pyxlaw13_ParamsMatchesReference.mono_l k
  unfold pyxlaw13_ParamsMatchesReference.f
  repeat' first
      | (with_reducible exact ih0 _ _ _ _ _ _ _ _ _ _ _ _)
      | (with_reducible exact ih1 _ _ _ _ _ _ _ _ _ _ _ _)
      | (with_reducible exact LeO.refl _)
      | (with_reducible exact LeO.none _)
      | (with_reducible refine LeO.ite ?_ ?_)
      | (with_reducible refine LeO.bind ?_ (fun _ => ?_))
      | exact ih0 _ _ _ _ _ _ _ _ _ _ _ _
      | exact ih1 _ _ _ _ _ _ _ _ _ _ _ _
      | exact LeO.none _
      | refine LeO.ite ?_ ?_
      | refine LeO.bind ?_ (fun _ => ?_)
def pyxlaw13_ParamsMatchesReference.T4 : Bool × List (List Nat × List Nat) := (true, [([], []), ([], []), ([1], [1]), ([0, 2, 2], [0, 2]), ([3], [3]), ([4, 3], [4]), ([5], [5]), ([5], [5]), ([7, 5], [5, 7]), ([8, 5, 5], [5, 8]), ([9], [9]), ([10, 9], [9, 10]), ([9, 11, 5], [5, 9, 11]), ([6, 12, 5], [5, 6, 12]), ([5, 13], [5, 13])])
def pyxlaw13_ParamsMatchesReference.B4 : List Nat := [0, 0, 2, 7, 15, 31, 63, 63, 191, 447, 959, 1983, 4031, 8191, 16383]
theorem pyxlaw13_ParamsMatchesReference.tab4 : rtab .any (opsOf Tryd.f7 4) = pyxlaw13_ParamsMatchesReference.T4 := by kernel_rfl
theorem pyxlaw13_ParamsMatchesReference.bits4 : waitsOk pyxlaw13_ParamsMatchesReference.T4.2 pyxlaw13_ParamsMatchesReference.B4 = true := by kernel_rfl
set_option maxHeartbeats 8000000 in
set_option maxRecDepth 100000 in
theorem pyxlaw13_ParamsMatchesReference.calls (k : Nat) (a0 : Int) (r : Bool) (w : World) (HLd : LaidOk w) (h : pyxlaw13_ParamsMatchesReference.f k a0 = some r) :
    Calls Tryd.prog 7 #[.int .i64 a0] w fun e w' => e = .returned (.bool r) ∧ Below w.heap.size w w' := by
  have hu37 := Tryd.underlying37
  have HB := Aside0.mk (Below.refl w.heap.size w)
  have H : ((pyxlaw13_awake.f).bind fun t101 => (if t101 = true then ((params_Get.f a0).bind fun bt102 => ((pyxref13_Get.f a0).bind fun bt116 => ((pyxlaw13_same.f bt102.1 bt102.2.1 bt102.2.2.1 bt102.2.2.2.1 bt102.2.2.2.2.1 bt102.2.2.2.2.2.1 bt102.2.2.2.2.2.2.1 bt102.2.2.2.2.2.2.2.1 bt102.2.2.2.2.2.2.2.2.1 bt102.2.2.2.2.2.2.2.2.2.1 bt116.1 bt116.2.1 bt116.2.2.1 bt116.2.2.2.1 bt116.2.2.2.2.1 bt116.2.2.2.2.2.1 bt116.2.2.2.2.2.2.1 bt116.2.2.2.2.2.2.2.1 bt116.2.2.2.2.2.2.2.2.1 bt116.2.2.2.2.2.2.2.2.2).bind fun t126 => (if t126 = true then (if a0 ≥ 1 then (pyxlaw13_ParamsMatchesReference.j0 k a0 (bt102.2.2.2.2.2.2.2.2.2.2 != (decide (a0 ≤ 25))) bt102.1 bt102.2.1 bt102.2.2.1 bt102.2.2.2.1 bt102.2.2.2.2.1 bt102.2.2.2.2.2.1 bt102.2.2.2.2.2.2.1 bt102.2.2.2.2.2.2.2.1 bt102.2.2.2.2.2.2.2.2.1 bt102.2.2.2.2.2.2.2.2.2.1) else (pyxlaw13_ParamsMatchesReference.j0 k a0 (bt102.2.2.2.2.2.2.2.2.2.2 != false) bt102.1 bt102.2.1 bt102.2.2.1 bt102.2.2.2.1 bt102.2.2.2.2.1 bt102.2.2.2.2.2.1 bt102.2.2.2.2.2.2.1 bt102.2.2.2.2.2.2.2.1 bt102.2.2.2.2.2.2.2.2.1 bt102.2.2.2.2.2.2.2.2.2.1)) else (pyxlaw13_ParamsMatchesReference.j0 k a0 true bt102.1 bt102.2.1 bt102.2.2.1 bt102.2.2.2.1 bt102.2.2.2.2.1 bt102.2.2.2.2.2.1 bt102.2.2.2.2.2.2.1 bt102.2.2.2.2.2.2.2.1 bt102.2.2.2.2.2.2.2.2.1 bt102.2.2.2.2.2.2.2.2.2.1))))) else (none))) = some r := h
  clear h
  replace H := Option.bind_eq_some_iff.mp H
  obtain ⟨t101, A20, H⟩ := H
  replace H : (if t101 = true then ((params_Get.f a0).bind fun bt102 => ((pyxref13_Get.f a0).bind fun bt116 => ((pyxlaw13_same.f bt102.1 bt102.2.1 bt102.2.2.1 bt102.2.2.2.1 bt102.2.2.2.2.1 bt102.2.2.2.2.2.1 bt102.2.2.2.2.2.2.1 bt102.2.2.2.2.2.2.2.1 bt102.2.2.2.2.2.2.2.2.1 bt102.2.2.2.2.2.2.2.2.2.1 bt116.1 bt116.2.1 bt116.2.2.1 bt116.2.2.2.1 bt116.2.2.2.2.1 bt116.2.2.2.2.2.1 bt116.2.2.2.2.2.2.1 bt116.2.2.2.2.2.2.2.1 bt116.2.2.2.2.2.2.2.2.1 bt116.2.2.2.2.2.2.2.2.2).bind fun t126 => (if t126 = true then (if a0 ≥ 1 then (pyxlaw13_ParamsMatchesReference.j0 k a0 (bt102.2.2.2.2.2.2.2.2.2.2 != (decide (a0 ≤ 25))) bt102.1 bt102.2.1 bt102.2.2.1 bt102.2.2.2.1 bt102.2.2.2.2.1 bt102.2.2.2.2.2.1 bt102.2.2.2.2.2.2.1 bt102.2.2.2.2.2.2.2.1 bt102.2.2.2.2.2.2.2.2.1 bt102.2.2.2.2.2.2.2.2.2.1) else (pyxlaw13_ParamsMatchesReference.j0 k a0 (bt102.2.2.2.2.2.2.2.2.2.2 != false) bt102.1 bt102.2.1 bt102.2.2.1 bt102.2.2.2.1 bt102.2.2.2.2.1 bt102.2.2.2.2.2.1 bt102.2.2.2.2.2.2.1 bt102.2.2.2.2.2.2.2.1 bt102.2.2.2.2.2.2.2.2.1 bt102.2.2.2.2.2.2.2.2.2.1)) else (pyxlaw13_ParamsMatchesReference.j0 k a0 true bt102.1 bt102.2.1 bt102.2.2.1 bt102.2.2.2.1 bt102.2.2.2.2.1 bt102.2.2.2.2.2.1 bt102.2.2.2.2.2.2.1 bt102.2.2.2.2.2.2.2.1 bt102.2.2.2.2.2.2.2.2.1 bt102.2.2.2.2.2.2.2.2.2.1))))) else (none)) = some r := H
  have A2 := Aside0.mk A20
  clear A20
  by_cases c3 : t101 = true
  · subst c3
    have H1 : ((params_Get.f a0).bind fun bt102 => ((pyxref13_Get.f a0).bind fun bt116 => ((pyxlaw13_same.f bt102.1 bt102.2.1 bt102.2.2.1 bt102.2.2.2.1 bt102.2.2.2.2.1 bt102.2.2.2.2.2.1 bt102.2.2.2.2.2.2.1 bt102.2.2.2.2.2.2.2.1 bt102.2.2.2.2.2.2.2.2.1 bt102.2.2.2.2.2.2.2.2.2.1 bt116.1 bt116.2.1 bt116.2.2.1 bt116.2.2.2.1 bt116.2.2.2.2.1 bt116.2.2.2.2.2.1 bt116.2.2.2.2.2.2.1 bt116.2.2.2.2.2.2.2.1 bt116.2.2.2.2.2.2.2.2.1 bt116.2.2.2.2.2.2.2.2.2).bind fun t126 => (if t126 = true then (if a0 ≥ 1 then (pyxlaw13_ParamsMatchesReference.j0 k a0 (bt102.2.2.2.2.2.2.2.2.2.2 != (decide (a0 ≤ 25))) bt102.1 bt102.2.1 bt102.2.2.1 bt102.2.2.2.1 bt102.2.2.2.2.1 bt102.2.2.2.2.2.1 bt102.2.2.2.2.2.2.1 bt102.2.2.2.2.2.2.2.1 bt102.2.2.2.2.2.2.2.2.1 bt102.2.2.2.2.2.2.2.2.2.1) else (pyxlaw13_ParamsMatchesReference.j0 k a0 (bt102.2.2.2.2.2.2.2.2.2.2 != false) bt102.1 bt102.2.1 bt102.2.2.1 bt102.2.2.2.1 bt102.2.2.2.2.1 bt102.2.2.2.2.2.1 bt102.2.2.2.2.2.2.1 bt102.2.2.2.2.2.2.2.1 bt102.2.2.2.2.2.2.2.2.1 bt102.2.2.2.2.2.2.2.2.2.1)) else (pyxlaw13_ParamsMatchesReference.j0 k a0 true bt102.1 bt102.2.1 bt102.2.2.1 bt102.2.2.2.1 bt102.2.2.2.2.1 bt102.2.2.2.2.2.1 bt102.2.2.2.2.2.2.1 bt102.2.2.2.2.2.2.2.1 bt102.2.2.2.2.2.2.2.2.1 bt102.2.2.2.2.2.2.2.2.2.1))))) = some r := by rw [if_pos rfl] at H; exact H
    clear H
    have H := H1
    clear H1
    replace H := Option.bind_eq_some_iff.mp H
    obtain ⟨⟨t102, t103, t104, t105, t106, t107, t108, t109, t112, t113, t114⟩, A40, H⟩ := H
    replace H : ((pyxref13_Get.f a0).bind fun bt116 => ((pyxlaw13_same.f t102 t103 t104 t105 t106 t107 t108 t109 t112 t113 bt116.1 bt116.2.1 bt116.2.2.1 bt116.2.2.2.1 bt116.2.2.2.2.1 bt116.2.2.2.2.2.1 bt116.2.2.2.2.2.2.1 bt116.2.2.2.2.2.2.2.1 bt116.2.2.2.2.2.2.2.2.1 bt116.2.2.2.2.2.2.2.2.2).bind fun t126 => (if t126 = true then (if a0 ≥ 1 then (pyxlaw13_ParamsMatchesReference.j0 k a0 (t114 != (decide (a0 ≤ 25))) t102 t103 t104 t105 t106 t107 t108 t109 t112 t113) else (pyxlaw13_ParamsMatchesReference.j0 k a0 (t114 != false) t102 t103 t104 t105 t106 t107 t108 t109 t112 t113)) else (pyxlaw13_ParamsMatchesReference.j0 k a0 true t102 t103 t104 t105 t106 t107 t108 t109 t112 t113)))) = some r := H
    have A4 := Aside0.mk A40
    clear A40
    have HC5 := Aside0.mk H
    clear H
    go_enter Tryd.func7, Tryd.ntmps7
    go_upto_region 4 with (first | ((with_reducible refine gate_callee (f := 24) rfl ?_); refine goesL_ (some 8) rfl rfl Tryd.func24 (by kernel_rfl) rfl #[] rfl (by (try simp only [List.map_toArray, List.map_cons, List.map_nil]); first | done | rfl | (simp only [List.length_drop, List.length_take]; rfl)) ?_; (with_reducible refine (pyxlaw13_awake.calls  true _ ?side1 A2.out).mono ?_); (case side1 => first | exact HLd | (exact LaidOk.below HLd (by repeat (first | (with_reducible first | exact HB.out | apply below_alloc | apply pw_below_drewN | apply below_drew1) | exact HB.out))) | (repeat (first | exact HLd | apply LaidOk.drewN | apply LaidOk.drew | apply LaidOk.alloc))); rintro e w6 ⟨rfl, hb⟩; refine ⟨_, rfl, ?_⟩; have n0_ := Aside0.mk (below_step (by repeat (first | (with_reducible first | exact HB.out | apply below_alloc | apply pw_below_drewN | apply below_drew1) | exact HB.out)) hb); clear HB; have HB := n0_; clear n0_; (try clear hb); (try clear hb2); (try clear hk); (try clear hi)) | ((with_reducible refine gate_callee (f := 25) rfl ?_); refine goesL_ (some 12) rfl rfl Tryd.func25 (by kernel_rfl) rfl #[.int .i64 a0] rfl (by (try simp only [List.map_toArray, List.map_cons, List.map_nil]); first | done | rfl | (simp only [List.length_drop, List.length_take]; rfl)) ?_; (with_reducible refine (params_Get.calls a0 t102 t103 t104 t105 t106 t107 t108 t109 t112 t113 t114 _ ?side1 A4.out).mono ?_); (case side1 => first | exact HLd | (exact LaidOk.below HLd (by repeat (first | (with_reducible first | exact HB.out | apply below_alloc | apply pw_below_drewN | apply below_drew1) | exact HB.out))) | (repeat (first | exact HLd | apply LaidOk.drewN | apply LaidOk.drew | apply LaidOk.alloc))); rintro e w7 ⟨v110, rfl, ho0, hb⟩; refine ⟨_, rfl, ?_⟩; have n0_ := Aside0.mk (Kd.R_lower ho0 (below_size (by repeat (first | (with_reducible first | exact HB.out | apply below_alloc | apply pw_below_drewN | apply below_drew1) | exact HB.out)))); have n1_ := Aside0.mk (below_step (by repeat (first | (with_reducible first | exact HB.out | apply below_alloc | apply pw_below_drewN | apply below_drew1) | exact HB.out)) hb); clear HB; have HO111 := n0_; have HB := n1_; clear n0_ n1_; (try clear hb); (try clear hb2); (try clear hk); (try clear hi); (try clear ho0)) | ((with_reducible refine gate_dst (N := 3) rfl ?_); refine box_event ?hg (N := 3) ?hd (cs := #[.int .i64 0, .int .i64 0, .string (⟨#[]⟩ : ByteArray), .int .i64 0, .int .i64 0, .int .i64 0, .int .i64 0, .slice none 0 0, .int .i64 0, .int .u32 0]) (t := 37) ?hr ?_; (case hd => rfl); (case hg => rfl); (case hr => first | (go_simp; done) | (go_simp; rfl)); intro gb115 hg w8 hbox hb; have n0_ := Aside0.mk (Kd.R_below (by (with_reducible repeat (first | apply Kd.R_alloc | apply Kd.R_drewN | apply Kd.R_drew)); exact HO111.out) hb); have n1_ := Aside0.mk (below_step (by repeat (first | (with_reducible first | exact HB.out | apply below_alloc | apply pw_below_drewN | apply below_drew1) | exact HB.out)) hb); have n2_ := Aside0.mk (hbox); have n3_ := Aside0.mk ((by rw [hg]; exact (below_size (by repeat (first | (with_reducible first | exact HB.out | apply below_alloc | apply pw_below_drewN | apply below_drew1) | exact HB.out))) : w.heap.size ≤ gb115)); have n4_ := Aside0.mk ((by rw [hg]; exact (below_size (by repeat (first | (with_reducible first | exact HB.out | apply below_alloc | apply pw_below_drewN | apply below_drew1) | exact HB.out))) : w.heap.size ≤ gb115)); clear HO111; clear HB; have HO111 := n0_; have HB := n1_; have BK115 := n2_; have GW115 := n3_; have GE115 := n4_; clear n0_ n1_ n2_ n3_ n4_; clear hb hbox hg; have hcz9_0 : w8.cell? ⟨gb115, 0, none⟩ = some (.int .i64 0) := (blk_cell BK115.out 0).trans rfl; have hcz9_1 : w8.cell? ⟨gb115, 1, none⟩ = some (.int .i64 0) := (blk_cell BK115.out 1).trans rfl; have hcz9_2 : w8.cell? ⟨gb115, 2, none⟩ = some (.string (⟨#[]⟩ : ByteArray)) := (blk_cell BK115.out 2).trans rfl; have hcz9_3 : w8.cell? ⟨gb115, 3, none⟩ = some (.int .i64 0) := (blk_cell BK115.out 3).trans rfl; have hcz9_4 : w8.cell? ⟨gb115, 4, none⟩ = some (.int .i64 0) := (blk_cell BK115.out 4).trans rfl; have hcz9_5 : w8.cell? ⟨gb115, 5, none⟩ = some (.int .i64 0) := (blk_cell BK115.out 5).trans rfl; have hcz9_6 : w8.cell? ⟨gb115, 6, none⟩ = some (.int .i64 0) := (blk_cell BK115.out 6).trans rfl; have hcz9_7 : w8.cell? ⟨gb115, 7, none⟩ = some (.slice none 0 0) := (blk_cell BK115.out 7).trans rfl; have hcz9_8 : w8.cell? ⟨gb115, 8, none⟩ = some (.int .i64 0) := (blk_cell BK115.out 8).trans rfl; have hcz9_9 : w8.cell? ⟨gb115, 9, none⟩ = some (.int .u32 0) := (blk_cell BK115.out 9).trans rfl; have hfz9_0 := blk_frozen BK115.out 0; have hfz9_1 := blk_frozen BK115.out 1; have hfz9_2 := blk_frozen BK115.out 2; have hfz9_3 := blk_frozen BK115.out 3; have hfz9_4 := blk_frozen BK115.out 4; have hfz9_5 := blk_frozen BK115.out 5; have hfz9_6 := blk_frozen BK115.out 6; have hfz9_7 := blk_frozen BK115.out 7; have hfz9_8 := blk_frozen BK115.out 8; have hfz9_9 := blk_frozen BK115.out 9; obtain ⟨Ao10, co10, eo10⟩ := Kd.R_slice HO111.out; subst eo10))
    (try simp only [Act.put, List.setIfInBounds_toArray, List.set_cons_zero, List.set_cons_succ])
    go_cut [29] (fun v29 wc => ∃ (kq : Nat) (x29_4 : Bool), v29 = .bool x29_4 ∧ Aside0 (pyxlaw13_ParamsMatchesReference.j0 kq a0 x29_4 t102 t103 t104 t105 t106 t107 t108 t109 t112 t113 = some r) ∧ Aside0 (kq ≤ k) ∧ Aside0 (Kd.R (Kd.int .u32) 27 wc w.heap.size (fun _ => True) (.slice Ao10 t109.length co10) t109) ∧ Aside0 (wc.heap[gb115]? = some (.cells #[.int .i64 t102, .int .i64 t103, .string t104, .int .i64 t105, .int .i64 t106, .int .i64 t107, .int .i64 t108, (.slice Ao10 t109.length co10), .int .i64 t112, .int .u32 t113] 37 (0, 0))) ∧ Aside0 (Below w.heap.size w wc))
    case first =>
      have H := HC5.out
      clear HC5
      replace H := Option.bind_eq_some_iff.mp H
      obtain ⟨⟨t116, t117, t118, t119, t120, t121, t122, t123, t124, t125⟩, A110, H⟩ := H
      replace H : ((pyxlaw13_same.f t102 t103 t104 t105 t106 t107 t108 t109 t112 t113 t116 t117 t118 t119 t120 t121 t122 t123 t124 t125).bind fun t126 => (if t126 = true then (if a0 ≥ 1 then (pyxlaw13_ParamsMatchesReference.j0 k a0 (t114 != (decide (a0 ≤ 25))) t102 t103 t104 t105 t106 t107 t108 t109 t112 t113) else (pyxlaw13_ParamsMatchesReference.j0 k a0 (t114 != false) t102 t103 t104 t105 t106 t107 t108 t109 t112 t113)) else (pyxlaw13_ParamsMatchesReference.j0 k a0 true t102 t103 t104 t105 t106 t107 t108 t109 t112 t113))) = some r := H
      have A11 := Aside0.mk A110
      clear A110
      replace H := Option.bind_eq_some_iff.mp H
      obtain ⟨t126, A120, H⟩ := H
      replace H : (if t126 = true then (if a0 ≥ 1 then (pyxlaw13_ParamsMatchesReference.j0 k a0 (t114 != (decide (a0 ≤ 25))) t102 t103 t104 t105 t106 t107 t108 t109 t112 t113) else (pyxlaw13_ParamsMatchesReference.j0 k a0 (t114 != false) t102 t103 t104 t105 t106 t107 t108 t109 t112 t113)) else (pyxlaw13_ParamsMatchesReference.j0 k a0 true t102 t103 t104 t105 t106 t107 t108 t109 t112 t113)) = some r := H
      have A12 := Aside0.mk A120
      clear A120
      by_cases c13 : t126 = true
      · subst c13
        have H1 : (if a0 ≥ 1 then (pyxlaw13_ParamsMatchesReference.j0 k a0 (t114 != (decide (a0 ≤ 25))) t102 t103 t104 t105 t106 t107 t108 t109 t112 t113) else (pyxlaw13_ParamsMatchesReference.j0 k a0 (t114 != false) t102 t103 t104 t105 t106 t107 t108 t109 t112 t113)) = some r := by rw [if_pos rfl] at H; exact H
        clear H
        have H := H1
        clear H1
        by_cases c14 : a0 ≥ 1
        · rw [if_pos c14] at H
          have c14b0 : decide (1 ≤ a0) = true := decide_eq_true c14
          clear c14
          (first | rw [c14b0] | (simp only [i64_w, i32_w]; rw [c14b0]) | skip)
          have H' := Aside0.mk H
          clear H
          try go_wp2
          have n0_ : Aside0 (Kd.R (Kd.int .u32) 27 ((((((((((w8.setCell ⟨gb115, 0, none⟩ (.int .i64 t102)).setCell ⟨gb115, 1, none⟩ (.int .i64 t103)).setCell ⟨gb115, 2, none⟩ (.string t104)).setCell ⟨gb115, 3, none⟩ (.int .i64 t105)).setCell ⟨gb115, 4, none⟩ (.int .i64 t106)).setCell ⟨gb115, 5, none⟩ (.int .i64 t107)).setCell ⟨gb115, 6, none⟩ (.int .i64 t108)).setCell ⟨gb115, 7, none⟩ (.slice Ao10 t109.length co10)).setCell ⟨gb115, 8, none⟩ (.int .i64 t112)).setCell ⟨gb115, 9, none⟩ (.int .u32 t113)) w.heap.size (fun _ => True) (.slice Ao10 t109.length co10) t109) := ⟨by (with_reducible repeat (first | apply Kd.R_alloc | apply Kd.R_drewN | apply Kd.R_drew)); exact Kd.R_mono (Kd.R_far (p := ⟨gb115, 9, none⟩) (Kd.R_far (p := ⟨gb115, 8, none⟩) (Kd.R_far (p := ⟨gb115, 7, none⟩) (Kd.R_far (p := ⟨gb115, 6, none⟩) (Kd.R_far (p := ⟨gb115, 5, none⟩) (Kd.R_far (p := ⟨gb115, 4, none⟩) (Kd.R_far (p := ⟨gb115, 3, none⟩) (Kd.R_far (p := ⟨gb115, 2, none⟩) (Kd.R_far (p := ⟨gb115, 1, none⟩) (Kd.R_far (p := ⟨gb115, 0, none⟩) (Kd.R_types HO111.out BK115.out (by decide)) (fun _ hk => hk.2) (.int .i64 t102)) (fun _ hk => hk.2) (.int .i64 t103)) (fun _ hk => hk.2) (.string t104)) (fun _ hk => hk.2) (.int .i64 t105)) (fun _ hk => hk.2) (.int .i64 t106)) (fun _ hk => hk.2) (.int .i64 t107)) (fun _ hk => hk.2) (.int .i64 t108)) (fun _ hk => hk.2) (.slice Ao10 t109.length co10)) (fun _ hk => hk.2) (.int .i64 t112)) (fun _ hk => hk.2) (.int .u32 t113)) (fun _ hk => trivial)⟩
          have n1_ : Aside0 (((((((((((w8.setCell ⟨gb115, 0, none⟩ (.int .i64 t102)).setCell ⟨gb115, 1, none⟩ (.int .i64 t103)).setCell ⟨gb115, 2, none⟩ (.string t104)).setCell ⟨gb115, 3, none⟩ (.int .i64 t105)).setCell ⟨gb115, 4, none⟩ (.int .i64 t106)).setCell ⟨gb115, 5, none⟩ (.int .i64 t107)).setCell ⟨gb115, 6, none⟩ (.int .i64 t108)).setCell ⟨gb115, 7, none⟩ (.slice Ao10 t109.length co10)).setCell ⟨gb115, 8, none⟩ (.int .i64 t112)).setCell ⟨gb115, 9, none⟩ (.int .u32 t113)).heap[gb115]? = some (.cells #[.int .i64 t102, .int .i64 t103, .string t104, .int .i64 t105, .int .i64 t106, .int .i64 t107, .int .i64 t108, .slice Ao10 t109.length co10, .int .i64 t112, .int .u32 t113] 37 (0, 0))) := ⟨by (with_reducible repeat (first | refine blk_drewN ?_ _ | refine blk_drew ?_ | refine blk_alloc ?_ _)); refine blk_put (cs := #[.int .i64 t102, .int .i64 t103, .string t104, .int .i64 t105, .int .i64 t106, .int .i64 t107, .int .i64 t108, .slice Ao10 t109.length co10, .int .i64 t112, .int .u32 0]) ?_ 9 _ rfl; (with_reducible repeat (first | refine blk_drewN ?_ _ | refine blk_drew ?_ | refine blk_alloc ?_ _)); refine blk_put (cs := #[.int .i64 t102, .int .i64 t103, .string t104, .int .i64 t105, .int .i64 t106, .int .i64 t107, .int .i64 t108, .slice Ao10 t109.length co10, .int .i64 0, .int .u32 0]) ?_ 8 _ rfl; (with_reducible repeat (first | refine blk_drewN ?_ _ | refine blk_drew ?_ | refine blk_alloc ?_ _)); refine blk_put (cs := #[.int .i64 t102, .int .i64 t103, .string t104, .int .i64 t105, .int .i64 t106, .int .i64 t107, .int .i64 t108, .slice none 0 0, .int .i64 0, .int .u32 0]) ?_ 7 _ rfl; (with_reducible repeat (first | refine blk_drewN ?_ _ | refine blk_drew ?_ | refine blk_alloc ?_ _)); refine blk_put (cs := #[.int .i64 t102, .int .i64 t103, .string t104, .int .i64 t105, .int .i64 t106, .int .i64 t107, .int .i64 0, .slice none 0 0, .int .i64 0, .int .u32 0]) ?_ 6 _ rfl; (with_reducible repeat (first | refine blk_drewN ?_ _ | refine blk_drew ?_ | refine blk_alloc ?_ _)); refine blk_put (cs := #[.int .i64 t102, .int .i64 t103, .string t104, .int .i64 t105, .int .i64 t106, .int .i64 0, .int .i64 0, .slice none 0 0, .int .i64 0, .int .u32 0]) ?_ 5 _ rfl; (with_reducible repeat (first | refine blk_drewN ?_ _ | refine blk_drew ?_ | refine blk_alloc ?_ _)); refine blk_put (cs := #[.int .i64 t102, .int .i64 t103, .string t104, .int .i64 t105, .int .i64 0, .int .i64 0, .int .i64 0, .slice none 0 0, .int .i64 0, .int .u32 0]) ?_ 4 _ rfl; (with_reducible repeat (first | refine blk_drewN ?_ _ | refine blk_drew ?_ | refine blk_alloc ?_ _)); refine blk_put (cs := #[.int .i64 t102, .int .i64 t103, .string t104, .int .i64 0, .int .i64 0, .int .i64 0, .int .i64 0, .slice none 0 0, .int .i64 0, .int .u32 0]) ?_ 3 _ rfl; (with_reducible repeat (first | refine blk_drewN ?_ _ | refine blk_drew ?_ | refine blk_alloc ?_ _)); refine blk_put (cs := #[.int .i64 t102, .int .i64 t103, .string (⟨#[]⟩ : ByteArray), .int .i64 0, .int .i64 0, .int .i64 0, .int .i64 0, .slice none 0 0, .int .i64 0, .int .u32 0]) ?_ 2 _ rfl; (with_reducible repeat (first | refine blk_drewN ?_ _ | refine blk_drew ?_ | refine blk_alloc ?_ _)); refine blk_put (cs := #[.int .i64 t102, .int .i64 0, .string (⟨#[]⟩ : ByteArray), .int .i64 0, .int .i64 0, .int .i64 0, .int .i64 0, .slice none 0 0, .int .i64 0, .int .u32 0]) ?_ 1 _ rfl; (with_reducible repeat (first | refine blk_drewN ?_ _ | refine blk_drew ?_ | refine blk_alloc ?_ _)); refine blk_put (cs := #[.int .i64 0, .int .i64 0, .string (⟨#[]⟩ : ByteArray), .int .i64 0, .int .i64 0, .int .i64 0, .int .i64 0, .slice none 0 0, .int .i64 0, .int .u32 0]) ?_ 0 _ rfl; (with_reducible repeat (first | refine blk_drewN ?_ _ | refine blk_drew ?_ | refine blk_alloc ?_ _)); exact BK115.out⟩
          have n2_ : Aside0 (Below w.heap.size w ((((((((((w8.setCell ⟨gb115, 0, none⟩ (.int .i64 t102)).setCell ⟨gb115, 1, none⟩ (.int .i64 t103)).setCell ⟨gb115, 2, none⟩ (.string t104)).setCell ⟨gb115, 3, none⟩ (.int .i64 t105)).setCell ⟨gb115, 4, none⟩ (.int .i64 t106)).setCell ⟨gb115, 5, none⟩ (.int .i64 t107)).setCell ⟨gb115, 6, none⟩ (.int .i64 t108)).setCell ⟨gb115, 7, none⟩ (.slice Ao10 t109.length co10)).setCell ⟨gb115, 8, none⟩ (.int .i64 t112)).setCell ⟨gb115, 9, none⟩ (.int .u32 t113))) := ⟨by repeat (first | (with_reducible first | exact HB.out | apply below_alloc | apply pw_below_drewN | apply below_drew1 | refine below_set ?_ GE115.out) | exact HB.out)⟩
          (try clear HO111)
          (try clear BK115)
          (try clear HB)
          generalize ((((((((((w8.setCell ⟨gb115, 0, none⟩ (.int .i64 t102)).setCell ⟨gb115, 1, none⟩ (.int .i64 t103)).setCell ⟨gb115, 2, none⟩ (.string t104)).setCell ⟨gb115, 3, none⟩ (.int .i64 t105)).setCell ⟨gb115, 4, none⟩ (.int .i64 t106)).setCell ⟨gb115, 5, none⟩ (.int .i64 t107)).setCell ⟨gb115, 6, none⟩ (.int .i64 t108)).setCell ⟨gb115, 7, none⟩ (.slice Ao10 t109.length co10)).setCell ⟨gb115, 8, none⟩ (.int .i64 t112)).setCell ⟨gb115, 9, none⟩ (.int .u32 t113)) = w15 at n0_ n1_ n2_ ⊢
          have HO111 := n0_
          have BK115 := n1_
          have HB := n2_
          clear n0_ n1_ n2_
          have n0_ := Aside0.mk (Kd.R_drew HO111.out)
          have n1_ := Aside0.mk (blk_drew BK115.out)
          have n2_ := Aside0.mk (below_drew1 HB.out)
          clear HO111
          clear BK115
          clear HB
          have HO111 := n0_
          have BK115 := n1_
          have HB := n2_
          clear n0_ n1_ n2_
          refine start_ (n := 15) (S := fun w' => w'.cell? ⟨gb115, 0, none⟩ = some (.int .i64 t102) ∧ w'.cell? ⟨gb115, 1, none⟩ = some (.int .i64 t103) ∧ w'.cell? ⟨gb115, 2, none⟩ = some (.string t104) ∧ w'.cell? ⟨gb115, 3, none⟩ = some (.int .i64 t105) ∧ w'.cell? ⟨gb115, 4, none⟩ = some (.int .i64 t106) ∧ w'.cell? ⟨gb115, 5, none⟩ = some (.int .i64 t107) ∧ w'.cell? ⟨gb115, 6, none⟩ = some (.int .i64 t108) ∧ w'.cell? ⟨gb115, 7, none⟩ = some (.slice Ao10 t109.length co10) ∧ w'.cell? ⟨gb115, 8, none⟩ = some (.int .i64 t112) ∧ w'.cell? ⟨gb115, 9, none⟩ = some (.int .u32 t113)) (ds := []) #[false, false, false, false, false, false, false, false, false, false, false, false, false, false, false] (by kernel_rfl) rfl rfl ⟨(blk_cell BK115.out 0).trans rfl, (blk_cell BK115.out 1).trans rfl, (blk_cell BK115.out 2).trans rfl, (blk_cell BK115.out 3).trans rfl, (blk_cell BK115.out 4).trans rfl, (blk_cell BK115.out 5).trans rfl, (blk_cell BK115.out 6).trans rfl, (blk_cell BK115.out 7).trans rfl, (blk_cell BK115.out 8).trans rfl, (blk_cell BK115.out 9).trans rfl⟩ (fun hHeld => ?_); refine with_tabW pyxlaw13_ParamsMatchesReference.tab4 pyxlaw13_ParamsMatchesReference.bits4 (fun HT_ HW_ => ?_)
          generalize w15.drew = w16 at HO111 BK115 HB hHeld ⊢
          refine pure_ (i := 1) (N := some 16) (v := ?_) (a' := ?_) #[false, true, false, false, false, false, false, false, false, false, false, false, false, false, false] rfl rfl (any_of HT_.out (by kernel_rfl)) (fun _ _ _ h => h) (Or.inl ⟨by rfl, ?_⟩) ?_ ?_
          rotate_left
          · intro w'
            go_simp
            with_reducible rfl
          rotate_left
          · simp only [Act.put, List.setIfInBounds_toArray, List.set_cons_zero, List.set_cons_succ, i64_w, i32_w]
            rfl
          refine take_ (i := 0) (N := some 15) (v := ?_) (a' := ?_) #[true, true, false, false, false, false, false, false, false, false, false, false, false, false, false] rfl rfl (take_ofW HT_.out HW_.out (by kernel_rfl)) (fun _ _ _ h => h) (Or.inl ⟨by rfl, ?_⟩) hHeld ?_ ?_
          rotate_left
          · rintro w' ⟨s0, s1, s2, s3, s4, s5, s6, s7, s8, s9⟩
            go_simp
            with_reducible rfl
          rotate_left
          · simp only [Act.put, List.setIfInBounds_toArray, List.set_cons_zero, List.set_cons_succ, i64_w, i32_w]
            rfl
          refine one_ (i := 2) (N := some 17) #[true, true, true, false, false, false, false, false, false, false, false, false, false, false, false] rfl rfl (one_of HT_.out (by kernel_rfl)) (by decide) (fun K hK => ?_)
          refine goes_ Tryd.func27 (by kernel_rfl) rfl #[.int .i64 a0] (by rfl) rfl rfl (by (try simp only [List.map_toArray, List.map_cons, List.map_nil]); first | done | rfl | (simp only [List.length_drop, List.length_take]; rfl)) ?_
          with_reducible refine (pyxref13_Get.calls a0 t116 t117 t118 t119 t120 t121 t122 t123 t124 t125 _ A11.out).mono ?_
          rintro e w17 ⟨rfl, hb⟩
          refine ⟨_, rfl, ?_⟩
          have n0_ := Aside0.mk (Kd.R_below (by (with_reducible repeat (first | apply Kd.R_alloc | apply Kd.R_drewN | apply Kd.R_drew)); exact HO111.out) hb)
          have n1_ := Aside0.mk (blk_below (g := gb115) (o := .cells #[.int .i64 t102, .int .i64 t103, .string t104, .int .i64 t105, .int .i64 t106, .int .i64 t107, .int .i64 t108, .slice Ao10 t109.length co10, .int .i64 t112, .int .u32 t113] 37 (0, 0)) (by (with_reducible repeat (first | refine blk_drewN ?_ _ | refine blk_drew ?_ | refine blk_alloc ?_ _)); exact BK115.out) hb)
          have n2_ := Aside0.mk (below_step (by repeat (first | (with_reducible first | exact HB.out | apply below_alloc | apply pw_below_drewN | apply below_drew1 | refine below_set ?_ GE115.out) | exact HB.out)) hb)
          clear HO111
          clear BK115
          clear HB
          have HO111 := n0_
          have BK115 := n1_
          have HB := n2_
          clear n0_ n1_ n2_
          (try clear hb)
          (try clear hb2)
          (try clear hk)
          (try clear hi)
          refine hK.out _ _ ⟨(blk_cell BK115.out 0).trans rfl, (blk_cell BK115.out 1).trans rfl, (blk_cell BK115.out 2).trans rfl, (blk_cell BK115.out 3).trans rfl, (blk_cell BK115.out 4).trans rfl, (blk_cell BK115.out 5).trans rfl, (blk_cell BK115.out 6).trans rfl, (blk_cell BK115.out 7).trans rfl, (blk_cell BK115.out 8).trans rfl, (blk_cell BK115.out 9).trans rfl⟩ (fun hHeld => ?_)
          clear hK K
          refine norm_ (a' := ?_) ?_ ?_
          rotate_left
          · show Act.put _ (some 17) _ = _
            simp only [Act.put, List.setIfInBounds_toArray, List.set_cons_zero, List.set_cons_succ, i64_w, i32_w]
            rfl
          refine one_ (i := 3) (N := some 18) #[true, true, true, true, false, false, false, false, false, false, false, false, false, false, false] rfl rfl (one_of HT_.out (by kernel_rfl)) (by decide) (fun K hK => ?_)
          refine goes_ Tryd.func26 (by kernel_rfl) rfl #[.agg #[.int .i64 t102, .int .i64 t103, .string t104, .int .i64 t105, .int .i64 t106, .int .i64 t107, .int .i64 t108, .slice Ao10 t109.length co10, .int .i64 t112, .int .u32 t113], .agg #[.int .i64 t116, .int .i64 t117, .string t118, .int .i64 t119, .int .i64 t120, .int .i64 t121, .int .i64 t122, .string t123, .int .i64 t124, .int .u32 t125]] (by rfl) rfl rfl (by (try simp only [List.map_toArray, List.map_cons, List.map_nil]); first | done | rfl | (simp only [List.length_drop, List.length_take]; rfl)) ?_
          with_reducible refine (pyxlaw13_same.calls t102 t103 t104 t105 t106 t107 t108 _ _ t109 t112 t113 t116 t117 t118 t119 t120 t121 t122 t123 t124 t125 true _ ?side1 ?side2 ?side3 A12.out).mono ?_
          (case side1 => first | exact HLd | (exact LaidOk.below HLd (by repeat (first | (with_reducible first | exact HB.out | apply below_alloc | apply pw_below_drewN | apply below_drew1) | exact HB.out))) | (repeat (first | exact HLd | apply LaidOk.drewN | apply LaidOk.drew | apply LaidOk.alloc)))
          (case side2 => repeat (first | exact (Kd.R_reads' HO111.out).2.2 | (with_reducible refine Kd.C_alloc ?_ _) | (with_reducible refine Kd.C_drewN ?_ _) | (with_reducible refine Kd.C_drew ?_)))
          (case side3 => exact (Kd.R_reads' HO111.out).2.1)
          rintro e w18 ⟨rfl, hb⟩
          refine ⟨_, rfl, ?_⟩
          have n0_ := Aside0.mk (Kd.R_below (by (with_reducible repeat (first | apply Kd.R_alloc | apply Kd.R_drewN | apply Kd.R_drew)); exact HO111.out) hb)
          have n1_ := Aside0.mk (blk_below (g := gb115) (o := .cells #[.int .i64 t102, .int .i64 t103, .string t104, .int .i64 t105, .int .i64 t106, .int .i64 t107, .int .i64 t108, .slice Ao10 t109.length co10, .int .i64 t112, .int .u32 t113] 37 (0, 0)) (by (with_reducible repeat (first | refine blk_drewN ?_ _ | refine blk_drew ?_ | refine blk_alloc ?_ _)); exact BK115.out) hb)
          have n2_ := Aside0.mk (below_step (by repeat (first | (with_reducible first | exact HB.out | apply below_alloc | apply pw_below_drewN | apply below_drew1 | refine below_set ?_ GE115.out) | exact HB.out)) hb)
          clear HO111
          clear BK115
          clear HB
          have HO111 := n0_
          have BK115 := n1_
          have HB := n2_
          clear n0_ n1_ n2_
          (try clear hb)
          (try clear hb2)
          (try clear hk)
          (try clear hi)
          refine hK.out _ _ ⟨(blk_cell BK115.out 0).trans rfl, (blk_cell BK115.out 1).trans rfl, (blk_cell BK115.out 2).trans rfl, (blk_cell BK115.out 3).trans rfl, (blk_cell BK115.out 4).trans rfl, (blk_cell BK115.out 5).trans rfl, (blk_cell BK115.out 6).trans rfl, (blk_cell BK115.out 7).trans rfl, (blk_cell BK115.out 8).trans rfl, (blk_cell BK115.out 9).trans rfl⟩ (fun hHeld => ?_)
          clear hK K
          refine norm_ (a' := ?_) ?_ ?_
          rotate_left
          · show Act.put _ (some 18) _ = _
            simp only [Act.put, List.setIfInBounds_toArray, List.set_cons_zero, List.set_cons_succ, i64_w, i32_w]
            rfl
          refine pure_ (i := 4) (N := some 19) (v := ?_) (a' := ?_) #[true, true, true, true, true, false, false, false, false, false, false, false, false, false, false] rfl rfl (any_of HT_.out (by kernel_rfl)) (fun _ _ _ h => h) (Or.inl ⟨by rfl, ?_⟩) ?_ ?_
          rotate_left
          · intro w'
            go_simp
            with_reducible rfl
          rotate_left
          · simp only [Act.put, List.setIfInBounds_toArray, List.set_cons_zero, List.set_cons_succ, i64_w, i32_w]
            rfl
          refine pure_ (i := 5) (N := some 20) (v := ?_) (a' := ?_) #[true, true, true, true, true, true, false, false, false, false, false, false, false, false, false] rfl rfl (any_of HT_.out (by kernel_rfl)) (fun _ _ _ h => h) (Or.inl ⟨by rfl, ?_⟩) ?_ ?_
          rotate_left
          · intro w'
            go_simp
            with_reducible rfl
          rotate_left
          · simp only [Act.put, List.setIfInBounds_toArray, List.set_cons_zero, List.set_cons_succ, i64_w, i32_w]
            rfl
          refine pure_ (i := 6) (N := some 21) (v := ?_) (a' := ?_) #[true, true, true, true, true, true, true, false, false, false, false, false, false, false, false] rfl rfl (any_of HT_.out (by kernel_rfl)) (fun _ _ _ h => h) (Or.inl ⟨by rfl, ?_⟩) ?_ ?_
          rotate_left
          · intro w'
            go_simp
            with_reducible rfl
          rotate_left
          · simp only [Act.put, List.setIfInBounds_toArray, List.set_cons_zero, List.set_cons_succ, i64_w, i32_w]
            rfl
          refine pure_ (i := 7) (N := some 22) (v := ?_) (a' := ?_) #[true, true, true, true, true, true, true, true, false, false, false, false, false, false, false] rfl rfl (any_of HT_.out (by kernel_rfl)) (fun _ _ _ h => h) (Or.inl ⟨by rfl, ?_⟩) ?_ ?_
          rotate_left
          · intro w'
            go_simp
            with_reducible rfl
          rotate_left
          · simp only [Act.put, List.setIfInBounds_toArray, List.set_cons_zero, List.set_cons_succ, i64_w, i32_w]
            rfl
          refine pure_ (i := 8) (N := some 23) (v := ?_) (a' := ?_) #[true, true, true, true, true, true, true, true, true, false, false, false, false, false, false] rfl rfl (any_of HT_.out (by kernel_rfl)) (fun _ _ _ h => h) (Or.inl ⟨by rfl, ?_⟩) ?_ ?_
          rotate_left
          · intro w'
            go_simp
            with_reducible rfl
          rotate_left
          · simp only [Act.put, List.setIfInBounds_toArray, List.set_cons_zero, List.set_cons_succ, i64_w, i32_w]
            rfl
          refine pure_ (i := 9) (N := some 24) (v := ?_) (a' := ?_) #[true, true, true, true, true, true, true, true, true, true, false, false, false, false, false] rfl rfl (any_of HT_.out (by kernel_rfl)) (fun _ _ _ h => h) (Or.inl ⟨by rfl, ?_⟩) ?_ ?_
          rotate_left
          · intro w'
            go_simp
            with_reducible rfl
          rotate_left
          · simp only [Act.put, List.setIfInBounds_toArray, List.set_cons_zero, List.set_cons_succ, i64_w, i32_w]
            rfl
          refine pure_ (i := 10) (N := some 25) (v := ?_) (a' := ?_) #[true, true, true, true, true, true, true, true, true, true, true, false, false, false, false] rfl rfl (any_of HT_.out (by kernel_rfl)) (fun _ _ _ h => h) (Or.inl ⟨by rfl, ?_⟩) ?_ ?_
          rotate_left
          · intro w'
            go_simp
            with_reducible rfl
          rotate_left
          · simp only [Act.put, List.setIfInBounds_toArray, List.set_cons_zero, List.set_cons_succ, i64_w, i32_w]
            rfl
          refine pure_ (i := 11) (N := some 26) (v := ?_) (a' := ?_) #[true, true, true, true, true, true, true, true, true, true, true, true, false, false, false] rfl rfl (any_of HT_.out (by kernel_rfl)) (fun _ _ _ h => h) (Or.inl ⟨by rfl, ?_⟩) ?_ ?_
          rotate_left
          · intro w'
            go_simp
            with_reducible rfl
          rotate_left
          · simp only [Act.put, List.setIfInBounds_toArray, List.set_cons_zero, List.set_cons_succ, i64_w, i32_w]
            rfl
          refine pure_ (i := 12) (N := some 27) (v := ?_) (a' := ?_) #[true, true, true, true, true, true, true, true, true, true, true, true, true, false, false] rfl rfl (any_of HT_.out (by kernel_rfl)) (fun _ _ _ h => h) (Or.inl ⟨by rfl, ?_⟩) ?_ ?_
          rotate_left
          · intro w'
            go_simp
            with_reducible rfl
          rotate_left
          · simp only [Act.put, List.setIfInBounds_toArray, List.set_cons_zero, List.set_cons_succ, i64_w, i32_w]
            rfl
          refine pure_ (i := 13) (N := some 28) (v := ?_) (a' := ?_) #[true, true, true, true, true, true, true, true, true, true, true, true, true, true, false] rfl rfl (any_of HT_.out (by kernel_rfl)) (fun _ _ _ h => h) (Or.inl ⟨by rfl, ?_⟩) ?_ ?_
          rotate_left
          · intro w'
            go_simp
            with_reducible rfl
          rotate_left
          · simp only [Act.put, List.setIfInBounds_toArray, List.set_cons_zero, List.set_cons_succ, i64_w, i32_w]
            rfl
          refine pure_ (i := 14) (N := some 29) (v := ?_) (a' := ?_) #[true, true, true, true, true, true, true, true, true, true, true, true, true, true, true] rfl rfl (any_of HT_.out (by kernel_rfl)) (fun _ _ _ h => h) (Or.inl ⟨by rfl, ?_⟩) ?_ ?_
          rotate_left
          · intro w'
            go_simp
            with_reducible rfl
          rotate_left
          · simp only [Act.put, List.setIfInBounds_toArray, List.set_cons_zero, List.set_cons_succ, i64_w, i32_w]
            rfl
          refine done_ (done_of HT_.out (by kernel_rfl)) ?_
          try go_wp2
          go_meet
          case rel => exact ⟨_, ((t114 != (decide (a0 ≤ 25)))), (by first | rfl | (simp; done) | (simp [*]; done)), H', ⟨by first | omega | exact Nat.le_refl _⟩, ⟨by (with_reducible repeat (first | apply Kd.R_alloc | apply Kd.R_drewN | apply Kd.R_drew)); exact HO111.out⟩, ⟨by (with_reducible repeat (first | refine blk_drewN ?_ _ | refine blk_drew ?_ | refine blk_alloc ?_ _)); exact BK115.out⟩, ⟨by repeat (first | (with_reducible first | exact HB.out | apply below_alloc | apply pw_below_drewN | apply below_drew1 | refine below_set ?_ GE115.out) | exact HB.out)⟩⟩
        · rw [if_neg c14] at H
          have c14b0 : decide (1 ≤ a0) = false := decide_eq_false c14
          clear c14
          (first | rw [c14b0] | (simp only [i64_w, i32_w]; rw [c14b0]) | skip)
          have H' := Aside0.mk H
          clear H
          try go_wp2
          have n0_ : Aside0 (Kd.R (Kd.int .u32) 27 ((((((((((w8.setCell ⟨gb115, 0, none⟩ (.int .i64 t102)).setCell ⟨gb115, 1, none⟩ (.int .i64 t103)).setCell ⟨gb115, 2, none⟩ (.string t104)).setCell ⟨gb115, 3, none⟩ (.int .i64 t105)).setCell ⟨gb115, 4, none⟩ (.int .i64 t106)).setCell ⟨gb115, 5, none⟩ (.int .i64 t107)).setCell ⟨gb115, 6, none⟩ (.int .i64 t108)).setCell ⟨gb115, 7, none⟩ (.slice Ao10 t109.length co10)).setCell ⟨gb115, 8, none⟩ (.int .i64 t112)).setCell ⟨gb115, 9, none⟩ (.int .u32 t113)) w.heap.size (fun _ => True) (.slice Ao10 t109.length co10) t109) := ⟨by (with_reducible repeat (first | apply Kd.R_alloc | apply Kd.R_drewN | apply Kd.R_drew)); exact Kd.R_mono (Kd.R_far (p := ⟨gb115, 9, none⟩) (Kd.R_far (p := ⟨gb115, 8, none⟩) (Kd.R_far (p := ⟨gb115, 7, none⟩) (Kd.R_far (p := ⟨gb115, 6, none⟩) (Kd.R_far (p := ⟨gb115, 5, none⟩) (Kd.R_far (p := ⟨gb115, 4, none⟩) (Kd.R_far (p := ⟨gb115, 3, none⟩) (Kd.R_far (p := ⟨gb115, 2, none⟩) (Kd.R_far (p := ⟨gb115, 1, none⟩) (Kd.R_far (p := ⟨gb115, 0, none⟩) (Kd.R_types HO111.out BK115.out (by decide)) (fun _ hk => hk.2) (.int .i64 t102)) (fun _ hk => hk.2) (.int .i64 t103)) (fun _ hk => hk.2) (.string t104)) (fun _ hk => hk.2) (.int .i64 t105)) (fun _ hk => hk.2) (.int .i64 t106)) (fun _ hk => hk.2) (.int .i64 t107)) (fun _ hk => hk.2) (.int .i64 t108)) (fun _ hk => hk.2) (.slice Ao10 t109.length co10)) (fun _ hk => hk.2) (.int .i64 t112)) (fun _ hk => hk.2) (.int .u32 t113)) (fun _ hk => trivial)⟩
          have n1_ : Aside0 (((((((((((w8.setCell ⟨gb115, 0, none⟩ (.int .i64 t102)).setCell ⟨gb115, 1, none⟩ (.int .i64 t103)).setCell ⟨gb115, 2, none⟩ (.string t104)).setCell ⟨gb115, 3, none⟩ (.int .i64 t105)).setCell ⟨gb115, 4, none⟩ (.int .i64 t106)).setCell ⟨gb115, 5, none⟩ (.int .i64 t107)).setCell ⟨gb115, 6, none⟩ (.int .i64 t108)).setCell ⟨gb115, 7, none⟩ (.slice Ao10 t109.length co10)).setCell ⟨gb115, 8, none⟩ (.int .i64 t112)).setCell ⟨gb115, 9, none⟩ (.int .u32 t113)).heap[gb115]? = some (.cells #[.int .i64 t102, .int .i64 t103, .string t104, .int .i64 t105, .int .i64 t106, .int .i64 t107, .int .i64 t108, .slice Ao10 t109.length co10, .int .i64 t112, .int .u32 t113] 37 (0, 0))) := ⟨by (with_reducible repeat (first | refine blk_drewN ?_ _ | refine blk_drew ?_ | refine blk_alloc ?_ _)); refine blk_put (cs := #[.int .i64 t102, .int .i64 t103, .string t104, .int .i64 t105, .int .i64 t106, .int .i64 t107, .int .i64 t108, .slice Ao10 t109.length co10, .int .i64 t112, .int .u32 0]) ?_ 9 _ rfl; (with_reducible repeat (first | refine blk_drewN ?_ _ | refine blk_drew ?_ | refine blk_alloc ?_ _)); refine blk_put (cs := #[.int .i64 t102, .int .i64 t103, .string t104, .int .i64 t105, .int .i64 t106, .int .i64 t107, .int .i64 t108, .slice Ao10 t109.length co10, .int .i64 0, .int .u32 0]) ?_ 8 _ rfl; (with_reducible repeat (first | refine blk_drewN ?_ _ | refine blk_drew ?_ | refine blk_alloc ?_ _)); refine blk_put (cs := #[.int .i64 t102, .int .i64 t103, .string t104, .int .i64 t105, .int .i64 t106, .int .i64 t107, .int .i64 t108, .slice none 0 0, .int .i64 0, .int .u32 0]) ?_ 7 _ rfl; (with_reducible repeat (first | refine blk_drewN ?_ _ | refine blk_drew ?_ | refine blk_alloc ?_ _)); refine blk_put (cs := #[.int .i64 t102, .int .i64 t103, .string t104, .int .i64 t105, .int .i64 t106, .int .i64 t107, .int .i64 0, .slice none 0 0, .int .i64 0, .int .u32 0]) ?_ 6 _ rfl; (with_reducible repeat (first | refine blk_drewN ?_ _ | refine blk_drew ?_ | refine blk_alloc ?_ _)); refine blk_put (cs := #[.int .i64 t102, .int .i64 t103, .string t104, .int .i64 t105, .int .i64 t106, .int .i64 0, .int .i64 0, .slice none 0 0, .int .i64 0, .int .u32 0]) ?_ 5 _ rfl; (with_reducible repeat (first | refine blk_drewN ?_ _ | refine blk_drew ?_ | refine blk_alloc ?_ _)); refine blk_put (cs := #[.int .i64 t102, .int .i64 t103, .string t104, .int .i64 t105, .int .i64 0, .int .i64 0, .int .i64 0, .slice none 0 0, .int .i64 0, .int .u32 0]) ?_ 4 _ rfl; (with_reducible repeat (first | refine blk_drewN ?_ _ | refine blk_drew ?_ | refine blk_alloc ?_ _)); refine blk_put (cs := #[.int .i64 t102, .int .i64 t103, .string t104, .int .i64 0, .int .i64 0, .int .i64 0, .int .i64 0, .slice none 0 0, .int .i64 0, .int .u32 0]) ?_ 3 _ rfl; (with_reducible repeat (first | refine blk_drewN ?_ _ | refine blk_drew ?_ | refine blk_alloc ?_ _)); refine blk_put (cs := #[.int .i64 t102, .int .i64 t103, .string (⟨#[]⟩ : ByteArray), .int .i64 0, .int .i64 0, .int .i64 0, .int .i64 0, .slice none 0 0, .int .i64 0, .int .u32 0]) ?_ 2 _ rfl; (with_reducible repeat (first | refine blk_drewN ?_ _ | refine blk_drew ?_ | refine blk_alloc ?_ _)); refine blk_put (cs := #[.int .i64 t102, .int .i64 0, .string (⟨#[]⟩ : ByteArray), .int .i64 0, .int .i64 0, .int .i64 0, .int .i64 0, .slice none 0 0, .int .i64 0, .int .u32 0]) ?_ 1 _ rfl; (with_reducible repeat (first | refine blk_drewN ?_ _ | refine blk_drew ?_ | refine blk_alloc ?_ _)); refine blk_put (cs := #[.int .i64 0, .int .i64 0, .string (⟨#[]⟩ : ByteArray), .int .i64 0, .int .i64 0, .int .i64 0, .int .i64 0, .slice none 0 0, .int .i64 0, .int .u32 0]) ?_ 0 _ rfl; (with_reducible repeat (first | refine blk_drewN ?_ _ | refine blk_drew ?_ | refine blk_alloc ?_ _)); exact BK115.out⟩
          have n2_ : Aside0 (Below w.heap.size w ((((((((((w8.setCell ⟨gb115, 0, none⟩ (.int .i64 t102)).setCell ⟨gb115, 1, none⟩ (.int .i64 t103)).setCell ⟨gb115, 2, none⟩ (.string t104)).setCell ⟨gb115, 3, none⟩ (.int .i64 t105)).setCell ⟨gb115, 4, none⟩ (.int .i64 t106)).setCell ⟨gb115, 5, none⟩ (.int .i64 t107)).setCell ⟨gb115, 6, none⟩ (.int .i64 t108)).setCell ⟨gb115, 7, none⟩ (.slice Ao10 t109.length co10)).setCell ⟨gb115, 8, none⟩ (.int .i64 t112)).setCell ⟨gb115, 9, none⟩ (.int .u32 t113))) := ⟨by repeat (first | (with_reducible first | exact HB.out | apply below_alloc | apply pw_below_drewN | apply below_drew1 | refine below_set ?_ GE115.out) | exact HB.out)⟩
          (try clear HO111)
          (try clear BK115)
          (try clear HB)
          generalize ((((((((((w8.setCell ⟨gb115, 0, none⟩ (.int .i64 t102)).setCell ⟨gb115, 1, none⟩ (.int .i64 t103)).setCell ⟨gb115, 2, none⟩ (.string t104)).setCell ⟨gb115, 3, none⟩ (.int .i64 t105)).setCell ⟨gb115, 4, none⟩ (.int .i64 t106)).setCell ⟨gb115, 5, none⟩ (.int .i64 t107)).setCell ⟨gb115, 6, none⟩ (.int .i64 t108)).setCell ⟨gb115, 7, none⟩ (.slice Ao10 t109.length co10)).setCell ⟨gb115, 8, none⟩ (.int .i64 t112)).setCell ⟨gb115, 9, none⟩ (.int .u32 t113)) = w19 at n0_ n1_ n2_ ⊢
          have HO111 := n0_
          have BK115 := n1_
          have HB := n2_
          clear n0_ n1_ n2_
          have n0_ := Aside0.mk (Kd.R_drew HO111.out)
          have n1_ := Aside0.mk (blk_drew BK115.out)
          have n2_ := Aside0.mk (below_drew1 HB.out)
          clear HO111
          clear BK115
          clear HB
          have HO111 := n0_
          have BK115 := n1_
          have HB := n2_
          clear n0_ n1_ n2_
          refine start_ (n := 15) (S := fun w' => w'.cell? ⟨gb115, 0, none⟩ = some (.int .i64 t102) ∧ w'.cell? ⟨gb115, 1, none⟩ = some (.int .i64 t103) ∧ w'.cell? ⟨gb115, 2, none⟩ = some (.string t104) ∧ w'.cell? ⟨gb115, 3, none⟩ = some (.int .i64 t105) ∧ w'.cell? ⟨gb115, 4, none⟩ = some (.int .i64 t106) ∧ w'.cell? ⟨gb115, 5, none⟩ = some (.int .i64 t107) ∧ w'.cell? ⟨gb115, 6, none⟩ = some (.int .i64 t108) ∧ w'.cell? ⟨gb115, 7, none⟩ = some (.slice Ao10 t109.length co10) ∧ w'.cell? ⟨gb115, 8, none⟩ = some (.int .i64 t112) ∧ w'.cell? ⟨gb115, 9, none⟩ = some (.int .u32 t113)) (ds := []) #[false, false, false, false, false, false, false, false, false, false, false, false, false, false, false] (by kernel_rfl) rfl rfl ⟨(blk_cell BK115.out 0).trans rfl, (blk_cell BK115.out 1).trans rfl, (blk_cell BK115.out 2).trans rfl, (blk_cell BK115.out 3).trans rfl, (blk_cell BK115.out 4).trans rfl, (blk_cell BK115.out 5).trans rfl, (blk_cell BK115.out 6).trans rfl, (blk_cell BK115.out 7).trans rfl, (blk_cell BK115.out 8).trans rfl, (blk_cell BK115.out 9).trans rfl⟩ (fun hHeld => ?_); refine with_tabW pyxlaw13_ParamsMatchesReference.tab4 pyxlaw13_ParamsMatchesReference.bits4 (fun HT_ HW_ => ?_)
          generalize w19.drew = w20 at HO111 BK115 HB hHeld ⊢
          refine pure_ (i := 1) (N := some 16) (v := ?_) (a' := ?_) #[false, true, false, false, false, false, false, false, false, false, false, false, false, false, false] rfl rfl (any_of HT_.out (by kernel_rfl)) (fun _ _ _ h => h) (Or.inl ⟨by rfl, ?_⟩) ?_ ?_
          rotate_left
          · intro w'
            go_simp
            with_reducible rfl
          rotate_left
          · simp only [Act.put, List.setIfInBounds_toArray, List.set_cons_zero, List.set_cons_succ, i64_w, i32_w]
            rfl
          refine take_ (i := 0) (N := some 15) (v := ?_) (a' := ?_) #[true, true, false, false, false, false, false, false, false, false, false, false, false, false, false] rfl rfl (take_ofW HT_.out HW_.out (by kernel_rfl)) (fun _ _ _ h => h) (Or.inl ⟨by rfl, ?_⟩) hHeld ?_ ?_
          rotate_left
          · rintro w' ⟨s0, s1, s2, s3, s4, s5, s6, s7, s8, s9⟩
            go_simp
            with_reducible rfl
          rotate_left
          · simp only [Act.put, List.setIfInBounds_toArray, List.set_cons_zero, List.set_cons_succ, i64_w, i32_w]
            rfl
          refine one_ (i := 2) (N := some 17) #[true, true, true, false, false, false, false, false, false, false, false, false, false, false, false] rfl rfl (one_of HT_.out (by kernel_rfl)) (by decide) (fun K hK => ?_)
          refine goes_ Tryd.func27 (by kernel_rfl) rfl #[.int .i64 a0] (by rfl) rfl rfl (by (try simp only [List.map_toArray, List.map_cons, List.map_nil]); first | done | rfl | (simp only [List.length_drop, List.length_take]; rfl)) ?_
          with_reducible refine (pyxref13_Get.calls a0 t116 t117 t118 t119 t120 t121 t122 t123 t124 t125 _ A11.out).mono ?_
          rintro e w21 ⟨rfl, hb⟩
          refine ⟨_, rfl, ?_⟩
          have n0_ := Aside0.mk (Kd.R_below (by (with_reducible repeat (first | apply Kd.R_alloc | apply Kd.R_drewN | apply Kd.R_drew)); exact HO111.out) hb)
          have n1_ := Aside0.mk (blk_below (g := gb115) (o := .cells #[.int .i64 t102, .int .i64 t103, .string t104, .int .i64 t105, .int .i64 t106, .int .i64 t107, .int .i64 t108, .slice Ao10 t109.length co10, .int .i64 t112, .int .u32 t113] 37 (0, 0)) (by (with_reducible repeat (first | refine blk_drewN ?_ _ | refine blk_drew ?_ | refine blk_alloc ?_ _)); exact BK115.out) hb)
          have n2_ := Aside0.mk (below_step (by repeat (first | (with_reducible first | exact HB.out | apply below_alloc | apply pw_below_drewN | apply below_drew1 | refine below_set ?_ GE115.out) | exact HB.out)) hb)
          clear HO111
          clear BK115
          clear HB
          have HO111 := n0_
          have BK115 := n1_
          have HB := n2_
          clear n0_ n1_ n2_
          (try clear hb)
          (try clear hb2)
          (try clear hk)
          (try clear hi)
          refine hK.out _ _ ⟨(blk_cell BK115.out 0).trans rfl, (blk_cell BK115.out 1).trans rfl, (blk_cell BK115.out 2).trans rfl, (blk_cell BK115.out 3).trans rfl, (blk_cell BK115.out 4).trans rfl, (blk_cell BK115.out 5).trans rfl, (blk_cell BK115.out 6).trans rfl, (blk_cell BK115.out 7).trans rfl, (blk_cell BK115.out 8).trans rfl, (blk_cell BK115.out 9).trans rfl⟩ (fun hHeld => ?_)
          clear hK K
          refine norm_ (a' := ?_) ?_ ?_
          rotate_left
          · show Act.put _ (some 17) _ = _
            simp only [Act.put, List.setIfInBounds_toArray, List.set_cons_zero, List.set_cons_succ, i64_w, i32_w]
            rfl
          refine one_ (i := 3) (N := some 18) #[true, true, true, true, false, false, false, false, false, false, false, false, false, false, false] rfl rfl (one_of HT_.out (by kernel_rfl)) (by decide) (fun K hK => ?_)
          refine goes_ Tryd.func26 (by kernel_rfl) rfl #[.agg #[.int .i64 t102, .int .i64 t103, .string t104, .int .i64 t105, .int .i64 t106, .int .i64 t107, .int .i64 t108, .slice Ao10 t109.length co10, .int .i64 t112, .int .u32 t113], .agg #[.int .i64 t116, .int .i64 t117, .string t118, .int .i64 t119, .int .i64 t120, .int .i64 t121, .int .i64 t122, .string t123, .int .i64 t124, .int .u32 t125]] (by rfl) rfl rfl (by (try simp only [List.map_toArray, List.map_cons, List.map_nil]); first | done | rfl | (simp only [List.length_drop, List.length_take]; rfl)) ?_
          with_reducible refine (pyxlaw13_same.calls t102 t103 t104 t105 t106 t107 t108 _ _ t109 t112 t113 t116 t117 t118 t119 t120 t121 t122 t123 t124 t125 true _ ?side1 ?side2 ?side3 A12.out).mono ?_
          (case side1 => first | exact HLd | (exact LaidOk.below HLd (by repeat (first | (with_reducible first | exact HB.out | apply below_alloc | apply pw_below_drewN | apply below_drew1) | exact HB.out))) | (repeat (first | exact HLd | apply LaidOk.drewN | apply LaidOk.drew | apply LaidOk.alloc)))
          (case side2 => repeat (first | exact (Kd.R_reads' HO111.out).2.2 | (with_reducible refine Kd.C_alloc ?_ _) | (with_reducible refine Kd.C_drewN ?_ _) | (with_reducible refine Kd.C_drew ?_)))
          (case side3 => exact (Kd.R_reads' HO111.out).2.1)
          rintro e w22 ⟨rfl, hb⟩
          refine ⟨_, rfl, ?_⟩
          have n0_ := Aside0.mk (Kd.R_below (by (with_reducible repeat (first | apply Kd.R_alloc | apply Kd.R_drewN | apply Kd.R_drew)); exact HO111.out) hb)
          have n1_ := Aside0.mk (blk_below (g := gb115) (o := .cells #[.int .i64 t102, .int .i64 t103, .string t104, .int .i64 t105, .int .i64 t106, .int .i64 t107, .int .i64 t108, .slice Ao10 t109.length co10, .int .i64 t112, .int .u32 t113] 37 (0, 0)) (by (with_reducible repeat (first | refine blk_drewN ?_ _ | refine blk_drew ?_ | refine blk_alloc ?_ _)); exact BK115.out) hb)
          have n2_ := Aside0.mk (below_step (by repeat (first | (with_reducible first | exact HB.out | apply below_alloc | apply pw_below_drewN | apply below_drew1 | refine below_set ?_ GE115.out) | exact HB.out)) hb)
          clear HO111
          clear BK115
          clear HB
          have HO111 := n0_
          have BK115 := n1_
          have HB := n2_
          clear n0_ n1_ n2_
          (try clear hb)
          (try clear hb2)
          (try clear hk)
          (try clear hi)
          refine hK.out _ _ ⟨(blk_cell BK115.out 0).trans rfl, (blk_cell BK115.out 1).trans rfl, (blk_cell BK115.out 2).trans rfl, (blk_cell BK115.out 3).trans rfl, (blk_cell BK115.out 4).trans rfl, (blk_cell BK115.out 5).trans rfl, (blk_cell BK115.out 6).trans rfl, (blk_cell BK115.out 7).trans rfl, (blk_cell BK115.out 8).trans rfl, (blk_cell BK115.out 9).trans rfl⟩ (fun hHeld => ?_)
          clear hK K
          refine norm_ (a' := ?_) ?_ ?_
          rotate_left
          · show Act.put _ (some 18) _ = _
            simp only [Act.put, List.setIfInBounds_toArray, List.set_cons_zero, List.set_cons_succ, i64_w, i32_w]
            rfl
          refine pure_ (i := 4) (N := some 19) (v := ?_) (a' := ?_) #[true, true, true, true, true, false, false, false, false, false, false, false, false, false, false] rfl rfl (any_of HT_.out (by kernel_rfl)) (fun _ _ _ h => h) (Or.inl ⟨by rfl, ?_⟩) ?_ ?_
          rotate_left
          · intro w'
            go_simp
            with_reducible rfl
          rotate_left
          · simp only [Act.put, List.setIfInBounds_toArray, List.set_cons_zero, List.set_cons_succ, i64_w, i32_w]
            rfl
          refine pure_ (i := 5) (N := some 20) (v := ?_) (a' := ?_) #[true, true, true, true, true, true, false, false, false, false, false, false, false, false, false] rfl rfl (any_of HT_.out (by kernel_rfl)) (fun _ _ _ h => h) (Or.inl ⟨by rfl, ?_⟩) ?_ ?_
          rotate_left
          · intro w'
            go_simp
            with_reducible rfl
          rotate_left
          · simp only [Act.put, List.setIfInBounds_toArray, List.set_cons_zero, List.set_cons_succ, i64_w, i32_w]
            rfl
          refine pure_ (i := 6) (N := some 21) (v := ?_) (a' := ?_) #[true, true, true, true, true, true, true, false, false, false, false, false, false, false, false] rfl rfl (any_of HT_.out (by kernel_rfl)) (fun _ _ _ h => h) (Or.inl ⟨by rfl, ?_⟩) ?_ ?_
          rotate_left
          · intro w'
            go_simp
            with_reducible rfl
          rotate_left
          · simp only [Act.put, List.setIfInBounds_toArray, List.set_cons_zero, List.set_cons_succ, i64_w, i32_w]
            rfl
          refine pure_ (i := 7) (N := some 22) (v := ?_) (a' := ?_) #[true, true, true, true, true, true, true, true, false, false, false, false, false, false, false] rfl rfl (any_of HT_.out (by kernel_rfl)) (fun _ _ _ h => h) (Or.inl ⟨by rfl, ?_⟩) ?_ ?_
          rotate_left
          · intro w'
            go_simp
            with_reducible rfl
          rotate_left
          · simp only [Act.put, List.setIfInBounds_toArray, List.set_cons_zero, List.set_cons_succ, i64_w, i32_w]
            rfl
          refine pure_ (i := 8) (N := some 23) (v := ?_) (a' := ?_) #[true, true, true, true, true, true, true, true, true, false, false, false, false, false, false] rfl rfl (any_of HT_.out (by kernel_rfl)) (fun _ _ _ h => h) (Or.inl ⟨by rfl, ?_⟩) ?_ ?_
          rotate_left
          · intro w'
            go_simp
            with_reducible rfl
          rotate_left
          · simp only [Act.put, List.setIfInBounds_toArray, List.set_cons_zero, List.set_cons_succ, i64_w, i32_w]
            rfl
          refine pure_ (i := 9) (N := some 24) (v := ?_) (a' := ?_) #[true, true, true, true, true, true, true, true, true, true, false, false, false, false, false] rfl rfl (any_of HT_.out (by kernel_rfl)) (fun _ _ _ h => h) (Or.inl ⟨by rfl, ?_⟩) ?_ ?_
          rotate_left
          · intro w'
            go_simp
            with_reducible rfl
          rotate_left
          · simp only [Act.put, List.setIfInBounds_toArray, List.set_cons_zero, List.set_cons_succ, i64_w, i32_w]
            rfl
          refine pure_ (i := 10) (N := some 25) (v := undef) (a' := ?_) #[true, true, true, true, true, true, true, true, true, true, true, false, false, false, false] rfl rfl (any_of HT_.out (by kernel_rfl)) (fun _ _ _ h => h) (Or.inr ⟨by rfl, rfl⟩) ?_ ?_
          rotate_left
          · simp only [Act.put, List.setIfInBounds_toArray, List.set_cons_zero, List.set_cons_succ, i64_w, i32_w]
            rfl
          refine pure_ (i := 11) (N := some 26) (v := undef) (a' := ?_) #[true, true, true, true, true, true, true, true, true, true, true, true, false, false, false] rfl rfl (any_of HT_.out (by kernel_rfl)) (fun _ _ _ h => h) (Or.inr ⟨by rfl, rfl⟩) ?_ ?_
          rotate_left
          · simp only [Act.put, List.setIfInBounds_toArray, List.set_cons_zero, List.set_cons_succ, i64_w, i32_w]
            rfl
          refine pure_ (i := 12) (N := some 27) (v := ?_) (a' := ?_) #[true, true, true, true, true, true, true, true, true, true, true, true, true, false, false] rfl rfl (any_of HT_.out (by kernel_rfl)) (fun _ _ _ h => h) (Or.inl ⟨by rfl, ?_⟩) ?_ ?_
          rotate_left
          · intro w'
            go_simp
            with_reducible rfl
          rotate_left
          · simp only [Act.put, List.setIfInBounds_toArray, List.set_cons_zero, List.set_cons_succ, i64_w, i32_w]
            rfl
          refine pure_ (i := 13) (N := some 28) (v := ?_) (a' := ?_) #[true, true, true, true, true, true, true, true, true, true, true, true, true, true, false] rfl rfl (any_of HT_.out (by kernel_rfl)) (fun _ _ _ h => h) (Or.inl ⟨by rfl, ?_⟩) ?_ ?_
          rotate_left
          · intro w'
            go_simp
            with_reducible rfl
          rotate_left
          · simp only [Act.put, List.setIfInBounds_toArray, List.set_cons_zero, List.set_cons_succ, i64_w, i32_w]
            rfl
          refine pure_ (i := 14) (N := some 29) (v := ?_) (a' := ?_) #[true, true, true, true, true, true, true, true, true, true, true, true, true, true, true] rfl rfl (any_of HT_.out (by kernel_rfl)) (fun _ _ _ h => h) (Or.inl ⟨by rfl, ?_⟩) ?_ ?_
          rotate_left
          · intro w'
            go_simp
            with_reducible rfl
          rotate_left
          · simp only [Act.put, List.setIfInBounds_toArray, List.set_cons_zero, List.set_cons_succ, i64_w, i32_w]
            rfl
          refine done_ (done_of HT_.out (by kernel_rfl)) ?_
          try go_wp2
          go_meet
          case rel => exact ⟨_, ((t114 != false)), (by first | rfl | (simp; done) | (simp [*]; done)), H', ⟨by first | omega | exact Nat.le_refl _⟩, ⟨by (with_reducible repeat (first | apply Kd.R_alloc | apply Kd.R_drewN | apply Kd.R_drew)); exact HO111.out⟩, ⟨by (with_reducible repeat (first | refine blk_drewN ?_ _ | refine blk_drew ?_ | refine blk_alloc ?_ _)); exact BK115.out⟩, ⟨by repeat (first | (with_reducible first | exact HB.out | apply below_alloc | apply pw_below_drewN | apply below_drew1 | refine below_set ?_ GE115.out) | exact HB.out)⟩⟩
      · replace c13 := Bool.eq_false_iff.mpr c13
        subst c13
        have H1 : (pyxlaw13_ParamsMatchesReference.j0 k a0 true t102 t103 t104 t105 t106 t107 t108 t109 t112 t113) = some r := by rw [if_neg (show ¬ (false = true) by decide)] at H; exact H
        clear H
        have H := H1
        clear H1
        have H' := Aside0.mk H
        clear H
        try go_wp2
        have n0_ : Aside0 (Kd.R (Kd.int .u32) 27 ((((((((((w8.setCell ⟨gb115, 0, none⟩ (.int .i64 t102)).setCell ⟨gb115, 1, none⟩ (.int .i64 t103)).setCell ⟨gb115, 2, none⟩ (.string t104)).setCell ⟨gb115, 3, none⟩ (.int .i64 t105)).setCell ⟨gb115, 4, none⟩ (.int .i64 t106)).setCell ⟨gb115, 5, none⟩ (.int .i64 t107)).setCell ⟨gb115, 6, none⟩ (.int .i64 t108)).setCell ⟨gb115, 7, none⟩ (.slice Ao10 t109.length co10)).setCell ⟨gb115, 8, none⟩ (.int .i64 t112)).setCell ⟨gb115, 9, none⟩ (.int .u32 t113)) w.heap.size (fun _ => True) (.slice Ao10 t109.length co10) t109) := ⟨by (with_reducible repeat (first | apply Kd.R_alloc | apply Kd.R_drewN | apply Kd.R_drew)); exact Kd.R_mono (Kd.R_far (p := ⟨gb115, 9, none⟩) (Kd.R_far (p := ⟨gb115, 8, none⟩) (Kd.R_far (p := ⟨gb115, 7, none⟩) (Kd.R_far (p := ⟨gb115, 6, none⟩) (Kd.R_far (p := ⟨gb115, 5, none⟩) (Kd.R_far (p := ⟨gb115, 4, none⟩) (Kd.R_far (p := ⟨gb115, 3, none⟩) (Kd.R_far (p := ⟨gb115, 2, none⟩) (Kd.R_far (p := ⟨gb115, 1, none⟩) (Kd.R_far (p := ⟨gb115, 0, none⟩) (Kd.R_types HO111.out BK115.out (by decide)) (fun _ hk => hk.2) (.int .i64 t102)) (fun _ hk => hk.2) (.int .i64 t103)) (fun _ hk => hk.2) (.string t104)) (fun _ hk => hk.2) (.int .i64 t105)) (fun _ hk => hk.2) (.int .i64 t106)) (fun _ hk => hk.2) (.int .i64 t107)) (fun _ hk => hk.2) (.int .i64 t108)) (fun _ hk => hk.2) (.slice Ao10 t109.length co10)) (fun _ hk => hk.2) (.int .i64 t112)) (fun _ hk => hk.2) (.int .u32 t113)) (fun _ hk => trivial)⟩
        have n1_ : Aside0 (((((((((((w8.setCell ⟨gb115, 0, none⟩ (.int .i64 t102)).setCell ⟨gb115, 1, none⟩ (.int .i64 t103)).setCell ⟨gb115, 2, none⟩ (.string t104)).setCell ⟨gb115, 3, none⟩ (.int .i64 t105)).setCell ⟨gb115, 4, none⟩ (.int .i64 t106)).setCell ⟨gb115, 5, none⟩ (.int .i64 t107)).setCell ⟨gb115, 6, none⟩ (.int .i64 t108)).setCell ⟨gb115, 7, none⟩ (.slice Ao10 t109.length co10)).setCell ⟨gb115, 8, none⟩ (.int .i64 t112)).setCell ⟨gb115, 9, none⟩ (.int .u32 t113)).heap[gb115]? = some (.cells #[.int .i64 t102, .int .i64 t103, .string t104, .int .i64 t105, .int .i64 t106, .int .i64 t107, .int .i64 t108, .slice Ao10 t109.length co10, .int .i64 t112, .int .u32 t113] 37 (0, 0))) := ⟨by (with_reducible repeat (first | refine blk_drewN ?_ _ | refine blk_drew ?_ | refine blk_alloc ?_ _)); refine blk_put (cs := #[.int .i64 t102, .int .i64 t103, .string t104, .int .i64 t105, .int .i64 t106, .int .i64 t107, .int .i64 t108, .slice Ao10 t109.length co10, .int .i64 t112, .int .u32 0]) ?_ 9 _ rfl; (with_reducible repeat (first | refine blk_drewN ?_ _ | refine blk_drew ?_ | refine blk_alloc ?_ _)); refine blk_put (cs := #[.int .i64 t102, .int .i64 t103, .string t104, .int .i64 t105, .int .i64 t106, .int .i64 t107, .int .i64 t108, .slice Ao10 t109.length co10, .int .i64 0, .int .u32 0]) ?_ 8 _ rfl; (with_reducible repeat (first | refine blk_drewN ?_ _ | refine blk_drew ?_ | refine blk_alloc ?_ _)); refine blk_put (cs := #[.int .i64 t102, .int .i64 t103, .string t104, .int .i64 t105, .int .i64 t106, .int .i64 t107, .int .i64 t108, .slice none 0 0, .int .i64 0, .int .u32 0]) ?_ 7 _ rfl; (with_reducible repeat (first | refine blk_drewN ?_ _ | refine blk_drew ?_ | refine blk_alloc ?_ _)); refine blk_put (cs := #[.int .i64 t102, .int .i64 t103, .string t104, .int .i64 t105, .int .i64 t106, .int .i64 t107, .int .i64 0, .slice none 0 0, .int .i64 0, .int .u32 0]) ?_ 6 _ rfl; (with_reducible repeat (first | refine blk_drewN ?_ _ | refine blk_drew ?_ | refine blk_alloc ?_ _)); refine blk_put (cs := #[.int .i64 t102, .int .i64 t103, .string t104, .int .i64 t105, .int .i64 t106, .int .i64 0, .int .i64 0, .slice none 0 0, .int .i64 0, .int .u32 0]) ?_ 5 _ rfl; (with_reducible repeat (first | refine blk_drewN ?_ _ | refine blk_drew ?_ | refine blk_alloc ?_ _)); refine blk_put (cs := #[.int .i64 t102, .int .i64 t103, .string t104, .int .i64 t105, .int .i64 0, .int .i64 0, .int .i64 0, .slice none 0 0, .int .i64 0, .int .u32 0]) ?_ 4 _ rfl; (with_reducible repeat (first | refine blk_drewN ?_ _ | refine blk_drew ?_ | refine blk_alloc ?_ _)); refine blk_put (cs := #[.int .i64 t102, .int .i64 t103, .string t104, .int .i64 0, .int .i64 0, .int .i64 0, .int .i64 0, .slice none 0 0, .int .i64 0, .int .u32 0]) ?_ 3 _ rfl; (with_reducible repeat (first | refine blk_drewN ?_ _ | refine blk_drew ?_ | refine blk_alloc ?_ _)); refine blk_put (cs := #[.int .i64 t102, .int .i64 t103, .string (⟨#[]⟩ : ByteArray), .int .i64 0, .int .i64 0, .int .i64 0, .int .i64 0, .slice none 0 0, .int .i64 0, .int .u32 0]) ?_ 2 _ rfl; (with_reducible repeat (first | refine blk_drewN ?_ _ | refine blk_drew ?_ | refine blk_alloc ?_ _)); refine blk_put (cs := #[.int .i64 t102, .int .i64 0, .string (⟨#[]⟩ : ByteArray), .int .i64 0, .int .i64 0, .int .i64 0, .int .i64 0, .slice none 0 0, .int .i64 0, .int .u32 0]) ?_ 1 _ rfl; (with_reducible repeat (first | refine blk_drewN ?_ _ | refine blk_drew ?_ | refine blk_alloc ?_ _)); refine blk_put (cs := #[.int .i64 0, .int .i64 0, .string (⟨#[]⟩ : ByteArray), .int .i64 0, .int .i64 0, .int .i64 0, .int .i64 0, .slice none 0 0, .int .i64 0, .int .u32 0]) ?_ 0 _ rfl; (with_reducible repeat (first | refine blk_drewN ?_ _ | refine blk_drew ?_ | refine blk_alloc ?_ _)); exact BK115.out⟩
        have n2_ : Aside0 (Below w.heap.size w ((((((((((w8.setCell ⟨gb115, 0, none⟩ (.int .i64 t102)).setCell ⟨gb115, 1, none⟩ (.int .i64 t103)).setCell ⟨gb115, 2, none⟩ (.string t104)).setCell ⟨gb115, 3, none⟩ (.int .i64 t105)).setCell ⟨gb115, 4, none⟩ (.int .i64 t106)).setCell ⟨gb115, 5, none⟩ (.int .i64 t107)).setCell ⟨gb115, 6, none⟩ (.int .i64 t108)).setCell ⟨gb115, 7, none⟩ (.slice Ao10 t109.length co10)).setCell ⟨gb115, 8, none⟩ (.int .i64 t112)).setCell ⟨gb115, 9, none⟩ (.int .u32 t113))) := ⟨by repeat (first | (with_reducible first | exact HB.out | apply below_alloc | apply pw_below_drewN | apply below_drew1 | refine below_set ?_ GE115.out) | exact HB.out)⟩
        (try clear HO111)
        (try clear BK115)
        (try clear HB)
        generalize ((((((((((w8.setCell ⟨gb115, 0, none⟩ (.int .i64 t102)).setCell ⟨gb115, 1, none⟩ (.int .i64 t103)).setCell ⟨gb115, 2, none⟩ (.string t104)).setCell ⟨gb115, 3, none⟩ (.int .i64 t105)).setCell ⟨gb115, 4, none⟩ (.int .i64 t106)).setCell ⟨gb115, 5, none⟩ (.int .i64 t107)).setCell ⟨gb115, 6, none⟩ (.int .i64 t108)).setCell ⟨gb115, 7, none⟩ (.slice Ao10 t109.length co10)).setCell ⟨gb115, 8, none⟩ (.int .i64 t112)).setCell ⟨gb115, 9, none⟩ (.int .u32 t113)) = w23 at n0_ n1_ n2_ ⊢
        have HO111 := n0_
        have BK115 := n1_
        have HB := n2_
        clear n0_ n1_ n2_
        have n0_ := Aside0.mk (Kd.R_drew HO111.out)
        have n1_ := Aside0.mk (blk_drew BK115.out)
        have n2_ := Aside0.mk (below_drew1 HB.out)
        clear HO111
        clear BK115
        clear HB
        have HO111 := n0_
        have BK115 := n1_
        have HB := n2_
        clear n0_ n1_ n2_
        refine start_ (n := 15) (S := fun w' => w'.cell? ⟨gb115, 0, none⟩ = some (.int .i64 t102) ∧ w'.cell? ⟨gb115, 1, none⟩ = some (.int .i64 t103) ∧ w'.cell? ⟨gb115, 2, none⟩ = some (.string t104) ∧ w'.cell? ⟨gb115, 3, none⟩ = some (.int .i64 t105) ∧ w'.cell? ⟨gb115, 4, none⟩ = some (.int .i64 t106) ∧ w'.cell? ⟨gb115, 5, none⟩ = some (.int .i64 t107) ∧ w'.cell? ⟨gb115, 6, none⟩ = some (.int .i64 t108) ∧ w'.cell? ⟨gb115, 7, none⟩ = some (.slice Ao10 t109.length co10) ∧ w'.cell? ⟨gb115, 8, none⟩ = some (.int .i64 t112) ∧ w'.cell? ⟨gb115, 9, none⟩ = some (.int .u32 t113)) (ds := []) #[false, false, false, false, false, false, false, false, false, false, false, false, false, false, false] (by kernel_rfl) rfl rfl ⟨(blk_cell BK115.out 0).trans rfl, (blk_cell BK115.out 1).trans rfl, (blk_cell BK115.out 2).trans rfl, (blk_cell BK115.out 3).trans rfl, (blk_cell BK115.out 4).trans rfl, (blk_cell BK115.out 5).trans rfl, (blk_cell BK115.out 6).trans rfl, (blk_cell BK115.out 7).trans rfl, (blk_cell BK115.out 8).trans rfl, (blk_cell BK115.out 9).trans rfl⟩ (fun hHeld => ?_); refine with_tabW pyxlaw13_ParamsMatchesReference.tab4 pyxlaw13_ParamsMatchesReference.bits4 (fun HT_ HW_ => ?_)
        generalize w23.drew = w24 at HO111 BK115 HB hHeld ⊢
        refine pure_ (i := 1) (N := some 16) (v := ?_) (a' := ?_) #[false, true, false, false, false, false, false, false, false, false, false, false, false, false, false] rfl rfl (any_of HT_.out (by kernel_rfl)) (fun _ _ _ h => h) (Or.inl ⟨by rfl, ?_⟩) ?_ ?_
        rotate_left
        · intro w'
          go_simp
          with_reducible rfl
        rotate_left
        · simp only [Act.put, List.setIfInBounds_toArray, List.set_cons_zero, List.set_cons_succ, i64_w, i32_w]
          rfl
        refine take_ (i := 0) (N := some 15) (v := ?_) (a' := ?_) #[true, true, false, false, false, false, false, false, false, false, false, false, false, false, false] rfl rfl (take_ofW HT_.out HW_.out (by kernel_rfl)) (fun _ _ _ h => h) (Or.inl ⟨by rfl, ?_⟩) hHeld ?_ ?_
        rotate_left
        · rintro w' ⟨s0, s1, s2, s3, s4, s5, s6, s7, s8, s9⟩
          go_simp
          with_reducible rfl
        rotate_left
        · simp only [Act.put, List.setIfInBounds_toArray, List.set_cons_zero, List.set_cons_succ, i64_w, i32_w]
          rfl
        refine one_ (i := 2) (N := some 17) #[true, true, true, false, false, false, false, false, false, false, false, false, false, false, false] rfl rfl (one_of HT_.out (by kernel_rfl)) (by decide) (fun K hK => ?_)
        refine goes_ Tryd.func27 (by kernel_rfl) rfl #[.int .i64 a0] (by rfl) rfl rfl (by (try simp only [List.map_toArray, List.map_cons, List.map_nil]); first | done | rfl | (simp only [List.length_drop, List.length_take]; rfl)) ?_
        with_reducible refine (pyxref13_Get.calls a0 t116 t117 t118 t119 t120 t121 t122 t123 t124 t125 _ A11.out).mono ?_
        rintro e w25 ⟨rfl, hb⟩
        refine ⟨_, rfl, ?_⟩
        have n0_ := Aside0.mk (Kd.R_below (by (with_reducible repeat (first | apply Kd.R_alloc | apply Kd.R_drewN | apply Kd.R_drew)); exact HO111.out) hb)
        have n1_ := Aside0.mk (blk_below (g := gb115) (o := .cells #[.int .i64 t102, .int .i64 t103, .string t104, .int .i64 t105, .int .i64 t106, .int .i64 t107, .int .i64 t108, .slice Ao10 t109.length co10, .int .i64 t112, .int .u32 t113] 37 (0, 0)) (by (with_reducible repeat (first | refine blk_drewN ?_ _ | refine blk_drew ?_ | refine blk_alloc ?_ _)); exact BK115.out) hb)
        have n2_ := Aside0.mk (below_step (by repeat (first | (with_reducible first | exact HB.out | apply below_alloc | apply pw_below_drewN | apply below_drew1 | refine below_set ?_ GE115.out) | exact HB.out)) hb)
        clear HO111
        clear BK115
        clear HB
        have HO111 := n0_
        have BK115 := n1_
        have HB := n2_
        clear n0_ n1_ n2_
        (try clear hb)
        (try clear hb2)
        (try clear hk)
        (try clear hi)
        refine hK.out _ _ ⟨(blk_cell BK115.out 0).trans rfl, (blk_cell BK115.out 1).trans rfl, (blk_cell BK115.out 2).trans rfl, (blk_cell BK115.out 3).trans rfl, (blk_cell BK115.out 4).trans rfl, (blk_cell BK115.out 5).trans rfl, (blk_cell BK115.out 6).trans rfl, (blk_cell BK115.out 7).trans rfl, (blk_cell BK115.out 8).trans rfl, (blk_cell BK115.out 9).trans rfl⟩ (fun hHeld => ?_)
        clear hK K
        refine norm_ (a' := ?_) ?_ ?_
        rotate_left
        · show Act.put _ (some 17) _ = _
          simp only [Act.put, List.setIfInBounds_toArray, List.set_cons_zero, List.set_cons_succ, i64_w, i32_w]
          rfl
        refine one_ (i := 3) (N := some 18) #[true, true, true, true, false, false, false, false, false, false, false, false, false, false, false] rfl rfl (one_of HT_.out (by kernel_rfl)) (by decide) (fun K hK => ?_)
        refine goes_ Tryd.func26 (by kernel_rfl) rfl #[.agg #[.int .i64 t102, .int .i64 t103, .string t104, .int .i64 t105, .int .i64 t106, .int .i64 t107, .int .i64 t108, .slice Ao10 t109.length co10, .int .i64 t112, .int .u32 t113], .agg #[.int .i64 t116, .int .i64 t117, .string t118, .int .i64 t119, .int .i64 t120, .int .i64 t121, .int .i64 t122, .string t123, .int .i64 t124, .int .u32 t125]] (by rfl) rfl rfl (by (try simp only [List.map_toArray, List.map_cons, List.map_nil]); first | done | rfl | (simp only [List.length_drop, List.length_take]; rfl)) ?_
        with_reducible refine (pyxlaw13_same.calls t102 t103 t104 t105 t106 t107 t108 _ _ t109 t112 t113 t116 t117 t118 t119 t120 t121 t122 t123 t124 t125 false _ ?side1 ?side2 ?side3 A12.out).mono ?_
        (case side1 => first | exact HLd | (exact LaidOk.below HLd (by repeat (first | (with_reducible first | exact HB.out | apply below_alloc | apply pw_below_drewN | apply below_drew1) | exact HB.out))) | (repeat (first | exact HLd | apply LaidOk.drewN | apply LaidOk.drew | apply LaidOk.alloc)))
        (case side2 => repeat (first | exact (Kd.R_reads' HO111.out).2.2 | (with_reducible refine Kd.C_alloc ?_ _) | (with_reducible refine Kd.C_drewN ?_ _) | (with_reducible refine Kd.C_drew ?_)))
        (case side3 => exact (Kd.R_reads' HO111.out).2.1)
        rintro e w26 ⟨rfl, hb⟩
        refine ⟨_, rfl, ?_⟩
        have n0_ := Aside0.mk (Kd.R_below (by (with_reducible repeat (first | apply Kd.R_alloc | apply Kd.R_drewN | apply Kd.R_drew)); exact HO111.out) hb)
        have n1_ := Aside0.mk (blk_below (g := gb115) (o := .cells #[.int .i64 t102, .int .i64 t103, .string t104, .int .i64 t105, .int .i64 t106, .int .i64 t107, .int .i64 t108, .slice Ao10 t109.length co10, .int .i64 t112, .int .u32 t113] 37 (0, 0)) (by (with_reducible repeat (first | refine blk_drewN ?_ _ | refine blk_drew ?_ | refine blk_alloc ?_ _)); exact BK115.out) hb)
        have n2_ := Aside0.mk (below_step (by repeat (first | (with_reducible first | exact HB.out | apply below_alloc | apply pw_below_drewN | apply below_drew1 | refine below_set ?_ GE115.out) | exact HB.out)) hb)
        clear HO111
        clear BK115
        clear HB
        have HO111 := n0_
        have BK115 := n1_
        have HB := n2_
        clear n0_ n1_ n2_
        (try clear hb)
        (try clear hb2)
        (try clear hk)
        (try clear hi)
        refine hK.out _ _ ⟨(blk_cell BK115.out 0).trans rfl, (blk_cell BK115.out 1).trans rfl, (blk_cell BK115.out 2).trans rfl, (blk_cell BK115.out 3).trans rfl, (blk_cell BK115.out 4).trans rfl, (blk_cell BK115.out 5).trans rfl, (blk_cell BK115.out 6).trans rfl, (blk_cell BK115.out 7).trans rfl, (blk_cell BK115.out 8).trans rfl, (blk_cell BK115.out 9).trans rfl⟩ (fun hHeld => ?_)
        clear hK K
        refine norm_ (a' := ?_) ?_ ?_
        rotate_left
        · show Act.put _ (some 18) _ = _
          simp only [Act.put, List.setIfInBounds_toArray, List.set_cons_zero, List.set_cons_succ, i64_w, i32_w]
          rfl
        refine pure_ (i := 4) (N := some 19) (v := ?_) (a' := ?_) #[true, true, true, true, true, false, false, false, false, false, false, false, false, false, false] rfl rfl (any_of HT_.out (by kernel_rfl)) (fun _ _ _ h => h) (Or.inl ⟨by rfl, ?_⟩) ?_ ?_
        rotate_left
        · intro w'
          go_simp
          with_reducible rfl
        rotate_left
        · simp only [Act.put, List.setIfInBounds_toArray, List.set_cons_zero, List.set_cons_succ, i64_w, i32_w]
          rfl
        refine pure_ (i := 5) (N := some 20) (v := ?_) (a' := ?_) #[true, true, true, true, true, true, false, false, false, false, false, false, false, false, false] rfl rfl (any_of HT_.out (by kernel_rfl)) (fun _ _ _ h => h) (Or.inl ⟨by rfl, ?_⟩) ?_ ?_
        rotate_left
        · intro w'
          go_simp
          with_reducible rfl
        rotate_left
        · simp only [Act.put, List.setIfInBounds_toArray, List.set_cons_zero, List.set_cons_succ, i64_w, i32_w]
          rfl
        refine pure_ (i := 6) (N := some 21) (v := undef) (a' := ?_) #[true, true, true, true, true, true, true, false, false, false, false, false, false, false, false] rfl rfl (any_of HT_.out (by kernel_rfl)) (fun _ _ _ h => h) (Or.inr ⟨by rfl, rfl⟩) ?_ ?_
        rotate_left
        · simp only [Act.put, List.setIfInBounds_toArray, List.set_cons_zero, List.set_cons_succ, i64_w, i32_w]
          rfl
        refine pure_ (i := 7) (N := some 22) (v := undef) (a' := ?_) #[true, true, true, true, true, true, true, true, false, false, false, false, false, false, false] rfl rfl (any_of HT_.out (by kernel_rfl)) (fun _ _ _ h => h) (Or.inr ⟨by rfl, rfl⟩) ?_ ?_
        rotate_left
        · simp only [Act.put, List.setIfInBounds_toArray, List.set_cons_zero, List.set_cons_succ, i64_w, i32_w]
          rfl
        refine pure_ (i := 8) (N := some 23) (v := undef) (a' := ?_) #[true, true, true, true, true, true, true, true, true, false, false, false, false, false, false] rfl rfl (any_of HT_.out (by kernel_rfl)) (fun _ _ _ h => h) (Or.inr ⟨by rfl, rfl⟩) ?_ ?_
        rotate_left
        · simp only [Act.put, List.setIfInBounds_toArray, List.set_cons_zero, List.set_cons_succ, i64_w, i32_w]
          rfl
        refine pure_ (i := 9) (N := some 24) (v := undef) (a' := ?_) #[true, true, true, true, true, true, true, true, true, true, false, false, false, false, false] rfl rfl (any_of HT_.out (by kernel_rfl)) (fun _ _ _ h => h) (Or.inr ⟨by rfl, rfl⟩) ?_ ?_
        rotate_left
        · simp only [Act.put, List.setIfInBounds_toArray, List.set_cons_zero, List.set_cons_succ, i64_w, i32_w]
          rfl
        refine pure_ (i := 10) (N := some 25) (v := undef) (a' := ?_) #[true, true, true, true, true, true, true, true, true, true, true, false, false, false, false] rfl rfl (any_of HT_.out (by kernel_rfl)) (fun _ _ _ h => h) (Or.inr ⟨by rfl, rfl⟩) ?_ ?_
        rotate_left
        · simp only [Act.put, List.setIfInBounds_toArray, List.set_cons_zero, List.set_cons_succ, i64_w, i32_w]
          rfl
        refine pure_ (i := 11) (N := some 26) (v := undef) (a' := ?_) #[true, true, true, true, true, true, true, true, true, true, true, true, false, false, false] rfl rfl (any_of HT_.out (by kernel_rfl)) (fun _ _ _ h => h) (Or.inr ⟨by rfl, rfl⟩) ?_ ?_
        rotate_left
        · simp only [Act.put, List.setIfInBounds_toArray, List.set_cons_zero, List.set_cons_succ, i64_w, i32_w]
          rfl
        refine pure_ (i := 12) (N := some 27) (v := undef) (a' := ?_) #[true, true, true, true, true, true, true, true, true, true, true, true, true, false, false] rfl rfl (any_of HT_.out (by kernel_rfl)) (fun _ _ _ h => h) (Or.inr ⟨by rfl, rfl⟩) ?_ ?_
        rotate_left
        · simp only [Act.put, List.setIfInBounds_toArray, List.set_cons_zero, List.set_cons_succ, i64_w, i32_w]
          rfl
        refine pure_ (i := 13) (N := some 28) (v := undef) (a' := ?_) #[true, true, true, true, true, true, true, true, true, true, true, true, true, true, false] rfl rfl (any_of HT_.out (by kernel_rfl)) (fun _ _ _ h => h) (Or.inr ⟨by rfl, rfl⟩) ?_ ?_
        rotate_left
        · simp only [Act.put, List.setIfInBounds_toArray, List.set_cons_zero, List.set_cons_succ, i64_w, i32_w]
          rfl
        refine pure_ (i := 14) (N := some 29) (v := ?_) (a' := ?_) #[true, true, true, true, true, true, true, true, true, true, true, true, true, true, true] rfl rfl (any_of HT_.out (by kernel_rfl)) (fun _ _ _ h => h) (Or.inl ⟨by rfl, ?_⟩) ?_ ?_
        rotate_left
        · intro w'
          go_simp
          with_reducible rfl
        rotate_left
        · simp only [Act.put, List.setIfInBounds_toArray, List.set_cons_zero, List.set_cons_succ, i64_w, i32_w]
          rfl
        refine done_ (done_of HT_.out (by kernel_rfl)) ?_
        try go_wp2
        go_meet
        case rel => exact ⟨_, (true), (by first | rfl | (simp; done) | (simp [*]; done)), H', ⟨by first | omega | exact Nat.le_refl _⟩, ⟨by (with_reducible repeat (first | apply Kd.R_alloc | apply Kd.R_drewN | apply Kd.R_drew)); exact HO111.out⟩, ⟨by (with_reducible repeat (first | refine blk_drewN ?_ _ | refine blk_drew ?_ | refine blk_alloc ?_ _)); exact BK115.out⟩, ⟨by repeat (first | (with_reducible first | exact HB.out | apply below_alloc | apply pw_below_drewN | apply below_drew1 | refine below_set ?_ GE115.out) | exact HB.out)⟩⟩
    case rest =>
      clear HC5
      try clear c1
      try clear c2
      try clear p2
      try clear c3
      try clear c7
      try clear c13
      try clear c14
      try clear c14b0
      try clear c24
      try clear c25
      try clear c26
      try clear hcz9_0
      try clear hcz9_1
      try clear hcz9_2
      try clear hcz9_3
      try clear hcz9_4
      try clear hcz9_5
      try clear hcz9_6
      try clear hcz9_7
      try clear hcz9_8
      try clear hcz9_9
      try clear hfz9_0
      try clear hfz9_1
      try clear hfz9_2
      try clear hfz9_3
      try clear hfz9_4
      try clear hfz9_5
      try clear hfz9_6
      try clear hfz9_7
      try clear hfz9_8
      try clear hfz9_9
      obtain ⟨kq, x29_4, rfl, HA, HJ4, HO_116007, BK115, HB⟩ := hcut
      cases kq with
      | zero => exact absurd HA.out (by simp [pyxlaw13_ParamsMatchesReference.j0])
      | succ kj4 =>
        have H := HA.out
        clear HA
        simp only [pyxlaw13_ParamsMatchesReference.j0] at H
        by_cases c27 : x29_4 = true
        · subst c27
          have H1 : (none) = some r := by rw [if_pos rfl] at H; exact H
          clear H
          have H := H1
          clear H1
          exact absurd H (by simp)
        · replace c27 := Bool.eq_false_iff.mpr c27
          subst c27
          have H1 : (pyxlaw13_ParamsMatchesReference.l0 kj4 a0 0 t102 t103 t104 t105 t106 t107 t108 t109 t112 t113) = some r := by rw [if_neg (show ¬ (false = true) by decide)] at H; exact H
          clear H
          have H := H1
          clear H1
          have H' := Aside0.mk H
          clear H
          go_wp2
          go_loopg [5] kj4 (fun kq v5 w' => ∃ (x5_2 : Int) (x116007_2 : List Int) (u116007 : Value), v5 = .int .i64 x5_2 ∧ Aside0 (pyxlaw13_ParamsMatchesReference.l0 kq a0 x5_2 t102 t103 t104 t105 t106 t107 t108 x116007_2 t112 t113 = some r) ∧ Aside0 (kq ≤ kj4) ∧ Aside0 (Kd.R (Kd.int .u32) 27 w' w.heap.size (fun _ => True) u116007 x116007_2) ∧ Aside0 (w'.heap[gb115]? = some (.cells #[.int .i64 t102, .int .i64 t103, .string t104, .int .i64 t105, .int .i64 t106, .int .i64 t107, .int .i64 t108, u116007, .int .i64 t112, .int .u32 t113] 37 (0, 0))) ∧ Aside0 (Below w.heap.size w w'))
          case atStart => exact ⟨(0), (t109), (.slice Ao10 t109.length co10), (by first | rfl | (simp; done) | (simp [*]; done)), H', ⟨Nat.le_refl _⟩, ⟨by (with_reducible repeat (first | apply Kd.R_alloc | apply Kd.R_drewN | apply Kd.R_drew)); exact HO_116007.out⟩, ⟨by (with_reducible repeat (first | refine blk_drewN ?_ _ | refine blk_drew ?_ | refine blk_alloc ?_ _)); exact BK115.out⟩, ⟨by repeat (first | (with_reducible first | exact HB.out | apply below_alloc | apply pw_below_drewN | apply below_drew1 | refine below_set ?_ GE115.out) | exact HB.out)⟩⟩
          case round =>
            clear H'
            try clear c1
            try clear c2
            try clear p2
            try clear c3
            try clear c7
            try clear c13
            try clear c14
            try clear c14b0
            try clear c24
            try clear c25
            try clear c26
            try clear c27
            try clear hcz9_0
            try clear hcz9_1
            try clear hcz9_2
            try clear hcz9_3
            try clear hcz9_4
            try clear hcz9_5
            try clear hcz9_6
            try clear hcz9_7
            try clear hcz9_8
            try clear hcz9_9
            try clear hfz9_0
            try clear hfz9_1
            try clear hfz9_2
            try clear hfz9_3
            try clear hfz9_4
            try clear hfz9_5
            try clear hfz9_6
            try clear hfz9_7
            try clear hfz9_8
            try clear hfz9_9
            try clear p2
            obtain ⟨x5_2, x116007_2, u116007, rfl, HA, HK2, HO_116007, BK115, HB⟩ := hrel
            cases gk with
            | zero => exact absurd HA.out (by simp [pyxlaw13_ParamsMatchesReference.l0])
            | succ k2 =>
              have H := HA.out
              clear HA
              simp only [pyxlaw13_ParamsMatchesReference.l0] at H
              by_cases c28 : x5_2 < (x116007_2.length : Int)
              · rw [if_pos c28] at H
                have c28b0 : decide (x5_2 < (x116007_2.length : Int)) = true := decide_eq_true c28
                clear c28
                by_cases c29 : 0 ≤ x5_2
                · rw [if_pos c29] at H
                  have c29b0 : decide (0 ≤ x5_2) = true := decide_eq_true c29
                  clear c29
                  obtain ⟨y128, hy128⟩ : ∃ y_ : List Int, y_ = (x116007_2.set (x5_2 : Int).toNat (((rd x116007_2 x5_2) + 1) % 4294967296)) := ⟨_, rfl⟩
                  replace H : (pyxlaw13_ParamsMatchesReference.l0 k2 a0 (wrap64 (x5_2 + 1)) t102 t103 t104 t105 t106 t107 t108 y128 t112 t113) = some r := by first | (rw [hy128]; with_reducible exact H) | (have H2_ := (Option.bind_some _ _).symm.trans H; rw [hy128]; with_reducible exact H2_) | (have H2_ := (Option.bind_some _ _).symm.trans H; with_reducible exact H2_) | with_reducible exact H | (rw [hy128]; exact H) | exact H
                  have Ny128 := Aside0.mk hy128
                  clear hy128
                  have H' := Aside0.mk H
                  clear H
                  have hcz31_0 : wr.cell? ⟨gb115, 0, none⟩ = some (.int .i64 t102) := (blk_cell BK115.out 0).trans rfl
                  have hcz31_1 : wr.cell? ⟨gb115, 1, none⟩ = some (.int .i64 t103) := (blk_cell BK115.out 1).trans rfl
                  have hcz31_2 : wr.cell? ⟨gb115, 2, none⟩ = some (.string t104) := (blk_cell BK115.out 2).trans rfl
                  have hcz31_3 : wr.cell? ⟨gb115, 3, none⟩ = some (.int .i64 t105) := (blk_cell BK115.out 3).trans rfl
                  have hcz31_4 : wr.cell? ⟨gb115, 4, none⟩ = some (.int .i64 t106) := (blk_cell BK115.out 4).trans rfl
                  have hcz31_5 : wr.cell? ⟨gb115, 5, none⟩ = some (.int .i64 t107) := (blk_cell BK115.out 5).trans rfl
                  have hcz31_6 : wr.cell? ⟨gb115, 6, none⟩ = some (.int .i64 t108) := (blk_cell BK115.out 6).trans rfl
                  have hcz31_7 : wr.cell? ⟨gb115, 7, none⟩ = some (u116007) := (blk_cell BK115.out 7).trans rfl
                  have hcz31_8 : wr.cell? ⟨gb115, 8, none⟩ = some (.int .i64 t112) := (blk_cell BK115.out 8).trans rfl
                  have hcz31_9 : wr.cell? ⟨gb115, 9, none⟩ = some (.int .u32 t113) := (blk_cell BK115.out 9).trans rfl
                  have hfz31_0 := blk_frozen BK115.out 0
                  have hfz31_1 := blk_frozen BK115.out 1
                  have hfz31_2 := blk_frozen BK115.out 2
                  have hfz31_3 := blk_frozen BK115.out 3
                  have hfz31_4 := blk_frozen BK115.out 4
                  have hfz31_5 := blk_frozen BK115.out 5
                  have hfz31_6 := blk_frozen BK115.out 6
                  have hfz31_7 := blk_frozen BK115.out 7
                  have hfz31_8 := blk_frozen BK115.out 8
                  have hfz31_9 := blk_frozen BK115.out 9
                  obtain ⟨Ao32, co32, eo32⟩ := Kd.R_slice HO_116007.out
                  subst eo32
                  have p127 : 0 ≤ (x5_2 : Int) := of_decide_eq_true (by first | (with_reducible assumption) | assumption)
                  have q127 : x5_2 < (x116007_2.length : Int) := of_decide_eq_true (by first | (with_reducible assumption) | assumption)
                  obtain ⟨ad127, e127, hx127_0⟩ := Kd.at_int (Kd.R_reads' HO_116007.out).2.2 x5_2 p127 q127
                  cases e127
                  replace p127 := eq_true p127
                  replace q127 := eq_true q127
                  have p30 : 0 ≤ (x5_2 : Int) := of_decide_eq_true (by first | (with_reducible assumption) | assumption)
                  have q30 : (x5_2 : Int) < ((x116007_2.length : Int) : Int) := of_decide_eq_true (by first | (with_reducible assumption) | assumption)
                  obtain ⟨go30, co30, eo30, gb30, gl30, cl30, HG30⟩ := Kd.R_form HO_116007.out (by omega)
                  (first | cases eo30 | (injection eo30 with ea_ en_ ec_; (first | subst ea_ | (injection ea_ with ea_; subst ea_)); subst ec_; clear en_))
                  have GB30 := Aside0.mk gb30
                  have GG30 := Aside0.mk HG30
                  clear gb30 gl30 HG30
                  (first | simp only [add_plain] at hx127_0 | skip)
                  obtain ⟨hx30_0, hf30_0⟩ := Kd.R_celln 0 HO_116007.out (x5_2 : Int) p30 q30
                  replace p30 := eq_true p30
                  replace q30 := eq_true q30
                  have HP33 := Kd.R_putg HO_116007.out (x5_2 : Int) (((rd x116007_2 x5_2) + 1) % 4294967296)
                  go_wp2_with (first | ((with_reducible refine gate_store (t := 27) (p := 43) rfl ?_); refine store_event (t := 27) (p := 43) (v := ?vo_w34) (w1 := (wr.setCell ⟨go30, (x5_2 : Int).toNat, none⟩ (.int .u32 (((rd x116007_2 x5_2) + 1) % 4294967296)))) ?hg ?ho ?hn ?hr ?_; (case ho => rfl); (case hg => rfl); (case hn => rfl); (case hr => first | (go_simp; done) | (go_simp; rfl)); intro w34 hw; have hg : wr.grownBy w34 (some go30) := (by rw [hw]; exact HP33.2); have hp_ : Kd.R (Kd.int .u32) 27 w34 w.heap.size (fun _ => True) (.slice (some ⟨go30, 0, none⟩) x116007_2.length co32) y128 := (by rw [hw, Ny128.out]; exact HP33.1); clear HP33; have n0_ := Aside0.mk (hp_); have n1_ := Aside0.mk (blk_grown (g := gb115) (o := .cells #[.int .i64 t102, .int .i64 t103, .string t104, .int .i64 t105, .int .i64 t106, .int .i64 t107, .int .i64 t108, .slice (some ⟨go30, 0, none⟩) x116007_2.length co32, .int .i64 t112, .int .u32 t113] 37 (0, 0)) (by (with_reducible repeat (first | refine blk_drewN ?_ _ | refine blk_drew ?_ | refine blk_alloc ?_ _)); exact BK115.out) hg (Kd.R_ne HO_116007.out BK115.out (by decide))); have n2_ := Aside0.mk ((by rw [hw]; exact below_set (HB.out) GB30.out : Below w.heap.size w w34)); clear HO_116007; clear BK115; clear HB; have HO_116007 := n0_; have BK115 := n1_; have HB := n2_; clear n0_ n1_ n2_; clear hg hw hp_))
                  go_roundg k2
                  case measure => have := HJ4.out; have := HK2.out; omega
                  case rel => exact ⟨(wrap64 (x5_2 + 1)), (y128), (.slice (some ⟨go30, 0, none⟩) x116007_2.length co32), (by first | rfl | (simp; done) | (simp [*]; done)), H', ⟨by have := HJ4.out; have := HK2.out; omega⟩, ⟨by (with_reducible repeat (first | apply Kd.R_alloc | apply Kd.R_drewN | apply Kd.R_drew)); exact HO_116007.out⟩, ⟨by (with_reducible repeat (first | refine blk_drewN ?_ _ | refine blk_drew ?_ | refine blk_alloc ?_ _)); exact BK115.out⟩, ⟨by repeat (first | (with_reducible first | exact HB.out | apply below_alloc | apply pw_below_drewN | apply below_drew1 | refine below_set ?_ GE115.out) | exact HB.out)⟩⟩
                · rw [if_neg c29] at H
                  exact absurd H (by simp)
              · rw [if_neg c28] at H
                have c28b0 : decide (x5_2 < (x116007_2.length : Int)) = false := decide_eq_false c28
                clear c28
                replace H := Option.bind_eq_some_iff.mp H
                obtain ⟨⟨t129, t130, t131, t132, t133, t134, t135, t136, t139, t140, t141⟩, A350, H⟩ := H
                replace H : ((pyxref13_Get.f a0).bind fun bt143 => ((pyxlaw13_same.f t129 t130 t131 t132 t133 t134 t135 t136 t139 t140 bt143.1 bt143.2.1 bt143.2.2.1 bt143.2.2.2.1 bt143.2.2.2.2.1 bt143.2.2.2.2.2.1 bt143.2.2.2.2.2.2.1 bt143.2.2.2.2.2.2.2.1 bt143.2.2.2.2.2.2.2.2.1 bt143.2.2.2.2.2.2.2.2.2).bind fun t153 => (some t153))) = some r := H
                have A35 := Aside0.mk A350
                clear A350
                replace H := Option.bind_eq_some_iff.mp H
                obtain ⟨⟨t143, t144, t145, t146, t147, t148, t149, t150, t151, t152⟩, A360, H⟩ := H
                replace H : ((pyxlaw13_same.f t129 t130 t131 t132 t133 t134 t135 t136 t139 t140 t143 t144 t145 t146 t147 t148 t149 t150 t151 t152).bind fun t153 => (some t153)) = some r := H
                have A36 := Aside0.mk A360
                clear A360
                replace H := Option.bind_eq_some_iff.mp H
                obtain ⟨t153, A370, H⟩ := H
                replace H : (some t153) = some r := H
                have A37 := Aside0.mk A370
                clear A370
                obtain rfl := Option.some.inj H
                have hcz38_0 : wr.cell? ⟨gb115, 0, none⟩ = some (.int .i64 t102) := (blk_cell BK115.out 0).trans rfl
                have hcz38_1 : wr.cell? ⟨gb115, 1, none⟩ = some (.int .i64 t103) := (blk_cell BK115.out 1).trans rfl
                have hcz38_2 : wr.cell? ⟨gb115, 2, none⟩ = some (.string t104) := (blk_cell BK115.out 2).trans rfl
                have hcz38_3 : wr.cell? ⟨gb115, 3, none⟩ = some (.int .i64 t105) := (blk_cell BK115.out 3).trans rfl
                have hcz38_4 : wr.cell? ⟨gb115, 4, none⟩ = some (.int .i64 t106) := (blk_cell BK115.out 4).trans rfl
                have hcz38_5 : wr.cell? ⟨gb115, 5, none⟩ = some (.int .i64 t107) := (blk_cell BK115.out 5).trans rfl
                have hcz38_6 : wr.cell? ⟨gb115, 6, none⟩ = some (.int .i64 t108) := (blk_cell BK115.out 6).trans rfl
                have hcz38_7 : wr.cell? ⟨gb115, 7, none⟩ = some (u116007) := (blk_cell BK115.out 7).trans rfl
                have hcz38_8 : wr.cell? ⟨gb115, 8, none⟩ = some (.int .i64 t112) := (blk_cell BK115.out 8).trans rfl
                have hcz38_9 : wr.cell? ⟨gb115, 9, none⟩ = some (.int .u32 t113) := (blk_cell BK115.out 9).trans rfl
                have hfz38_0 := blk_frozen BK115.out 0
                have hfz38_1 := blk_frozen BK115.out 1
                have hfz38_2 := blk_frozen BK115.out 2
                have hfz38_3 := blk_frozen BK115.out 3
                have hfz38_4 := blk_frozen BK115.out 4
                have hfz38_5 := blk_frozen BK115.out 5
                have hfz38_6 := blk_frozen BK115.out 6
                have hfz38_7 := blk_frozen BK115.out 7
                have hfz38_8 := blk_frozen BK115.out 8
                have hfz38_9 := blk_frozen BK115.out 9
                obtain ⟨Ao39, co39, eo39⟩ := Kd.R_slice HO_116007.out
                subst eo39
                try go_wp2_with (first | ((with_reducible refine gate_callee (f := 25) rfl ?_); refine goesL_ (some 46) rfl rfl Tryd.func25 (by kernel_rfl) rfl #[.int .i64 a0] rfl (by (try simp only [List.map_toArray, List.map_cons, List.map_nil]); first | done | rfl | (simp only [List.length_drop, List.length_take]; rfl)) ?_; (with_reducible refine (params_Get.calls a0 t129 t130 t131 t132 t133 t134 t135 t136 t139 t140 t141 _ ?side1 A35.out).mono ?_); (case side1 => first | exact HLd | (exact LaidOk.below HLd (by repeat (first | (with_reducible first | exact HB.out | apply below_alloc | apply pw_below_drewN | apply below_drew1) | exact HB.out))) | (repeat (first | exact HLd | apply LaidOk.drewN | apply LaidOk.drew | apply LaidOk.alloc))); rintro e w40 ⟨v137, rfl, ho0, hb⟩; refine ⟨_, rfl, ?_⟩; have n0_ := Aside0.mk (Kd.R_elder' (by (with_reducible repeat (first | apply Kd.R_alloc | apply Kd.R_drewN | apply Kd.R_drew)); exact HO_116007.out) (Kd.R_base ho0) hb); have n1_ := Aside0.mk (Kd.R_lower (Kd.R_new' ho0 (Kd.R_lt (by (with_reducible repeat (first | apply Kd.R_alloc | apply Kd.R_drewN | apply Kd.R_drew)); exact HO_116007.out))) (below_size (by repeat (first | (with_reducible first | exact HB.out | apply below_alloc | apply pw_below_drewN | apply below_drew1 | refine below_set ?_ GE115.out) | exact HB.out)))); have n2_ := Aside0.mk (blk_below (g := gb115) (o := .cells #[.int .i64 t102, .int .i64 t103, .string t104, .int .i64 t105, .int .i64 t106, .int .i64 t107, .int .i64 t108, .slice Ao39 x116007_2.length co39, .int .i64 t112, .int .u32 t113] 37 (0, 0)) (by (with_reducible repeat (first | refine blk_drewN ?_ _ | refine blk_drew ?_ | refine blk_alloc ?_ _)); exact BK115.out) hb); have n3_ := Aside0.mk (below_step (by repeat (first | (with_reducible first | exact HB.out | apply below_alloc | apply pw_below_drewN | apply below_drew1 | refine below_set ?_ GE115.out) | exact HB.out)) hb); clear HO_116007; clear BK115; clear HB; have HO_116007 := n0_; have HO138 := n1_; have BK115 := n2_; have HB := n3_; clear n0_ n1_ n2_ n3_; (try clear hb); (try clear hb2); (try clear hk); (try clear hi); (try clear ho0)) | ((with_reducible refine gate_dst (N := 6) rfl ?_); refine box_event ?hg (N := 6) ?hd (cs := #[.int .i64 0, .int .i64 0, .string (⟨#[]⟩ : ByteArray), .int .i64 0, .int .i64 0, .int .i64 0, .int .i64 0, .slice none 0 0, .int .i64 0, .int .u32 0]) (t := 37) ?hr ?_; (case hd => rfl); (case hg => rfl); (case hr => first | (go_simp; done) | (go_simp; rfl)); intro gb142 hg w41 hbox hb; have n0_ := Aside0.mk (Kd.R_below (by (with_reducible repeat (first | apply Kd.R_alloc | apply Kd.R_drewN | apply Kd.R_drew)); exact HO_116007.out) hb); have n1_ := Aside0.mk (Kd.R_below (by (with_reducible repeat (first | apply Kd.R_alloc | apply Kd.R_drewN | apply Kd.R_drew)); exact HO138.out) hb); have n2_ := Aside0.mk (blk_below (g := gb115) (o := .cells #[.int .i64 t102, .int .i64 t103, .string t104, .int .i64 t105, .int .i64 t106, .int .i64 t107, .int .i64 t108, .slice Ao39 x116007_2.length co39, .int .i64 t112, .int .u32 t113] 37 (0, 0)) (by (with_reducible repeat (first | refine blk_drewN ?_ _ | refine blk_drew ?_ | refine blk_alloc ?_ _)); exact BK115.out) hb); have n3_ := Aside0.mk (below_step (by repeat (first | (with_reducible first | exact HB.out | apply below_alloc | apply pw_below_drewN | apply below_drew1 | refine below_set ?_ GE115.out) | exact HB.out)) hb); have n4_ := Aside0.mk (hbox); have n5_ := Aside0.mk ((by rw [hg]; exact (below_size (by repeat (first | (with_reducible first | exact HB.out | apply below_alloc | apply pw_below_drewN | apply below_drew1 | refine below_set ?_ GE115.out) | exact HB.out))) : w.heap.size ≤ gb142)); have n6_ := Aside0.mk ((by rw [hg]; exact (below_size (by repeat (first | (with_reducible first | exact HB.out | apply below_alloc | apply pw_below_drewN | apply below_drew1 | refine below_set ?_ GE115.out) | exact HB.out))) : w.heap.size ≤ gb142)); have n7_ := Aside0.mk ((by rw [hg]; exact Nat.ne_of_lt (blk_lt (g := gb115) (o := .cells #[.int .i64 t102, .int .i64 t103, .string t104, .int .i64 t105, .int .i64 t106, .int .i64 t107, .int .i64 t108, .slice Ao39 x116007_2.length co39, .int .i64 t112, .int .u32 t113] 37 (0, 0)) (by (with_reducible repeat (first | refine blk_drewN ?_ _ | refine blk_drew ?_ | refine blk_alloc ?_ _)); exact BK115.out)) : gb115 ≠ gb142)); have n8_ := Aside0.mk ((by rw [hg]; exact Nat.ne_of_gt (blk_lt (g := gb115) (o := .cells #[.int .i64 t102, .int .i64 t103, .string t104, .int .i64 t105, .int .i64 t106, .int .i64 t107, .int .i64 t108, .slice Ao39 x116007_2.length co39, .int .i64 t112, .int .u32 t113] 37 (0, 0)) (by (with_reducible repeat (first | refine blk_drewN ?_ _ | refine blk_drew ?_ | refine blk_alloc ?_ _)); exact BK115.out)) : gb142 ≠ gb115)); clear HO_116007; clear HO138; clear BK115; clear HB; have HO_116007 := n0_; have HO138 := n1_; have BK115 := n2_; have HB := n3_; have BK142 := n4_; have GW142 := n5_; have GE142 := n6_; have NB115_142 := n7_; have NB142_115 := n8_; clear n0_ n1_ n2_ n3_ n4_ n5_ n6_ n7_ n8_; clear hb hbox hg; have hnb42 := NB142_115.out; have hnc42 := NB115_142.out; have hcz43_0 : w41.cell? ⟨gb142, 0, none⟩ = some (.int .i64 0) := (blk_cell BK142.out 0).trans rfl; have hcz43_1 : w41.cell? ⟨gb142, 1, none⟩ = some (.int .i64 0) := (blk_cell BK142.out 1).trans rfl; have hcz43_2 : w41.cell? ⟨gb142, 2, none⟩ = some (.string (⟨#[]⟩ : ByteArray)) := (blk_cell BK142.out 2).trans rfl; have hcz43_3 : w41.cell? ⟨gb142, 3, none⟩ = some (.int .i64 0) := (blk_cell BK142.out 3).trans rfl; have hcz43_4 : w41.cell? ⟨gb142, 4, none⟩ = some (.int .i64 0) := (blk_cell BK142.out 4).trans rfl; have hcz43_5 : w41.cell? ⟨gb142, 5, none⟩ = some (.int .i64 0) := (blk_cell BK142.out 5).trans rfl; have hcz43_6 : w41.cell? ⟨gb142, 6, none⟩ = some (.int .i64 0) := (blk_cell BK142.out 6).trans rfl; have hcz43_7 : w41.cell? ⟨gb142, 7, none⟩ = some (.slice none 0 0) := (blk_cell BK142.out 7).trans rfl; have hcz43_8 : w41.cell? ⟨gb142, 8, none⟩ = some (.int .i64 0) := (blk_cell BK142.out 8).trans rfl; have hcz43_9 : w41.cell? ⟨gb142, 9, none⟩ = some (.int .u32 0) := (blk_cell BK142.out 9).trans rfl; have hfz43_0 := blk_frozen BK142.out 0; have hfz43_1 := blk_frozen BK142.out 1; have hfz43_2 := blk_frozen BK142.out 2; have hfz43_3 := blk_frozen BK142.out 3; have hfz43_4 := blk_frozen BK142.out 4; have hfz43_5 := blk_frozen BK142.out 5; have hfz43_6 := blk_frozen BK142.out 6; have hfz43_7 := blk_frozen BK142.out 7; have hfz43_8 := blk_frozen BK142.out 8; have hfz43_9 := blk_frozen BK142.out 9; obtain ⟨Ao44, co44, eo44⟩ := Kd.R_slice HO138.out; subst eo44))
                have n0_ : Aside0 (Kd.R (Kd.int .u32) 27 ((((((((((w41.setCell ⟨gb142, 0, none⟩ (.int .i64 t129)).setCell ⟨gb142, 1, none⟩ (.int .i64 t130)).setCell ⟨gb142, 2, none⟩ (.string t131)).setCell ⟨gb142, 3, none⟩ (.int .i64 t132)).setCell ⟨gb142, 4, none⟩ (.int .i64 t133)).setCell ⟨gb142, 5, none⟩ (.int .i64 t134)).setCell ⟨gb142, 6, none⟩ (.int .i64 t135)).setCell ⟨gb142, 7, none⟩ (.slice Ao44 t136.length co44)).setCell ⟨gb142, 8, none⟩ (.int .i64 t139)).setCell ⟨gb142, 9, none⟩ (.int .u32 t140)) w.heap.size (fun k_ => some k_ ≠ (.slice Ao44 t136.length co44 : Value).ownBlock) (.slice Ao39 x116007_2.length co39) x116007_2) := ⟨by (with_reducible repeat (first | apply Kd.R_alloc | apply Kd.R_drewN | apply Kd.R_drew)); exact Kd.R_mono (Kd.R_far (p := ⟨gb142, 9, none⟩) (Kd.R_far (p := ⟨gb142, 8, none⟩) (Kd.R_far (p := ⟨gb142, 7, none⟩) (Kd.R_far (p := ⟨gb142, 6, none⟩) (Kd.R_far (p := ⟨gb142, 5, none⟩) (Kd.R_far (p := ⟨gb142, 4, none⟩) (Kd.R_far (p := ⟨gb142, 3, none⟩) (Kd.R_far (p := ⟨gb142, 2, none⟩) (Kd.R_far (p := ⟨gb142, 1, none⟩) (Kd.R_far (p := ⟨gb142, 0, none⟩) (Kd.R_types HO_116007.out BK142.out (by decide)) (fun _ hk => hk.2) (.int .i64 t129)) (fun _ hk => hk.2) (.int .i64 t130)) (fun _ hk => hk.2) (.string t131)) (fun _ hk => hk.2) (.int .i64 t132)) (fun _ hk => hk.2) (.int .i64 t133)) (fun _ hk => hk.2) (.int .i64 t134)) (fun _ hk => hk.2) (.int .i64 t135)) (fun _ hk => hk.2) (.slice Ao44 t136.length co44)) (fun _ hk => hk.2) (.int .i64 t139)) (fun _ hk => hk.2) (.int .u32 t140)) (fun _ hk => hk.1.2)⟩
                have n1_ : Aside0 (Kd.R (Kd.int .u32) 27 ((((((((((w41.setCell ⟨gb142, 0, none⟩ (.int .i64 t129)).setCell ⟨gb142, 1, none⟩ (.int .i64 t130)).setCell ⟨gb142, 2, none⟩ (.string t131)).setCell ⟨gb142, 3, none⟩ (.int .i64 t132)).setCell ⟨gb142, 4, none⟩ (.int .i64 t133)).setCell ⟨gb142, 5, none⟩ (.int .i64 t134)).setCell ⟨gb142, 6, none⟩ (.int .i64 t135)).setCell ⟨gb142, 7, none⟩ (.slice Ao44 t136.length co44)).setCell ⟨gb142, 8, none⟩ (.int .i64 t139)).setCell ⟨gb142, 9, none⟩ (.int .u32 t140)) w.heap.size (fun k_ => some k_ ≠ (.slice Ao39 x116007_2.length co39 : Value).ownBlock) (.slice Ao44 t136.length co44) t136) := ⟨by (with_reducible repeat (first | apply Kd.R_alloc | apply Kd.R_drewN | apply Kd.R_drew)); exact Kd.R_mono (Kd.R_far (p := ⟨gb142, 9, none⟩) (Kd.R_far (p := ⟨gb142, 8, none⟩) (Kd.R_far (p := ⟨gb142, 7, none⟩) (Kd.R_far (p := ⟨gb142, 6, none⟩) (Kd.R_far (p := ⟨gb142, 5, none⟩) (Kd.R_far (p := ⟨gb142, 4, none⟩) (Kd.R_far (p := ⟨gb142, 3, none⟩) (Kd.R_far (p := ⟨gb142, 2, none⟩) (Kd.R_far (p := ⟨gb142, 1, none⟩) (Kd.R_far (p := ⟨gb142, 0, none⟩) (Kd.R_types HO138.out BK142.out (by decide)) (fun _ hk => hk.2) (.int .i64 t129)) (fun _ hk => hk.2) (.int .i64 t130)) (fun _ hk => hk.2) (.string t131)) (fun _ hk => hk.2) (.int .i64 t132)) (fun _ hk => hk.2) (.int .i64 t133)) (fun _ hk => hk.2) (.int .i64 t134)) (fun _ hk => hk.2) (.int .i64 t135)) (fun _ hk => hk.2) (.slice Ao44 t136.length co44)) (fun _ hk => hk.2) (.int .i64 t139)) (fun _ hk => hk.2) (.int .u32 t140)) (fun _ hk => hk.1.2)⟩
                have n2_ : Aside0 (((((((((((w41.setCell ⟨gb142, 0, none⟩ (.int .i64 t129)).setCell ⟨gb142, 1, none⟩ (.int .i64 t130)).setCell ⟨gb142, 2, none⟩ (.string t131)).setCell ⟨gb142, 3, none⟩ (.int .i64 t132)).setCell ⟨gb142, 4, none⟩ (.int .i64 t133)).setCell ⟨gb142, 5, none⟩ (.int .i64 t134)).setCell ⟨gb142, 6, none⟩ (.int .i64 t135)).setCell ⟨gb142, 7, none⟩ (.slice Ao44 t136.length co44)).setCell ⟨gb142, 8, none⟩ (.int .i64 t139)).setCell ⟨gb142, 9, none⟩ (.int .u32 t140)).heap[gb115]? = some (.cells #[.int .i64 t102, .int .i64 t103, .string t104, .int .i64 t105, .int .i64 t106, .int .i64 t107, .int .i64 t108, .slice Ao39 x116007_2.length co39, .int .i64 t112, .int .u32 t113] 37 (0, 0))) := ⟨by (with_reducible repeat (first | refine blk_drewN ?_ _ | refine blk_drew ?_ | refine blk_alloc ?_ _)); refine blk_far ?_ NB115_142.out _; (with_reducible repeat (first | refine blk_drewN ?_ _ | refine blk_drew ?_ | refine blk_alloc ?_ _)); refine blk_far ?_ NB115_142.out _; (with_reducible repeat (first | refine blk_drewN ?_ _ | refine blk_drew ?_ | refine blk_alloc ?_ _)); refine blk_far ?_ NB115_142.out _; (with_reducible repeat (first | refine blk_drewN ?_ _ | refine blk_drew ?_ | refine blk_alloc ?_ _)); refine blk_far ?_ NB115_142.out _; (with_reducible repeat (first | refine blk_drewN ?_ _ | refine blk_drew ?_ | refine blk_alloc ?_ _)); refine blk_far ?_ NB115_142.out _; (with_reducible repeat (first | refine blk_drewN ?_ _ | refine blk_drew ?_ | refine blk_alloc ?_ _)); refine blk_far ?_ NB115_142.out _; (with_reducible repeat (first | refine blk_drewN ?_ _ | refine blk_drew ?_ | refine blk_alloc ?_ _)); refine blk_far ?_ NB115_142.out _; (with_reducible repeat (first | refine blk_drewN ?_ _ | refine blk_drew ?_ | refine blk_alloc ?_ _)); refine blk_far ?_ NB115_142.out _; (with_reducible repeat (first | refine blk_drewN ?_ _ | refine blk_drew ?_ | refine blk_alloc ?_ _)); refine blk_far ?_ NB115_142.out _; (with_reducible repeat (first | refine blk_drewN ?_ _ | refine blk_drew ?_ | refine blk_alloc ?_ _)); refine blk_far ?_ NB115_142.out _; (with_reducible repeat (first | refine blk_drewN ?_ _ | refine blk_drew ?_ | refine blk_alloc ?_ _)); exact BK115.out⟩
                have n3_ : Aside0 (((((((((((w41.setCell ⟨gb142, 0, none⟩ (.int .i64 t129)).setCell ⟨gb142, 1, none⟩ (.int .i64 t130)).setCell ⟨gb142, 2, none⟩ (.string t131)).setCell ⟨gb142, 3, none⟩ (.int .i64 t132)).setCell ⟨gb142, 4, none⟩ (.int .i64 t133)).setCell ⟨gb142, 5, none⟩ (.int .i64 t134)).setCell ⟨gb142, 6, none⟩ (.int .i64 t135)).setCell ⟨gb142, 7, none⟩ (.slice Ao44 t136.length co44)).setCell ⟨gb142, 8, none⟩ (.int .i64 t139)).setCell ⟨gb142, 9, none⟩ (.int .u32 t140)).heap[gb142]? = some (.cells #[.int .i64 t129, .int .i64 t130, .string t131, .int .i64 t132, .int .i64 t133, .int .i64 t134, .int .i64 t135, .slice Ao44 t136.length co44, .int .i64 t139, .int .u32 t140] 37 (0, 0))) := ⟨by (with_reducible repeat (first | refine blk_drewN ?_ _ | refine blk_drew ?_ | refine blk_alloc ?_ _)); refine blk_put (cs := #[.int .i64 t129, .int .i64 t130, .string t131, .int .i64 t132, .int .i64 t133, .int .i64 t134, .int .i64 t135, .slice Ao44 t136.length co44, .int .i64 t139, .int .u32 0]) ?_ 9 _ rfl; (with_reducible repeat (first | refine blk_drewN ?_ _ | refine blk_drew ?_ | refine blk_alloc ?_ _)); refine blk_put (cs := #[.int .i64 t129, .int .i64 t130, .string t131, .int .i64 t132, .int .i64 t133, .int .i64 t134, .int .i64 t135, .slice Ao44 t136.length co44, .int .i64 0, .int .u32 0]) ?_ 8 _ rfl; (with_reducible repeat (first | refine blk_drewN ?_ _ | refine blk_drew ?_ | refine blk_alloc ?_ _)); refine blk_put (cs := #[.int .i64 t129, .int .i64 t130, .string t131, .int .i64 t132, .int .i64 t133, .int .i64 t134, .int .i64 t135, .slice none 0 0, .int .i64 0, .int .u32 0]) ?_ 7 _ rfl; (with_reducible repeat (first | refine blk_drewN ?_ _ | refine blk_drew ?_ | refine blk_alloc ?_ _)); refine blk_put (cs := #[.int .i64 t129, .int .i64 t130, .string t131, .int .i64 t132, .int .i64 t133, .int .i64 t134, .int .i64 0, .slice none 0 0, .int .i64 0, .int .u32 0]) ?_ 6 _ rfl; (with_reducible repeat (first | refine blk_drewN ?_ _ | refine blk_drew ?_ | refine blk_alloc ?_ _)); refine blk_put (cs := #[.int .i64 t129, .int .i64 t130, .string t131, .int .i64 t132, .int .i64 t133, .int .i64 0, .int .i64 0, .slice none 0 0, .int .i64 0, .int .u32 0]) ?_ 5 _ rfl; (with_reducible repeat (first | refine blk_drewN ?_ _ | refine blk_drew ?_ | refine blk_alloc ?_ _)); refine blk_put (cs := #[.int .i64 t129, .int .i64 t130, .string t131, .int .i64 t132, .int .i64 0, .int .i64 0, .int .i64 0, .slice none 0 0, .int .i64 0, .int .u32 0]) ?_ 4 _ rfl; (with_reducible repeat (first | refine blk_drewN ?_ _ | refine blk_drew ?_ | refine blk_alloc ?_ _)); refine blk_put (cs := #[.int .i64 t129, .int .i64 t130, .string t131, .int .i64 0, .int .i64 0, .int .i64 0, .int .i64 0, .slice none 0 0, .int .i64 0, .int .u32 0]) ?_ 3 _ rfl; (with_reducible repeat (first | refine blk_drewN ?_ _ | refine blk_drew ?_ | refine blk_alloc ?_ _)); refine blk_put (cs := #[.int .i64 t129, .int .i64 t130, .string (⟨#[]⟩ : ByteArray), .int .i64 0, .int .i64 0, .int .i64 0, .int .i64 0, .slice none 0 0, .int .i64 0, .int .u32 0]) ?_ 2 _ rfl; (with_reducible repeat (first | refine blk_drewN ?_ _ | refine blk_drew ?_ | refine blk_alloc ?_ _)); refine blk_put (cs := #[.int .i64 t129, .int .i64 0, .string (⟨#[]⟩ : ByteArray), .int .i64 0, .int .i64 0, .int .i64 0, .int .i64 0, .slice none 0 0, .int .i64 0, .int .u32 0]) ?_ 1 _ rfl; (with_reducible repeat (first | refine blk_drewN ?_ _ | refine blk_drew ?_ | refine blk_alloc ?_ _)); refine blk_put (cs := #[.int .i64 0, .int .i64 0, .string (⟨#[]⟩ : ByteArray), .int .i64 0, .int .i64 0, .int .i64 0, .int .i64 0, .slice none 0 0, .int .i64 0, .int .u32 0]) ?_ 0 _ rfl; (with_reducible repeat (first | refine blk_drewN ?_ _ | refine blk_drew ?_ | refine blk_alloc ?_ _)); exact BK142.out⟩
                have n4_ : Aside0 (Below w.heap.size w ((((((((((w41.setCell ⟨gb142, 0, none⟩ (.int .i64 t129)).setCell ⟨gb142, 1, none⟩ (.int .i64 t130)).setCell ⟨gb142, 2, none⟩ (.string t131)).setCell ⟨gb142, 3, none⟩ (.int .i64 t132)).setCell ⟨gb142, 4, none⟩ (.int .i64 t133)).setCell ⟨gb142, 5, none⟩ (.int .i64 t134)).setCell ⟨gb142, 6, none⟩ (.int .i64 t135)).setCell ⟨gb142, 7, none⟩ (.slice Ao44 t136.length co44)).setCell ⟨gb142, 8, none⟩ (.int .i64 t139)).setCell ⟨gb142, 9, none⟩ (.int .u32 t140))) := ⟨by repeat (first | (with_reducible first | exact HB.out | apply below_alloc | apply pw_below_drewN | apply below_drew1 | refine below_set ?_ GE115.out | refine below_set ?_ GE142.out) | exact HB.out)⟩
                (try clear HO_116007)
                (try clear HO138)
                (try clear BK115)
                (try clear BK142)
                (try clear HB)
                generalize ((((((((((w41.setCell ⟨gb142, 0, none⟩ (.int .i64 t129)).setCell ⟨gb142, 1, none⟩ (.int .i64 t130)).setCell ⟨gb142, 2, none⟩ (.string t131)).setCell ⟨gb142, 3, none⟩ (.int .i64 t132)).setCell ⟨gb142, 4, none⟩ (.int .i64 t133)).setCell ⟨gb142, 5, none⟩ (.int .i64 t134)).setCell ⟨gb142, 6, none⟩ (.int .i64 t135)).setCell ⟨gb142, 7, none⟩ (.slice Ao44 t136.length co44)).setCell ⟨gb142, 8, none⟩ (.int .i64 t139)).setCell ⟨gb142, 9, none⟩ (.int .u32 t140)) = w45 at n0_ n1_ n2_ n3_ n4_ ⊢
                have HO_116007 := n0_
                have HO138 := n1_
                have BK115 := n2_
                have BK142 := n3_
                have HB := n4_
                clear n0_ n1_ n2_ n3_ n4_
                have n0_ := Aside0.mk (Kd.R_drew HO_116007.out)
                have n1_ := Aside0.mk (Kd.R_drew HO138.out)
                have n2_ := Aside0.mk (blk_drew BK115.out)
                have n3_ := Aside0.mk (blk_drew BK142.out)
                have n4_ := Aside0.mk (below_drew1 HB.out)
                clear HO_116007
                clear HO138
                clear BK115
                clear BK142
                clear HB
                have HO_116007 := n0_
                have HO138 := n1_
                have BK115 := n2_
                have BK142 := n3_
                have HB := n4_
                clear n0_ n1_ n2_ n3_ n4_
                refine start_ (n := 5) (S := fun w' => w'.cell? ⟨gb142, 0, none⟩ = some (.int .i64 t129) ∧ w'.cell? ⟨gb142, 1, none⟩ = some (.int .i64 t130) ∧ w'.cell? ⟨gb142, 2, none⟩ = some (.string t131) ∧ w'.cell? ⟨gb142, 3, none⟩ = some (.int .i64 t132) ∧ w'.cell? ⟨gb142, 4, none⟩ = some (.int .i64 t133) ∧ w'.cell? ⟨gb142, 5, none⟩ = some (.int .i64 t134) ∧ w'.cell? ⟨gb142, 6, none⟩ = some (.int .i64 t135) ∧ w'.cell? ⟨gb142, 7, none⟩ = some (.slice Ao44 t136.length co44) ∧ w'.cell? ⟨gb142, 8, none⟩ = some (.int .i64 t139) ∧ w'.cell? ⟨gb142, 9, none⟩ = some (.int .u32 t140)) (ds := []) #[false, false, false, false, false] (by kernel_rfl) rfl rfl ⟨(blk_cell BK142.out 0).trans rfl, (blk_cell BK142.out 1).trans rfl, (blk_cell BK142.out 2).trans rfl, (blk_cell BK142.out 3).trans rfl, (blk_cell BK142.out 4).trans rfl, (blk_cell BK142.out 5).trans rfl, (blk_cell BK142.out 6).trans rfl, (blk_cell BK142.out 7).trans rfl, (blk_cell BK142.out 8).trans rfl, (blk_cell BK142.out 9).trans rfl⟩ (fun hHeld => ?_)
                generalize w45.drew = w46 at HO_116007 HO138 BK115 BK142 HB hHeld ⊢
                refine pure_ (i := 1) (N := some 50) (v := ?_) (a' := ?_) #[false, true, false, false, false] rfl rfl (by kernel_rfl) (fun _ _ _ h => h) (Or.inl ⟨by rfl, ?_⟩) ?_ ?_
                rotate_left
                · intro w'
                  go_simp
                  with_reducible rfl
                rotate_left
                · simp only [Act.put, List.setIfInBounds_toArray, List.set_cons_zero, List.set_cons_succ, i64_w, i32_w]
                  rfl
                refine take_ (i := 0) (N := some 49) (v := ?_) (a' := ?_) #[true, true, false, false, false] rfl rfl (by kernel_rfl) (fun _ _ _ h => h) (Or.inl ⟨by rfl, ?_⟩) hHeld ?_ ?_
                rotate_left
                · rintro w' ⟨s0, s1, s2, s3, s4, s5, s6, s7, s8, s9⟩
                  go_simp
                  with_reducible rfl
                rotate_left
                · simp only [Act.put, List.setIfInBounds_toArray, List.set_cons_zero, List.set_cons_succ, i64_w, i32_w]
                  rfl
                refine one_ (i := 2) (N := some 51) #[true, true, true, false, false] rfl rfl (by kernel_rfl) (by decide) (fun K hK => ?_)
                refine goes_ Tryd.func27 (by kernel_rfl) rfl #[.int .i64 a0] (by rfl) rfl rfl (by (try simp only [List.map_toArray, List.map_cons, List.map_nil]); first | done | rfl | (simp only [List.length_drop, List.length_take]; rfl)) ?_
                with_reducible refine (pyxref13_Get.calls a0 t143 t144 t145 t146 t147 t148 t149 t150 t151 t152 _ A36.out).mono ?_
                rintro e w47 ⟨rfl, hb⟩
                refine ⟨_, rfl, ?_⟩
                have n0_ := Aside0.mk (Kd.R_below (by (with_reducible repeat (first | apply Kd.R_alloc | apply Kd.R_drewN | apply Kd.R_drew)); exact HO_116007.out) hb)
                have n1_ := Aside0.mk (Kd.R_below (by (with_reducible repeat (first | apply Kd.R_alloc | apply Kd.R_drewN | apply Kd.R_drew)); exact HO138.out) hb)
                have n2_ := Aside0.mk (blk_below (g := gb115) (o := .cells #[.int .i64 t102, .int .i64 t103, .string t104, .int .i64 t105, .int .i64 t106, .int .i64 t107, .int .i64 t108, .slice Ao39 x116007_2.length co39, .int .i64 t112, .int .u32 t113] 37 (0, 0)) (by (with_reducible repeat (first | refine blk_drewN ?_ _ | refine blk_drew ?_ | refine blk_alloc ?_ _)); exact BK115.out) hb)
                have n3_ := Aside0.mk (blk_below (g := gb142) (o := .cells #[.int .i64 t129, .int .i64 t130, .string t131, .int .i64 t132, .int .i64 t133, .int .i64 t134, .int .i64 t135, .slice Ao44 t136.length co44, .int .i64 t139, .int .u32 t140] 37 (0, 0)) (by (with_reducible repeat (first | refine blk_drewN ?_ _ | refine blk_drew ?_ | refine blk_alloc ?_ _)); exact BK142.out) hb)
                have n4_ := Aside0.mk (below_step (by repeat (first | (with_reducible first | exact HB.out | apply below_alloc | apply pw_below_drewN | apply below_drew1 | refine below_set ?_ GE115.out | refine below_set ?_ GE142.out) | exact HB.out)) hb)
                clear HO_116007
                clear HO138
                clear BK115
                clear BK142
                clear HB
                have HO_116007 := n0_
                have HO138 := n1_
                have BK115 := n2_
                have BK142 := n3_
                have HB := n4_
                clear n0_ n1_ n2_ n3_ n4_
                (try clear hb)
                (try clear hb2)
                (try clear hk)
                (try clear hi)
                refine hK.out _ _ ⟨(blk_cell BK142.out 0).trans rfl, (blk_cell BK142.out 1).trans rfl, (blk_cell BK142.out 2).trans rfl, (blk_cell BK142.out 3).trans rfl, (blk_cell BK142.out 4).trans rfl, (blk_cell BK142.out 5).trans rfl, (blk_cell BK142.out 6).trans rfl, (blk_cell BK142.out 7).trans rfl, (blk_cell BK142.out 8).trans rfl, (blk_cell BK142.out 9).trans rfl⟩ (fun hHeld => ?_)
                clear hK K
                refine norm_ (a' := ?_) ?_ ?_
                rotate_left
                · show Act.put _ (some 51) _ = _
                  simp only [Act.put, List.setIfInBounds_toArray, List.set_cons_zero, List.set_cons_succ, i64_w, i32_w]
                  rfl
                refine one_ (i := 3) (N := some 52) #[true, true, true, true, false] rfl rfl (by kernel_rfl) (by decide) (fun K hK => ?_)
                refine goes_ Tryd.func26 (by kernel_rfl) rfl #[.agg #[.int .i64 t129, .int .i64 t130, .string t131, .int .i64 t132, .int .i64 t133, .int .i64 t134, .int .i64 t135, .slice Ao44 t136.length co44, .int .i64 t139, .int .u32 t140], .agg #[.int .i64 t143, .int .i64 t144, .string t145, .int .i64 t146, .int .i64 t147, .int .i64 t148, .int .i64 t149, .string t150, .int .i64 t151, .int .u32 t152]] (by rfl) rfl rfl (by (try simp only [List.map_toArray, List.map_cons, List.map_nil]); first | done | rfl | (simp only [List.length_drop, List.length_take]; rfl)) ?_
                with_reducible refine (pyxlaw13_same.calls t129 t130 t131 t132 t133 t134 t135 _ _ t136 t139 t140 t143 t144 t145 t146 t147 t148 t149 t150 t151 t152 t153 _ ?side1 ?side2 ?side3 A37.out).mono ?_
                (case side1 => first | exact HLd | (exact LaidOk.below HLd (by repeat (first | (with_reducible first | exact HB.out | apply below_alloc | apply pw_below_drewN | apply below_drew1) | exact HB.out))) | (repeat (first | exact HLd | apply LaidOk.drewN | apply LaidOk.drew | apply LaidOk.alloc)))
                (case side2 => repeat (first | exact (Kd.R_reads' HO138.out).2.2 | (with_reducible refine Kd.C_alloc ?_ _) | (with_reducible refine Kd.C_drewN ?_ _) | (with_reducible refine Kd.C_drew ?_)))
                (case side3 => exact (Kd.R_reads' HO138.out).2.1)
                rintro e w48 ⟨rfl, hb⟩
                refine ⟨_, rfl, ?_⟩
                have n0_ := Aside0.mk (Kd.R_below (by (with_reducible repeat (first | apply Kd.R_alloc | apply Kd.R_drewN | apply Kd.R_drew)); exact HO_116007.out) hb)
                have n1_ := Aside0.mk (Kd.R_below (by (with_reducible repeat (first | apply Kd.R_alloc | apply Kd.R_drewN | apply Kd.R_drew)); exact HO138.out) hb)
                have n2_ := Aside0.mk (blk_below (g := gb115) (o := .cells #[.int .i64 t102, .int .i64 t103, .string t104, .int .i64 t105, .int .i64 t106, .int .i64 t107, .int .i64 t108, .slice Ao39 x116007_2.length co39, .int .i64 t112, .int .u32 t113] 37 (0, 0)) (by (with_reducible repeat (first | refine blk_drewN ?_ _ | refine blk_drew ?_ | refine blk_alloc ?_ _)); exact BK115.out) hb)
                have n3_ := Aside0.mk (blk_below (g := gb142) (o := .cells #[.int .i64 t129, .int .i64 t130, .string t131, .int .i64 t132, .int .i64 t133, .int .i64 t134, .int .i64 t135, .slice Ao44 t136.length co44, .int .i64 t139, .int .u32 t140] 37 (0, 0)) (by (with_reducible repeat (first | refine blk_drewN ?_ _ | refine blk_drew ?_ | refine blk_alloc ?_ _)); exact BK142.out) hb)
                have n4_ := Aside0.mk (below_step (by repeat (first | (with_reducible first | exact HB.out | apply below_alloc | apply pw_below_drewN | apply below_drew1 | refine below_set ?_ GE115.out | refine below_set ?_ GE142.out) | exact HB.out)) hb)
                clear HO_116007
                clear HO138
                clear BK115
                clear BK142
                clear HB
                have HO_116007 := n0_
                have HO138 := n1_
                have BK115 := n2_
                have BK142 := n3_
                have HB := n4_
                clear n0_ n1_ n2_ n3_ n4_
                (try clear hb)
                (try clear hb2)
                (try clear hk)
                (try clear hi)
                refine hK.out _ _ ⟨(blk_cell BK142.out 0).trans rfl, (blk_cell BK142.out 1).trans rfl, (blk_cell BK142.out 2).trans rfl, (blk_cell BK142.out 3).trans rfl, (blk_cell BK142.out 4).trans rfl, (blk_cell BK142.out 5).trans rfl, (blk_cell BK142.out 6).trans rfl, (blk_cell BK142.out 7).trans rfl, (blk_cell BK142.out 8).trans rfl, (blk_cell BK142.out 9).trans rfl⟩ (fun hHeld => ?_)
                clear hK K
                refine norm_ (a' := ?_) ?_ ?_
                rotate_left
                · show Act.put _ (some 52) _ = _
                  simp only [Act.put, List.setIfInBounds_toArray, List.set_cons_zero, List.set_cons_succ, i64_w, i32_w]
                  rfl
                refine pure_ (i := 4) (N := some 2) (v := ?_) (a' := ?_) #[true, true, true, true, true] rfl rfl (by kernel_rfl) (fun _ _ _ h => h) (Or.inl ⟨by rfl, ?_⟩) ?_ ?_
                rotate_left
                · intro w'
                  go_simp
                  with_reducible rfl
                rotate_left
                · simp only [Act.put, List.setIfInBounds_toArray, List.set_cons_zero, List.set_cons_succ, i64_w, i32_w]
                  rfl
                refine done_ (by kernel_rfl) ?_
                try go_wp2
                go_ret
                exact ⟨by first | rfl | (simp [errW_none, errW_some] <;> rfl) | (simp [*, errW_none, errW_some] <;> rfl), by repeat (first | (with_reducible first | exact HB.out | apply below_alloc | apply pw_below_drewN | apply below_drew1 | refine below_set ?_ GE115.out | refine below_set ?_ GE142.out) | exact HB.out)⟩
  · replace c3 := Bool.eq_false_iff.mpr c3
    subst c3
    have H1 : (none) = some r := by rw [if_neg (show ¬ (false = true) by decide)] at H; exact H
    clear H
    have H := H1
    clear H1
    exact absurd H (by simp)

/-- THE ONE PURE STATEMENT of pyxlaw13_ParamsMatchesReference: yours. -/
def pyxlaw13_ParamsMatchesReference.Pure : Prop := ∀ (a0 : Int), (Lit.int .i64 a0).wf = true → ∃ k, pyxlaw13_ParamsMatchesReference.f k a0 = some true
theorem pyxlaw13_ParamsMatchesReference.walk (P : pyxlaw13_ParamsMatchesReference.Pure) (a0 : Int) (w : World) (HLd : LaidOk w) (w0 : (Lit.int .i64 a0).wf = true) :
    Calls Tryd.prog 7 #[.int .i64 a0] w fun e w' => e = .returned (.bool true) ∧ Below w.heap.size w w' := by
  obtain ⟨k, h⟩ := P a0 w0
  refine (pyxlaw13_ParamsMatchesReference.calls k a0 true w HLd h).mono ?_
  rintro e w' ⟨rfl, hd⟩
  exact ⟨rfl, hd⟩

end Go.Proofs.YtjoncjnmhhimhaaDoor.PLM
end

section
/- ParamsMatchesReference, in plain numbers: the 25 rows by the kernel; no row for another number. -/
namespace Go.Proofs.YtjoncjnmhhimhaaDoor.Hand
set_option linter.unusedVariables false
set_option linter.unusedSimpArgs false
open Go.RowKit Go.Proofs.YtjoncjnmhhimhaaDoor.PT13s Go.Proofs.YtjoncjnmhhimhaaDoor.PT13r
theorem match_rows : ∀ m : Nat, m < 25 → PLM.pyxlaw13_ParamsMatchesReference.f 40 ((m : Int) + 1) = some true := by decide +kernel
theorem get_out (a0 : Int) (h : ¬ (1 ≤ a0 ∧ a0 ≤ 25)) : params_Get.f a0 = some parNone := by
  unfold params_Get.f
  rw [if_neg h]
theorem refGet_out (a0 : Int) (h : ¬ (1 ≤ a0 ∧ a0 ≤ 25)) : pyxref13_Get.f a0 = some (0, 0, (⟨#[]⟩ : ByteArray), 0, 0, 0, 0, (⟨#[]⟩ : ByteArray), 0, 0) := by
  unfold pyxref13_Get.f
  by_cases h1 : a0 < 1
  · rw [if_pos h1]
  · rw [if_neg h1, if_pos (by omega)]
theorem same_none : pyxlaw13_same.f 0 0 (⟨#[]⟩ : ByteArray) 0 0 0 0 [] 0 0 0 0 (⟨#[]⟩ : ByteArray) 0 0 0 0 (⟨#[]⟩ : ByteArray) 0 0 = some true := by kernel_rfl
theorem pureM : PLM.pyxlaw13_ParamsMatchesReference.Pure := by
  intro a0 _
  by_cases h : 1 ≤ a0 ∧ a0 ≤ 25
  · refine ⟨40, ?_⟩
    have := match_rows (a0 - 1).toNat (by omega)
    rwa [show (((a0 - 1).toNat : Nat) : Int) + 1 = a0 by omega] at this
  · refine ⟨3, ?_⟩
    have hl : PLM.pyxlaw13_ParamsMatchesReference.j0 3 a0 false 0 0 (⟨#[]⟩ : ByteArray) 0 0 0 0 [] 0 0 = some true := by
      simp only [PLM.pyxlaw13_ParamsMatchesReference.j0, PLM.pyxlaw13_ParamsMatchesReference.l0]
      rw [get_out a0 h, refGet_out a0 h]
      simp only [Option.bind_some, parNone]
      rw [same_none]
      rfl
    unfold PLM.pyxlaw13_ParamsMatchesReference.f pyxlaw13_awake.f
    rw [get_out a0 h, refGet_out a0 h]
    simp only [Option.bind_some, if_true, parNone]
    rw [same_none]
    simp only [Option.bind_some, if_true]
    by_cases h1 : a0 ≥ 1
    · rw [if_pos h1, show (false != decide (a0 ≤ 25)) = false by simp; omega]
      exact hl
    · rw [if_neg h1]
      exact hl
end Go.Proofs.YtjoncjnmhhimhaaDoor.Hand
end

/- Texts of one proof, one behind the other. -/
import Derived.Test.YtjoncjnmhhimhaaDoorBPF0
import Derived.Test.YtjoncjnmhhimhaaDoorProg
import Derived.Below
import Derived.Deep.Draws
import Derived.Deep.AppendLies
import Derived.Maps.AppendAt
import Derived.OwnWalk
import Derived.Laws.BytesArg
import Derived.Laws.MakeOwn
import Derived.Laws.OwnMore
import Derived.Deep.OwnRows
import Derived.Tactics
import Derived.Lib.ConvBytes
import Derived.Laws.Slices
import Derived.WalkKit
import Derived.KernelRfl
import Derived.RowKit3
import Derived.Deep.LoopGhost
import Derived.Deep.QuietTactic
import Derived.BigQuiet
import Derived.WideLaws
import Derived.Deep.DeepCutAuto
import Derived.Deep.CutBlock
import Derived.Deep.RegionHeld3
import Derived.Laws.Rows
import Derived.Lib.AppendStr
import Derived.ArgAppend
import Derived.Laws.IdiomCopy
import Derived.OrdersHeld
import Derived.Laws.BitsLemmas
import Derived.RowKit
import Derived.Test.YtjoncjnmhhimhaaDoorWMore
import Derived.Test.YtjoncjnmhhimhaaDoorWGuard
import Derived.Test.YtjoncjnmhhimhaaDoorWRepsOne
import Derived.Test.YtjoncjnmhhimhaaDoorWTab
import Derived.Calls
import Derived.Test.YtjoncjnmhhimhaaDoorWLast
section
-- Written by the kit's print.py, driven by this place's wip/tools/myprint.py. Not trusted: Lean checks it.
namespace Go.Proofs.YtjoncjnmhhimhaaDoor.PLF
open Go.RowKit Go.Proofs.YtjoncjnmhhimhaaDoor.Hand Go.Proofs.YtjoncjnmhhimhaaDoor.PT13s Go.Proofs.YtjoncjnmhhimhaaDoorW.PrintWords Go.Proofs.YtjoncjnmhhimhaaDoorW.PrintLast Go.Proofs.YtjoncjnmhhimhaaDoorW.PrintMore
attribute [local go_sem] max2_int min2_int max_two min_two max_three min_three max_four min_four   -- for this text's walks alone
set_option linter.unusedVariables false
set_option linter.unusedSimpArgs false



def errW : Option Int → Value
  | none => .nilIface
  | some c => .iface 0 (.int .i64 c)
theorem errW_none : errW none = .nilIface := rfl
theorem errW_some (c : Int) : errW (some c) = .iface 0 (.int .i64 c) := rfl

theorem info42 : (Tryd.prog.info? 42).map (fun i => (i.zero, i.size, i.bytes)) = some (some (.agg #[(.int .i64 0), (.int .i64 0), (.string ⟨#[]⟩), (.int .i64 0), (.int .i64 0), (.int .i64 0), (.int .i64 0), (.string ⟨#[]⟩), (.int .i64 0), (.int .u32 0)]), 10, 96) := by kernel_rfl
-- the values' own types
def rd_L4 (xs : List (List Int)) (i : Int) : (List Int) := xs.getD i.toNat ([] : List Int)
theorem at_L4 {w : World} {A : Option Addr} {n : Nat} {xs : List (List Int)} (h : Kd.C (Kd.slice 27 (Kd.int .u32)) w A n xs) (i : Int) (h0 : 0 ≤ i) (h1 : i < n) : ∃ ad A0 c0, A = some ad ∧ w.cell? (ad.add i.toNat) = some (.slice A0 (rd_L4 xs i).length c0) ∧ (rd_L4 xs i).length ≤ c0 ∧ (Kd.int .u32).C w A0 (rd_L4 xs i).length (rd_L4 xs i) := by
  obtain ⟨ad, c, e, _, hK, hc0⟩ := Kd.C_get h ([] : List Int) i h0 h1
  have hc : ∀ j u, c[j]? = some u → w.cell? (ad.add (i.toNat * 1 + j)) = some u := hc0
  obtain ⟨A0, c0, rfl, l0, g0⟩ := hK
  exact ⟨ad, A0, c0, e, by have hq := hc 0 _ rfl; rwa [Nat.mul_one, Nat.add_zero] at hq, l0, g0⟩

/-! #### struct type 37 -/
structure S37 where
  f0 : Int
  f1 : Int
  f2 : ByteArray
  f3 : Int
  f4 : Int
  f5 : Int
  f6 : Int
  f7 : (List Int)
  f8 : Int
  f9 : Int
def z37 : S37 := ⟨(0 : Int), (0 : Int), (⟨#[]⟩ : ByteArray), (0 : Int), (0 : Int), (0 : Int), (0 : Int), ([] : List Int), (0 : Int), (0 : Int)⟩
def k37 : Kd S37 := Kd.iso (Kd.pair (Kd.int .i64) (Kd.pair (Kd.int .i64) (Kd.pair Kd.string (Kd.pair (Kd.int .i64) (Kd.pair (Kd.int .i64) (Kd.pair (Kd.int .i64) (Kd.pair (Kd.int .i64) (Kd.pair (Kd.slice 27 (Kd.int .u32)) (Kd.pair (Kd.int .i64) (Kd.int .u32)))))))))) (fun x : S37 => (x.f0, x.f1, x.f2, x.f3, x.f4, x.f5, x.f6, x.f7, x.f8, x.f9))
theorem k37_open {w : World} {x : S37} {cs : List Value} (h : k37.K w x cs) : ∃ A7 c7, cs = [.int .i64 x.f0, .int .i64 x.f1, .string x.f2, .int .i64 x.f3, .int .i64 x.f4, .int .i64 x.f5, .int .i64 x.f6, .slice A7 x.f7.length c7, .int .i64 x.f8, .int .u32 x.f9] ∧ x.f7.length ≤ c7 ∧ (Kd.int .u32).C w A7 x.f7.length x.f7 := by
  obtain ⟨_, _, rfl, rfl, ⟨_, _, rfl, rfl, ⟨_, _, rfl, rfl, ⟨_, _, rfl, rfl, ⟨_, _, rfl, rfl, ⟨_, _, rfl, rfl, ⟨_, _, rfl, rfl, ⟨_, _, rfl, ⟨A7, c7, rfl, l7, g7⟩, ⟨_, _, rfl, rfl, rfl⟩⟩⟩⟩⟩⟩⟩⟩⟩ := h
  exact ⟨A7, c7, rfl, l7, g7⟩
theorem k37_openM {w : World} {base : Nat} {ok : Nat → Prop} {x : S37} {cs : List Value} (h : k37.M w base ok x cs) : ∃ v7, cs = [.int .i64 x.f0, .int .i64 x.f1, .string x.f2, .int .i64 x.f3, .int .i64 x.f4, .int .i64 x.f5, .int .i64 x.f6, v7, .int .i64 x.f8, .int .u32 x.f9] ∧ (Kd.int .u32).R 27 w base ok v7 x.f7 := by
  obtain ⟨_, _, rfl, rfl, ⟨_, _, rfl, rfl, ⟨_, _, rfl, rfl, ⟨_, _, rfl, rfl, ⟨_, _, rfl, rfl, ⟨_, _, rfl, rfl, ⟨_, _, rfl, rfl, ⟨_, _, rfl, ⟨v7, rfl, g7⟩, ⟨_, _, rfl, rfl, rfl⟩⟩⟩⟩⟩⟩⟩⟩⟩ := h
  exact ⟨v7, rfl, g7⟩
theorem k37_mk (w : World) (x : S37) {A7 : Option Addr} {c7 : Nat} (l7 : x.f7.length ≤ c7) (g7 : (Kd.int .u32).C w A7 x.f7.length x.f7) : k37.K w x [.int .i64 x.f0, .int .i64 x.f1, .string x.f2, .int .i64 x.f3, .int .i64 x.f4, .int .i64 x.f5, .int .i64 x.f6, .slice A7 x.f7.length c7, .int .i64 x.f8, .int .u32 x.f9] := ⟨[.int .i64 x.f0], [.int .i64 x.f1, .string x.f2, .int .i64 x.f3, .int .i64 x.f4, .int .i64 x.f5, .int .i64 x.f6, .slice A7 x.f7.length c7, .int .i64 x.f8, .int .u32 x.f9], rfl, rfl, ⟨[.int .i64 x.f1], [.string x.f2, .int .i64 x.f3, .int .i64 x.f4, .int .i64 x.f5, .int .i64 x.f6, .slice A7 x.f7.length c7, .int .i64 x.f8, .int .u32 x.f9], rfl, rfl, ⟨[.string x.f2], [.int .i64 x.f3, .int .i64 x.f4, .int .i64 x.f5, .int .i64 x.f6, .slice A7 x.f7.length c7, .int .i64 x.f8, .int .u32 x.f9], rfl, rfl, ⟨[.int .i64 x.f3], [.int .i64 x.f4, .int .i64 x.f5, .int .i64 x.f6, .slice A7 x.f7.length c7, .int .i64 x.f8, .int .u32 x.f9], rfl, rfl, ⟨[.int .i64 x.f4], [.int .i64 x.f5, .int .i64 x.f6, .slice A7 x.f7.length c7, .int .i64 x.f8, .int .u32 x.f9], rfl, rfl, ⟨[.int .i64 x.f5], [.int .i64 x.f6, .slice A7 x.f7.length c7, .int .i64 x.f8, .int .u32 x.f9], rfl, rfl, ⟨[.int .i64 x.f6], [.slice A7 x.f7.length c7, .int .i64 x.f8, .int .u32 x.f9], rfl, rfl, ⟨[.slice A7 x.f7.length c7], [.int .i64 x.f8, .int .u32 x.f9], rfl, ⟨A7, c7, rfl, l7, g7⟩, ⟨[.int .i64 x.f8], [.int .u32 x.f9], rfl, rfl, rfl⟩⟩⟩⟩⟩⟩⟩⟩⟩
theorem k37_mkM (w : World) (base : Nat) (ok : Nat → Prop) (x : S37) {v7 : Value} (g7 : (Kd.int .u32).R 27 w base ok v7 x.f7) : k37.M w base ok x [.int .i64 x.f0, .int .i64 x.f1, .string x.f2, .int .i64 x.f3, .int .i64 x.f4, .int .i64 x.f5, .int .i64 x.f6, v7, .int .i64 x.f8, .int .u32 x.f9] := ⟨[.int .i64 x.f0], [.int .i64 x.f1, .string x.f2, .int .i64 x.f3, .int .i64 x.f4, .int .i64 x.f5, .int .i64 x.f6, v7, .int .i64 x.f8, .int .u32 x.f9], rfl, rfl, ⟨[.int .i64 x.f1], [.string x.f2, .int .i64 x.f3, .int .i64 x.f4, .int .i64 x.f5, .int .i64 x.f6, v7, .int .i64 x.f8, .int .u32 x.f9], rfl, rfl, ⟨[.string x.f2], [.int .i64 x.f3, .int .i64 x.f4, .int .i64 x.f5, .int .i64 x.f6, v7, .int .i64 x.f8, .int .u32 x.f9], rfl, rfl, ⟨[.int .i64 x.f3], [.int .i64 x.f4, .int .i64 x.f5, .int .i64 x.f6, v7, .int .i64 x.f8, .int .u32 x.f9], rfl, rfl, ⟨[.int .i64 x.f4], [.int .i64 x.f5, .int .i64 x.f6, v7, .int .i64 x.f8, .int .u32 x.f9], rfl, rfl, ⟨[.int .i64 x.f5], [.int .i64 x.f6, v7, .int .i64 x.f8, .int .u32 x.f9], rfl, rfl, ⟨[.int .i64 x.f6], [v7, .int .i64 x.f8, .int .u32 x.f9], rfl, rfl, ⟨[v7], [.int .i64 x.f8, .int .u32 x.f9], rfl, ⟨v7, rfl, g7⟩, ⟨[.int .i64 x.f8], [.int .u32 x.f9], rfl, rfl, rfl⟩⟩⟩⟩⟩⟩⟩⟩⟩
def rd_T37 (xs : List S37) (i : Int) : S37 := xs.getD i.toNat z37
theorem at_T37 {w : World} {A : Option Addr} {n : Nat} {xs : List S37} (h : Kd.C k37 w A n xs) (i : Int) (h0 : 0 ≤ i) (h1 : i < n) : ∃ ad A7 c7, A = some ad ∧ w.cell? (ad.add (i.toNat * 10)) = some (.int .i64 (rd_T37 xs i).f0) ∧ w.cell? ⟨(ad.add (i.toNat * 10)).block, (ad.add (i.toNat * 10)).off + 1, none⟩ = some (.int .i64 (rd_T37 xs i).f1) ∧ w.cell? ⟨(ad.add (i.toNat * 10)).block, (ad.add (i.toNat * 10)).off + 2, none⟩ = some (.string (rd_T37 xs i).f2) ∧ w.cell? ⟨(ad.add (i.toNat * 10)).block, (ad.add (i.toNat * 10)).off + 3, none⟩ = some (.int .i64 (rd_T37 xs i).f3) ∧ w.cell? ⟨(ad.add (i.toNat * 10)).block, (ad.add (i.toNat * 10)).off + 4, none⟩ = some (.int .i64 (rd_T37 xs i).f4) ∧ w.cell? ⟨(ad.add (i.toNat * 10)).block, (ad.add (i.toNat * 10)).off + 5, none⟩ = some (.int .i64 (rd_T37 xs i).f5) ∧ w.cell? ⟨(ad.add (i.toNat * 10)).block, (ad.add (i.toNat * 10)).off + 6, none⟩ = some (.int .i64 (rd_T37 xs i).f6) ∧ w.cell? ⟨(ad.add (i.toNat * 10)).block, (ad.add (i.toNat * 10)).off + 7, none⟩ = some (.slice A7 (rd_T37 xs i).f7.length c7) ∧ w.cell? ⟨(ad.add (i.toNat * 10)).block, (ad.add (i.toNat * 10)).off + 8, none⟩ = some (.int .i64 (rd_T37 xs i).f8) ∧ w.cell? ⟨(ad.add (i.toNat * 10)).block, (ad.add (i.toNat * 10)).off + 9, none⟩ = some (.int .u32 (rd_T37 xs i).f9) ∧ (rd_T37 xs i).f7.length ≤ c7 ∧ (Kd.int .u32).C w A7 (rd_T37 xs i).f7.length (rd_T37 xs i).f7 := by
  obtain ⟨ad, c, e, _, hK, hc0⟩ := Kd.C_get h z37 i h0 h1
  have hc : ∀ j u, c[j]? = some u → w.cell? (ad.add (i.toNat * 10 + j)) = some u := hc0
  obtain ⟨A7, c7, rfl, l7, g7⟩ := k37_open hK
  exact ⟨ad, A7, c7, e, hc 0 _ rfl, by rw [← add_field _ _ 1 (by omega)]; exact hc 1 _ rfl, by rw [← add_field _ _ 2 (by omega)]; exact hc 2 _ rfl, by rw [← add_field _ _ 3 (by omega)]; exact hc 3 _ rfl, by rw [← add_field _ _ 4 (by omega)]; exact hc 4 _ rfl, by rw [← add_field _ _ 5 (by omega)]; exact hc 5 _ rfl, by rw [← add_field _ _ 6 (by omega)]; exact hc 6 _ rfl, by rw [← add_field _ _ 7 (by omega)]; exact hc 7 _ rfl, by rw [← add_field _ _ 8 (by omega)]; exact hc 8 _ rfl, by rw [← add_field _ _ 9 (by omega)]; exact hc 9 _ rfl, l7, g7⟩

/-! #### struct type 42 -/
structure S42 where
  f0 : Int
  f1 : Int
  f2 : ByteArray
  f3 : Int
  f4 : Int
  f5 : Int
  f6 : Int
  f7 : ByteArray
  f8 : Int
  f9 : Int
def z42 : S42 := ⟨(0 : Int), (0 : Int), (⟨#[]⟩ : ByteArray), (0 : Int), (0 : Int), (0 : Int), (0 : Int), (⟨#[]⟩ : ByteArray), (0 : Int), (0 : Int)⟩
def k42 : Kd S42 := Kd.iso (Kd.pair (Kd.int .i64) (Kd.pair (Kd.int .i64) (Kd.pair Kd.string (Kd.pair (Kd.int .i64) (Kd.pair (Kd.int .i64) (Kd.pair (Kd.int .i64) (Kd.pair (Kd.int .i64) (Kd.pair Kd.string (Kd.pair (Kd.int .i64) (Kd.int .u32)))))))))) (fun x : S42 => (x.f0, x.f1, x.f2, x.f3, x.f4, x.f5, x.f6, x.f7, x.f8, x.f9))
theorem k42_open {w : World} {x : S42} {cs : List Value} (h : k42.K w x cs) : cs = [.int .i64 x.f0, .int .i64 x.f1, .string x.f2, .int .i64 x.f3, .int .i64 x.f4, .int .i64 x.f5, .int .i64 x.f6, .string x.f7, .int .i64 x.f8, .int .u32 x.f9] := by
  obtain ⟨_, _, rfl, rfl, ⟨_, _, rfl, rfl, ⟨_, _, rfl, rfl, ⟨_, _, rfl, rfl, ⟨_, _, rfl, rfl, ⟨_, _, rfl, rfl, ⟨_, _, rfl, rfl, ⟨_, _, rfl, rfl, ⟨_, _, rfl, rfl, rfl⟩⟩⟩⟩⟩⟩⟩⟩⟩ := h
  exact rfl
theorem k42_openM {w : World} {base : Nat} {ok : Nat → Prop} {x : S42} {cs : List Value} (h : k42.M w base ok x cs) : cs = [.int .i64 x.f0, .int .i64 x.f1, .string x.f2, .int .i64 x.f3, .int .i64 x.f4, .int .i64 x.f5, .int .i64 x.f6, .string x.f7, .int .i64 x.f8, .int .u32 x.f9] := by
  obtain ⟨_, _, rfl, rfl, ⟨_, _, rfl, rfl, ⟨_, _, rfl, rfl, ⟨_, _, rfl, rfl, ⟨_, _, rfl, rfl, ⟨_, _, rfl, rfl, ⟨_, _, rfl, rfl, ⟨_, _, rfl, rfl, ⟨_, _, rfl, rfl, rfl⟩⟩⟩⟩⟩⟩⟩⟩⟩ := h
  exact rfl
theorem k42_mk (w : World) (x : S42)  : k42.K w x [.int .i64 x.f0, .int .i64 x.f1, .string x.f2, .int .i64 x.f3, .int .i64 x.f4, .int .i64 x.f5, .int .i64 x.f6, .string x.f7, .int .i64 x.f8, .int .u32 x.f9] := ⟨[.int .i64 x.f0], [.int .i64 x.f1, .string x.f2, .int .i64 x.f3, .int .i64 x.f4, .int .i64 x.f5, .int .i64 x.f6, .string x.f7, .int .i64 x.f8, .int .u32 x.f9], rfl, rfl, ⟨[.int .i64 x.f1], [.string x.f2, .int .i64 x.f3, .int .i64 x.f4, .int .i64 x.f5, .int .i64 x.f6, .string x.f7, .int .i64 x.f8, .int .u32 x.f9], rfl, rfl, ⟨[.string x.f2], [.int .i64 x.f3, .int .i64 x.f4, .int .i64 x.f5, .int .i64 x.f6, .string x.f7, .int .i64 x.f8, .int .u32 x.f9], rfl, rfl, ⟨[.int .i64 x.f3], [.int .i64 x.f4, .int .i64 x.f5, .int .i64 x.f6, .string x.f7, .int .i64 x.f8, .int .u32 x.f9], rfl, rfl, ⟨[.int .i64 x.f4], [.int .i64 x.f5, .int .i64 x.f6, .string x.f7, .int .i64 x.f8, .int .u32 x.f9], rfl, rfl, ⟨[.int .i64 x.f5], [.int .i64 x.f6, .string x.f7, .int .i64 x.f8, .int .u32 x.f9], rfl, rfl, ⟨[.int .i64 x.f6], [.string x.f7, .int .i64 x.f8, .int .u32 x.f9], rfl, rfl, ⟨[.string x.f7], [.int .i64 x.f8, .int .u32 x.f9], rfl, rfl, ⟨[.int .i64 x.f8], [.int .u32 x.f9], rfl, rfl, rfl⟩⟩⟩⟩⟩⟩⟩⟩⟩
theorem k42_mkM (w : World) (base : Nat) (ok : Nat → Prop) (x : S42)  : k42.M w base ok x [.int .i64 x.f0, .int .i64 x.f1, .string x.f2, .int .i64 x.f3, .int .i64 x.f4, .int .i64 x.f5, .int .i64 x.f6, .string x.f7, .int .i64 x.f8, .int .u32 x.f9] := ⟨[.int .i64 x.f0], [.int .i64 x.f1, .string x.f2, .int .i64 x.f3, .int .i64 x.f4, .int .i64 x.f5, .int .i64 x.f6, .string x.f7, .int .i64 x.f8, .int .u32 x.f9], rfl, rfl, ⟨[.int .i64 x.f1], [.string x.f2, .int .i64 x.f3, .int .i64 x.f4, .int .i64 x.f5, .int .i64 x.f6, .string x.f7, .int .i64 x.f8, .int .u32 x.f9], rfl, rfl, ⟨[.string x.f2], [.int .i64 x.f3, .int .i64 x.f4, .int .i64 x.f5, .int .i64 x.f6, .string x.f7, .int .i64 x.f8, .int .u32 x.f9], rfl, rfl, ⟨[.int .i64 x.f3], [.int .i64 x.f4, .int .i64 x.f5, .int .i64 x.f6, .string x.f7, .int .i64 x.f8, .int .u32 x.f9], rfl, rfl, ⟨[.int .i64 x.f4], [.int .i64 x.f5, .int .i64 x.f6, .string x.f7, .int .i64 x.f8, .int .u32 x.f9], rfl, rfl, ⟨[.int .i64 x.f5], [.int .i64 x.f6, .string x.f7, .int .i64 x.f8, .int .u32 x.f9], rfl, rfl, ⟨[.int .i64 x.f6], [.string x.f7, .int .i64 x.f8, .int .u32 x.f9], rfl, rfl, ⟨[.string x.f7], [.int .i64 x.f8, .int .u32 x.f9], rfl, rfl, ⟨[.int .i64 x.f8], [.int .u32 x.f9], rfl, rfl, rfl⟩⟩⟩⟩⟩⟩⟩⟩⟩
def rd_T42 (xs : List S42) (i : Int) : S42 := xs.getD i.toNat z42
theorem at_T42 {w : World} {A : Option Addr} {n : Nat} {xs : List S42} (h : Kd.C k42 w A n xs) (i : Int) (h0 : 0 ≤ i) (h1 : i < n) : ∃ ad , A = some ad ∧ w.cell? (ad.add (i.toNat * 10)) = some (.int .i64 (rd_T42 xs i).f0) ∧ w.cell? ⟨(ad.add (i.toNat * 10)).block, (ad.add (i.toNat * 10)).off + 1, none⟩ = some (.int .i64 (rd_T42 xs i).f1) ∧ w.cell? ⟨(ad.add (i.toNat * 10)).block, (ad.add (i.toNat * 10)).off + 2, none⟩ = some (.string (rd_T42 xs i).f2) ∧ w.cell? ⟨(ad.add (i.toNat * 10)).block, (ad.add (i.toNat * 10)).off + 3, none⟩ = some (.int .i64 (rd_T42 xs i).f3) ∧ w.cell? ⟨(ad.add (i.toNat * 10)).block, (ad.add (i.toNat * 10)).off + 4, none⟩ = some (.int .i64 (rd_T42 xs i).f4) ∧ w.cell? ⟨(ad.add (i.toNat * 10)).block, (ad.add (i.toNat * 10)).off + 5, none⟩ = some (.int .i64 (rd_T42 xs i).f5) ∧ w.cell? ⟨(ad.add (i.toNat * 10)).block, (ad.add (i.toNat * 10)).off + 6, none⟩ = some (.int .i64 (rd_T42 xs i).f6) ∧ w.cell? ⟨(ad.add (i.toNat * 10)).block, (ad.add (i.toNat * 10)).off + 7, none⟩ = some (.string (rd_T42 xs i).f7) ∧ w.cell? ⟨(ad.add (i.toNat * 10)).block, (ad.add (i.toNat * 10)).off + 8, none⟩ = some (.int .i64 (rd_T42 xs i).f8) ∧ w.cell? ⟨(ad.add (i.toNat * 10)).block, (ad.add (i.toNat * 10)).off + 9, none⟩ = some (.int .u32 (rd_T42 xs i).f9) := by
  obtain ⟨ad, c, e, _, hK, hc0⟩ := Kd.C_get h z42 i h0 h1
  have hc : ∀ j u, c[j]? = some u → w.cell? (ad.add (i.toNat * 10 + j)) = some u := hc0
  obtain rfl := k42_open hK
  exact ⟨ad, e, hc 0 _ rfl, by rw [← add_field _ _ 1 (by omega)]; exact hc 1 _ rfl, by rw [← add_field _ _ 2 (by omega)]; exact hc 2 _ rfl, by rw [← add_field _ _ 3 (by omega)]; exact hc 3 _ rfl, by rw [← add_field _ _ 4 (by omega)]; exact hc 4 _ rfl, by rw [← add_field _ _ 5 (by omega)]; exact hc 5 _ rfl, by rw [← add_field _ _ 6 (by omega)]; exact hc 6 _ rfl, by rw [← add_field _ _ 7 (by omega)]; exact hc 7 _ rfl, by rw [← add_field _ _ 8 (by omega)]; exact hc 8 _ rfl, by rw [← add_field _ _ 9 (by omega)]; exact hc 9 _ rfl⟩

end Go.Proofs.YtjoncjnmhhimhaaDoor.PLF
end

section
/- A function without a drawn order, run by the kernel: what its code comes to is a plain equation. -/
namespace Go.Proofs.YtjoncjnmhhimhaaDoor.Hand
set_option linter.unusedVariables false
set_option linter.unusedSimpArgs false
open Go.RowKit Go.Proofs.YtjoncjnmhhimhaaDoorW.PrintWords Go.Proofs.YtjoncjnmhhimhaaDoorW.PrintLast Go.Proofs.YtjoncjnmhhimhaaDoorW.PrintMore

def runOps (P : Program) (ops : Array Oper) : List Nat → Act → World → Option (Act × World)
  | [], a, w => some (a, w)
  | i :: rest, a, w =>
    match ops[i]? with
    | none => runOps P ops rest a w
    | some o =>
      if Region.wanted o (yielded ops a.tmps) = true then
        match (execOp a.eval o).run P w with
        | .ok (.value v) w' => runOps P ops rest (a.put o.dst v) w'
        | .ok .skip w' => runOps P ops rest (a.put o.dst undef) w'
        | _ => none
      else runOps P ops rest (a.put o.dst undef) w
theorem wpOps_of_run {P : Program} {ops : Array Oper} {Q : Exit → Act → World → Prop} : ∀ (l : List Nat) (a : Act) (w : World) (a' : Act) (w' : World), runOps P ops l a w = some (a', w') → Q .normal a' w' → wpOps P ops Q l a w := by
  intro l
  induction l with
  | nil =>
    intro a w a' w' h hq
    simp only [runOps, Option.some.injEq, Prod.mk.injEq] at h
    obtain ⟨rfl, rfl⟩ := h
    exact hq
  | cons i rest ih =>
    intro a w a' w' h hq
    simp only [runOps] at h
    simp only [wpOps]
    cases ho : ops[i]? with
    | none =>
      simp only [ho] at h
      exact ih _ _ _ _ h hq
    | some o =>
      simp only [ho] at h
      by_cases hw : Region.wanted o (yielded ops a.tmps) = true
      · simp only [hw, if_true] at h ⊢
        refine .inl ?_
        unfold Oper.wp
        cases hr : (execOp a.eval o).run P w with
        | ok x w1 =>
          rw [hr] at h
          cases x with
          | value v => exact ih _ _ _ _ h hq
          | skip => exact ih _ _ _ _ h hq
          | _ => cases h
        | halt x w1 =>
          rw [hr] at h
          cases h
      · simp only [hw, if_false, Bool.false_eq_true] at h ⊢
        exact ih _ _ _ _ h hq

def runCode (P : Program) : Nat → Code → Act → World → Option (Exit × Act × World)
  | 0, _, _, _ => none
  | n + 1, c, a, w =>
    match c with
    | .skip => some (.normal, a, w)
    | .region _ ops false => (runOps P ops (List.range ops.size) a w).map fun r => (.normal, r.1, r.2)
    | .seq x y =>
      match runCode P n x a w with
      | some (.normal, a1, w1) => runCode P n y a1 w1
      | some (.ret, a1, w1) => some (.ret, a1, w1)
      | _ => none
    | .cond e x y =>
      match a.eval e with
      | .bool true => runCode P n x a w
      | .bool false => runCode P n y a w
      | _ => none
    | .ret => some (.ret, a, w)
    | _ => none
theorem wp_of_runCode {P : Program} : ∀ (n : Nat) (c : Code) (Q : Exit → Act → World → Prop) (a : Act) (w : World) (e : Exit) (a' : Act) (w' : World), runCode P n c a w = some (e, a', w') → Q e a' w' → c.wp P Q a w := by
  intro n
  induction n with
  | zero =>
    intro c Q a w e a' w' h
    cases h
  | succ n ih =>
    intro c Q a w e a' w' h hq
    cases c with
    | skip =>
      simp only [runCode, Option.some.injEq, Prod.mk.injEq] at h
      obtain ⟨rfl, rfl, rfl⟩ := h
      exact wp_skip hq
    | ret =>
      simp only [runCode, Option.some.injEq, Prod.mk.injEq] at h
      obtain ⟨rfl, rfl, rfl⟩ := h
      exact wp_ret hq
    | region id ops draw =>
      cases draw with
      | true => simp [runCode] at h
      | false =>
        simp only [runCode, Option.map_eq_some_iff] at h
        obtain ⟨⟨a1, w1⟩, h1, h2⟩ := h
        simp only [Prod.mk.injEq] at h2
        obtain ⟨rfl, rfl, rfl⟩ := h2
        exact wp_region (wpOps_of_run _ _ _ _ _ h1 hq)
    | seq x y =>
      simp only [runCode] at h
      cases hx : runCode P n x a w with
      | none => simp [hx] at h
      | some r =>
        obtain ⟨e1, a1, w1⟩ := r
        cases e1 with
        | normal =>
          simp only [hx] at h
          exact wp_seq (ih x _ a w _ _ _ hx (ih y Q a1 w1 _ _ _ h hq))
        | ret =>
          simp only [hx, Option.some.injEq, Prod.mk.injEq] at h
          obtain ⟨rfl, rfl, rfl⟩ := h
          exact wp_seq (ih x _ a w _ _ _ hx hq)
        | _ => simp [hx] at h
    | cond t x y =>
      simp only [runCode] at h
      cases ht : a.eval t with
      | bool b =>
        cases b with
        | true =>
          simp only [ht] at h
          exact wp_cond_true ht (ih x Q a w _ _ _ h hq)
        | false =>
          simp only [ht] at h
          exact wp_cond_false ht (ih y Q a w _ _ _ h hq)
      | _ => simp [ht] at h
    | _ => simp [runCode] at h

/-- What the kernel finds: the value that is returned, the world behind, and that world once more behind the reading of the results. -/
def runFn (P : Program) (n : Nat) (fn : Func) (args : Array Value) (w : World) : Option (Value × World × World) :=
  match fn.body with
  | none => none
  | some c =>
    match runCode P n c { tmps := args ++ Array.replicate (fn.ntmps - args.size) undef, defers := [] } w with
    | some (.ret, a, w1) =>
      match a.defers with
      | [] =>
        match (results fn a.tmps).run P w1 with
        | .ok v w2 => some (v, w1, w2)
        | _ => none
      | _ => none
    | _ => none
theorem calls_of_runFn {P : Program} {f : FuncId} {fn : Func} (hf : P.funcs[f]? = some fn) (n : Nat) {args : Array Value} {w w' : World} {v : Value} (h : runFn P n fn args w = some (v, w', w')) :
    Calls P f args w fun e w2 => e = .returned v ∧ w2 = w' := by
  unfold runFn at h
  cases hb : fn.body with
  | none => simp [hb] at h
  | some c =>
    simp only [hb] at h
    cases hr : runCode P n c { tmps := args ++ Array.replicate (fn.ntmps - args.size) undef, defers := [] } w with
    | none => simp [hr] at h
    | some r =>
      obtain ⟨e, a, w1⟩ := r
      cases e with
      | ret =>
        simp only [hr] at h
        cases hd : a.defers with
        | cons _ _ => simp [hd] at h
        | nil =>
          simp only [hd] at h
          cases hres : (results fn a.tmps).run P w1 with
          | halt x w2 => simp [hres] at h
          | ok v2 w2 =>
            simp only [hres, Option.some.injEq, Prod.mk.injEq] at h
            obtain ⟨rfl, rfl, rfl⟩ := h
            exact calls_of_wp hf hb (wp_of_runCode n c _ _ _ _ _ _ hr ⟨hd, _, hres, rfl, rfl⟩)
      | _ => simp [hr] at h

theorem reps_flat {α : Type} {R : α → List Value → Prop} {size : Nat} (enc : α → List Value) (h : ∀ x, R x (enc x)) (hl : ∀ x, (enc x).length = size) (xs : List α) : Reps R size xs (xs.flatMap enc) := by
  suffices key : ∀ (ys done : List α), Reps R size done (done.flatMap enc) → Reps R size (done ++ ys) ((done ++ ys).flatMap enc) by
    exact key xs [] (Reps.none R size)
  intro ys
  induction ys with
  | nil =>
    intro done hd
    rw [List.append_nil]
    exact hd
  | cons y ys ih =>
    intro done hd
    have h1 := hd.snoc (h y) (hl y)
    have e1 : (done ++ [y]).flatMap enc = done.flatMap enc ++ enc y := by simp
    have e2 : done ++ y :: ys = (done ++ [y]) ++ ys := by simp
    rw [e2]
    exact ih (done ++ [y]) (by rw [e1]; exact h1)
/-- A literal of the call's own: a row of elements whose cells hold no rows. -/
theorem R_lit_any {α : Type} (d : Kd α) (e : Nat) (enc : α → List Value) (hM : ∀ (w : World) base ok x, d.M w base ok x (enc x)) (W : World) (xs : List α) (hm : xs.length ≤ 9223372036854775807) :
    d.R e (W.alloc (.cells (xs.flatMap enc).toArray e)) W.heap.size (fun _ => True) (.slice (some ⟨W.heap.size, 0, none⟩) xs.length xs.length) xs := by
  have hl : ∀ x, (enc x).length = d.sz := fun x => d.K_len (d.K_of_M (hM W 0 (fun _ => True) x))
  refine ⟨fun _ _ => trivial, xs.flatMap enc, ?_, reps_flat enc (fun x => hM _ _ _ x) hl xs⟩
  have h := World.ownsRow_lit (base := W.heap.size) (e := e) (size := d.sz) W (xs.flatMap enc).toArray xs.length (Nat.le_refl _) (by simpa [maxLen] using hm) (by
    rw [List.size_toArray]
    exact (reps_flat (R := fun _ _ => True) enc (fun _ => trivial) hl xs).1)
  simpa using h
/-- Ten stores into another block. -/
theorem R_far10 {α : Type} {d : Kd α} {e : Nat} {w : World} {base : Nat} {ok : Nat → Prop} {v : Value} {xs : List α} (g : Nat) (h : d.R e w base ok v xs) (hok : ∀ k, ok k → k ≠ g) (u0 u1 u2 u3 u4 u5 u6 u7 u8 u9 : Value) :
    d.R e ((((((((((w.setCell ⟨g, 0, none⟩ u0).setCell ⟨g, 1, none⟩ u1).setCell ⟨g, 2, none⟩ u2).setCell ⟨g, 3, none⟩ u3).setCell ⟨g, 4, none⟩ u4).setCell ⟨g, 5, none⟩ u5).setCell ⟨g, 6, none⟩ u6).setCell ⟨g, 7, none⟩ u7).setCell ⟨g, 8, none⟩ u8).setCell ⟨g, 9, none⟩ u9) base ok v xs := Kd.R_far (p := ⟨g, 9, none⟩) (Kd.R_far (p := ⟨g, 8, none⟩) (Kd.R_far (p := ⟨g, 7, none⟩) (Kd.R_far (p := ⟨g, 6, none⟩) (Kd.R_far (p := ⟨g, 5, none⟩) (Kd.R_far (p := ⟨g, 4, none⟩) (Kd.R_far (p := ⟨g, 3, none⟩) (Kd.R_far (p := ⟨g, 2, none⟩) (Kd.R_far (p := ⟨g, 1, none⟩) (Kd.R_far (p := ⟨g, 0, none⟩) h hok u0) hok u1) hok u2) hok u3) hok u4) hok u5) hok u6) hok u7) hok u8) hok u9
/-- Ten stores into a block: the block's cells; every other block; what is below. -/
theorem store10 (w : World) (g t : Nat) (o0 o1 o2 o3 o4 o5 o6 o7 o8 o9 u0 u1 u2 u3 u4 u5 u6 u7 u8 u9 : Value) (h : w.heap[g]? = some (.cells #[o0, o1, o2, o3, o4, o5, o6, o7, o8, o9] t (0, 0))) :
    ((((((((((w.setCell ⟨g, 0, none⟩ u0).setCell ⟨g, 1, none⟩ u1).setCell ⟨g, 2, none⟩ u2).setCell ⟨g, 3, none⟩ u3).setCell ⟨g, 4, none⟩ u4).setCell ⟨g, 5, none⟩ u5).setCell ⟨g, 6, none⟩ u6).setCell ⟨g, 7, none⟩ u7).setCell ⟨g, 8, none⟩ u8).setCell ⟨g, 9, none⟩ u9).heap[g]? = some (.cells #[u0, u1, u2, u3, u4, u5, u6, u7, u8, u9] t (0, 0)) ∧ (∀ k, k ≠ g → ((((((((((w.setCell ⟨g, 0, none⟩ u0).setCell ⟨g, 1, none⟩ u1).setCell ⟨g, 2, none⟩ u2).setCell ⟨g, 3, none⟩ u3).setCell ⟨g, 4, none⟩ u4).setCell ⟨g, 5, none⟩ u5).setCell ⟨g, 6, none⟩ u6).setCell ⟨g, 7, none⟩ u7).setCell ⟨g, 8, none⟩ u8).setCell ⟨g, 9, none⟩ u9).heap[k]? = w.heap[k]?) ∧ (∀ w0 : World, Below w0.heap.size w0 w → w0.heap.size ≤ g → Below w0.heap.size w0 ((((((((((w.setCell ⟨g, 0, none⟩ u0).setCell ⟨g, 1, none⟩ u1).setCell ⟨g, 2, none⟩ u2).setCell ⟨g, 3, none⟩ u3).setCell ⟨g, 4, none⟩ u4).setCell ⟨g, 5, none⟩ u5).setCell ⟨g, 6, none⟩ u6).setCell ⟨g, 7, none⟩ u7).setCell ⟨g, 8, none⟩ u8).setCell ⟨g, 9, none⟩ u9)) :=
  ⟨(blk_put (cs' := #[u0, u1, u2, u3, u4, u5, u6, u7, u8, u9]) (blk_put (cs' := #[u0, u1, u2, u3, u4, u5, u6, u7, u8, o9]) (blk_put (cs' := #[u0, u1, u2, u3, u4, u5, u6, u7, o8, o9]) (blk_put (cs' := #[u0, u1, u2, u3, u4, u5, u6, o7, o8, o9]) (blk_put (cs' := #[u0, u1, u2, u3, u4, u5, o6, o7, o8, o9]) (blk_put (cs' := #[u0, u1, u2, u3, u4, o5, o6, o7, o8, o9]) (blk_put (cs' := #[u0, u1, u2, u3, o4, o5, o6, o7, o8, o9]) (blk_put (cs' := #[u0, u1, u2, o3, o4, o5, o6, o7, o8, o9]) (blk_put (cs' := #[u0, u1, o2, o3, o4, o5, o6, o7, o8, o9]) (blk_put (cs' := #[u0, o1, o2, o3, o4, o5, o6, o7, o8, o9]) h 0 u0 rfl) 1 u1 rfl) 2 u2 rfl) 3 u3 rfl) 4 u4 rfl) 5 u5 rfl) 6 u6 rfl) 7 u7 rfl) 8 u8 rfl) 9 u9 rfl), fun k hk => ((Below.heap_setCell (((((((((w.setCell ⟨g, 0, none⟩ u0).setCell ⟨g, 1, none⟩ u1).setCell ⟨g, 2, none⟩ u2).setCell ⟨g, 3, none⟩ u3).setCell ⟨g, 4, none⟩ u4).setCell ⟨g, 5, none⟩ u5).setCell ⟨g, 6, none⟩ u6).setCell ⟨g, 7, none⟩ u7).setCell ⟨g, 8, none⟩ u8) ⟨g, 9, none⟩ u9 k hk).trans ((Below.heap_setCell ((((((((w.setCell ⟨g, 0, none⟩ u0).setCell ⟨g, 1, none⟩ u1).setCell ⟨g, 2, none⟩ u2).setCell ⟨g, 3, none⟩ u3).setCell ⟨g, 4, none⟩ u4).setCell ⟨g, 5, none⟩ u5).setCell ⟨g, 6, none⟩ u6).setCell ⟨g, 7, none⟩ u7) ⟨g, 8, none⟩ u8 k hk).trans ((Below.heap_setCell (((((((w.setCell ⟨g, 0, none⟩ u0).setCell ⟨g, 1, none⟩ u1).setCell ⟨g, 2, none⟩ u2).setCell ⟨g, 3, none⟩ u3).setCell ⟨g, 4, none⟩ u4).setCell ⟨g, 5, none⟩ u5).setCell ⟨g, 6, none⟩ u6) ⟨g, 7, none⟩ u7 k hk).trans ((Below.heap_setCell ((((((w.setCell ⟨g, 0, none⟩ u0).setCell ⟨g, 1, none⟩ u1).setCell ⟨g, 2, none⟩ u2).setCell ⟨g, 3, none⟩ u3).setCell ⟨g, 4, none⟩ u4).setCell ⟨g, 5, none⟩ u5) ⟨g, 6, none⟩ u6 k hk).trans ((Below.heap_setCell (((((w.setCell ⟨g, 0, none⟩ u0).setCell ⟨g, 1, none⟩ u1).setCell ⟨g, 2, none⟩ u2).setCell ⟨g, 3, none⟩ u3).setCell ⟨g, 4, none⟩ u4) ⟨g, 5, none⟩ u5 k hk).trans ((Below.heap_setCell ((((w.setCell ⟨g, 0, none⟩ u0).setCell ⟨g, 1, none⟩ u1).setCell ⟨g, 2, none⟩ u2).setCell ⟨g, 3, none⟩ u3) ⟨g, 4, none⟩ u4 k hk).trans ((Below.heap_setCell (((w.setCell ⟨g, 0, none⟩ u0).setCell ⟨g, 1, none⟩ u1).setCell ⟨g, 2, none⟩ u2) ⟨g, 3, none⟩ u3 k hk).trans ((Below.heap_setCell ((w.setCell ⟨g, 0, none⟩ u0).setCell ⟨g, 1, none⟩ u1) ⟨g, 2, none⟩ u2 k hk).trans ((Below.heap_setCell (w.setCell ⟨g, 0, none⟩ u0) ⟨g, 1, none⟩ u1 k hk).trans (Below.heap_setCell w ⟨g, 0, none⟩ u0 k hk)))))))))), fun w0 hb hg => (below_set (below_set (below_set (below_set (below_set (below_set (below_set (below_set (below_set (below_set hb hg) hg) hg) hg) hg) hg) hg) hg) hg) hg)⟩
end Go.Proofs.YtjoncjnmhhimhaaDoor.Hand
end

section
-- Written by the kit's print.py, driven by this place's wip/tools/myprint.py. Not trusted: Lean checks it.
namespace Go.Proofs.YtjoncjnmhhimhaaDoor.PLF
open Go.RowKit Go.Proofs.YtjoncjnmhhimhaaDoor.Hand Go.Proofs.YtjoncjnmhhimhaaDoor.PT13s Go.Proofs.YtjoncjnmhhimhaaDoorW.PrintWords Go.Proofs.YtjoncjnmhhimhaaDoorW.PrintLast Go.Proofs.YtjoncjnmhhimhaaDoorW.PrintMore
attribute [local go_sem] max2_int min2_int max_two min_two max_three min_three max_four min_four   -- for this text's walks alone
set_option linter.unusedVariables false
set_option linter.unusedSimpArgs false

-- BY CONTRACT: function 24 (pyxlaw13_awake)

-- BY CONTRACT: function 26 (pyxlaw13_same)

/-! ### pyxref13_Table: function 28 -/
def pyxref13_Table.f  : Option ((List (S42))) := if 19 + 3 ≤ 9223372036854775807 then (if 19 + 4 ≤ 9223372036854775807 then (some (([(⟨1, 1, (⟨#[77, 76, 45, 75, 69, 77, 45, 53, 49, 50]⟩ : ByteArray), 800, 1632, 64, 0, (⟨#[50, 46, 49, 54, 46, 56, 52, 48, 46, 49, 46, 49, 48, 49, 46, 51, 46, 52, 46]⟩ : ByteArray) ++ (⟨#[52, 46, 49]⟩ : ByteArray), (-111), 0⟩ : S42), (⟨2, 1, (⟨#[77, 76, 45, 75, 69, 77, 45, 55, 54, 56]⟩ : ByteArray), 1184, 2400, 64, 0, (⟨#[50, 46, 49, 54, 46, 56, 52, 48, 46, 49, 46, 49, 48, 49, 46, 51, 46, 52, 46]⟩ : ByteArray) ++ (⟨#[52, 46, 50]⟩ : ByteArray), (-112), 0⟩ : S42), (⟨3, 1, (⟨#[77, 76, 45, 75, 69, 77, 45, 49, 48, 50, 52]⟩ : ByteArray), 1568, 3168, 64, 0, (⟨#[50, 46, 49, 54, 46, 56, 52, 48, 46, 49, 46, 49, 48, 49, 46, 51, 46, 52, 46]⟩ : ByteArray) ++ (⟨#[52, 46, 51]⟩ : ByteArray), (-113), 0⟩ : S42), (⟨4, 2, (⟨#[77, 76, 45, 68, 83, 65, 45, 52, 52]⟩ : ByteArray), 1312, 2560, 32, 2420, (⟨#[50, 46, 49, 54, 46, 56, 52, 48, 46, 49, 46, 49, 48, 49, 46, 51, 46, 52, 46]⟩ : ByteArray) ++ (⟨#[51, 46, 49, 55]⟩ : ByteArray), (-48), 0⟩ : S42), (⟨5, 2, (⟨#[77, 76, 45, 68, 83, 65, 45, 54, 53]⟩ : ByteArray), 1952, 4032, 32, 3309, (⟨#[50, 46, 49, 54, 46, 56, 52, 48, 46, 49, 46, 49, 48, 49, 46, 51, 46, 52, 46]⟩ : ByteArray) ++ (⟨#[51, 46, 49, 56]⟩ : ByteArray), (-49), 0⟩ : S42), (⟨6, 2, (⟨#[77, 76, 45, 68, 83, 65, 45, 56, 55]⟩ : ByteArray), 2592, 4896, 32, 4627, (⟨#[50, 46, 49, 54, 46, 56, 52, 48, 46, 49, 46, 49, 48, 49, 46, 51, 46, 52, 46]⟩ : ByteArray) ++ (⟨#[51, 46, 49, 57]⟩ : ByteArray), (-50), 0⟩ : S42), (⟨7, 3, (⟨#[83, 76, 72, 45, 68, 83, 65, 45, 83, 72, 65, 50, 45, 49, 50, 56, 115]⟩ : ByteArray), 32, 64, 0, 7856, (⟨#[50, 46, 49, 54, 46, 56, 52, 48, 46, 49, 46, 49, 48, 49, 46, 51, 46, 52, 46]⟩ : ByteArray) ++ (⟨#[51, 46, 50, 48]⟩ : ByteArray), (-51), 0⟩ : S42), (⟨8, 3, (⟨#[83, 76, 72, 45, 68, 83, 65, 45, 83, 72, 65, 50, 45, 49, 50, 56, 102]⟩ : ByteArray), 32, 64, 0, 17088, (⟨#[50, 46, 49, 54, 46, 56, 52, 48, 46, 49, 46, 49, 48, 49, 46, 51, 46, 52, 46]⟩ : ByteArray) ++ (⟨#[51, 46, 50, 49]⟩ : ByteArray), (-52), 0⟩ : S42), (⟨9, 3, (⟨#[83, 76, 72, 45, 68, 83, 65, 45, 83, 72, 65, 50, 45, 49, 57, 50, 115]⟩ : ByteArray), 48, 96, 0, 16224, (⟨#[50, 46, 49, 54, 46, 56, 52, 48, 46, 49, 46, 49, 48, 49, 46, 51, 46, 52, 46]⟩ : ByteArray) ++ (⟨#[51, 46, 50, 50]⟩ : ByteArray), (-53), 0⟩ : S42), (⟨10, 3, (⟨#[83, 76, 72, 45, 68, 83, 65, 45, 83, 72, 65, 50, 45, 49, 57, 50, 102]⟩ : ByteArray), 48, 96, 0, 35664, (⟨#[50, 46, 49, 54, 46, 56, 52, 48, 46, 49, 46, 49, 48, 49, 46, 51, 46, 52, 46]⟩ : ByteArray) ++ (⟨#[51, 46, 50, 51]⟩ : ByteArray), (-54), 0⟩ : S42), (⟨11, 3, (⟨#[83, 76, 72, 45, 68, 83, 65, 45, 83, 72, 65, 50, 45, 50, 53, 54, 115]⟩ : ByteArray), 64, 128, 0, 29792, (⟨#[50, 46, 49, 54, 46, 56, 52, 48, 46, 49, 46, 49, 48, 49, 46, 51, 46, 52, 46]⟩ : ByteArray) ++ (⟨#[51, 46, 50, 52]⟩ : ByteArray), (-55), 0⟩ : S42), (⟨12, 3, (⟨#[83, 76, 72, 45, 68, 83, 65, 45, 83, 72, 65, 50, 45, 50, 53, 54, 102]⟩ : ByteArray), 64, 128, 0, 49856, (⟨#[50, 46, 49, 54, 46, 56, 52, 48, 46, 49, 46, 49, 48, 49, 46, 51, 46, 52, 46]⟩ : ByteArray) ++ (⟨#[51, 46, 50, 53]⟩ : ByteArray), (-56), 0⟩ : S42), (⟨13, 3, (⟨#[83, 76, 72, 45, 68, 83, 65, 45, 83, 72, 65, 75, 69, 45, 49, 50, 56, 115]⟩ : ByteArray), 32, 64, 0, 7856, (⟨#[50, 46, 49, 54, 46, 56, 52, 48, 46, 49, 46, 49, 48, 49, 46, 51, 46, 52, 46]⟩ : ByteArray) ++ (⟨#[51, 46, 50, 54]⟩ : ByteArray), (-57), 0⟩ : S42), (⟨14, 3, (⟨#[83, 76, 72, 45, 68, 83, 65, 45, 83, 72, 65, 75, 69, 45, 49, 50, 56, 102]⟩ : ByteArray), 32, 64, 0, 17088, (⟨#[50, 46, 49, 54, 46, 56, 52, 48, 46, 49, 46, 49, 48, 49, 46, 51, 46, 52, 46]⟩ : ByteArray) ++ (⟨#[51, 46, 50, 55]⟩ : ByteArray), (-58), 0⟩ : S42), (⟨15, 3, (⟨#[83, 76, 72, 45, 68, 83, 65, 45, 83, 72, 65, 75, 69, 45, 49, 57, 50, 115]⟩ : ByteArray), 48, 96, 0, 16224, (⟨#[50, 46, 49, 54, 46, 56, 52, 48, 46, 49, 46, 49, 48, 49, 46, 51, 46, 52, 46]⟩ : ByteArray) ++ (⟨#[51, 46, 50, 56]⟩ : ByteArray), (-59), 0⟩ : S42), (⟨16, 3, (⟨#[83, 76, 72, 45, 68, 83, 65, 45, 83, 72, 65, 75, 69, 45, 49, 57, 50, 102]⟩ : ByteArray), 48, 96, 0, 35664, (⟨#[50, 46, 49, 54, 46, 56, 52, 48, 46, 49, 46, 49, 48, 49, 46, 51, 46, 52, 46]⟩ : ByteArray) ++ (⟨#[51, 46, 50, 57]⟩ : ByteArray), (-60), 0⟩ : S42), (⟨17, 3, (⟨#[83, 76, 72, 45, 68, 83, 65, 45, 83, 72, 65, 75, 69, 45, 50, 53, 54, 115]⟩ : ByteArray), 64, 128, 0, 29792, (⟨#[50, 46, 49, 54, 46, 56, 52, 48, 46, 49, 46, 49, 48, 49, 46, 51, 46, 52, 46]⟩ : ByteArray) ++ (⟨#[51, 46, 51, 48]⟩ : ByteArray), (-61), 0⟩ : S42), (⟨18, 3, (⟨#[83, 76, 72, 45, 68, 83, 65, 45, 83, 72, 65, 75, 69, 45, 50, 53, 54, 102]⟩ : ByteArray), 64, 128, 0, 49856, (⟨#[50, 46, 49, 54, 46, 56, 52, 48, 46, 49, 46, 49, 48, 49, 46, 51, 46, 52, 46]⟩ : ByteArray) ++ (⟨#[51, 46, 51, 49]⟩ : ByteArray), (-62), 0⟩ : S42), (⟨19, 4, (⟨#[72, 83, 83, 47, 76, 77, 83]⟩ : ByteArray), 0, 0, 0, 0, (⟨#[49, 46, 50, 46, 56, 52, 48, 46, 49, 49, 51, 53, 52, 57, 46, 49, 46, 57, 46, 49, 54, 46, 51, 46, 49, 55]⟩ : ByteArray), 0, 0⟩ : S42), (⟨20, 5, (⟨#[88, 77, 83, 83, 45, 83, 72, 65, 50, 95, 49, 48, 95, 50, 53, 54]⟩ : ByteArray), 68, 0, 0, 2500, (⟨#[49, 46, 51, 46, 54, 46, 49, 46, 53, 46, 53, 46, 55, 46, 54, 46, 51, 52]⟩ : ByteArray), 0, 1⟩ : S42), (⟨21, 5, (⟨#[88, 77, 83, 83, 45, 83, 72, 65, 50, 95, 49, 54, 95, 50, 53, 54]⟩ : ByteArray), 68, 0, 0, 2692, (⟨#[49, 46, 51, 46, 54, 46, 49, 46, 53, 46, 53, 46, 55, 46, 54, 46, 51, 52]⟩ : ByteArray), 0, 2⟩ : S42), (⟨22, 5, (⟨#[88, 77, 83, 83, 45, 83, 72, 65, 50, 95, 50, 48, 95, 50, 53, 54]⟩ : ByteArray), 68, 0, 0, 2820, (⟨#[49, 46, 51, 46, 54, 46, 49, 46, 53, 46, 53, 46, 55, 46, 54, 46, 51, 52]⟩ : ByteArray), 0, 3⟩ : S42), (⟨23, 5, (⟨#[88, 77, 83, 83, 45, 83, 72, 65, 50, 95, 49, 48, 95, 53, 49, 50]⟩ : ByteArray), 132, 0, 0, 9092, (⟨#[49, 46, 51, 46, 54, 46, 49, 46, 53, 46, 53, 46, 55, 46, 54, 46, 51, 52]⟩ : ByteArray), 0, 4⟩ : S42), (⟨24, 5, (⟨#[88, 77, 83, 83, 45, 83, 72, 65, 50, 95, 49, 54, 95, 53, 49, 50]⟩ : ByteArray), 132, 0, 0, 9476, (⟨#[49, 46, 51, 46, 54, 46, 49, 46, 53, 46, 53, 46, 55, 46, 54, 46, 51, 52]⟩ : ByteArray), 0, 5⟩ : S42), (⟨25, 5, (⟨#[88, 77, 83, 83, 45, 83, 72, 65, 50, 95, 50, 48, 95, 53, 49, 50]⟩ : ByteArray), 132, 0, 0, 9732, (⟨#[49, 46, 51, 46, 54, 46, 49, 46, 53, 46, 53, 46, 55, 46, 54, 46, 51, 52]⟩ : ByteArray), 0, 6⟩ : S42)] : List (S42)))) else (none)) else (none)
set_option maxHeartbeats 8000000 in
set_option maxRecDepth 100000 in
theorem pyxref13_Table.calls  (r : List (S42)) (w : World) (h : pyxref13_Table.f  = some r) :
    Calls Tryd.prog 28 #[] w fun e w' => ∃ v0_ : Value, e = .returned (v0_) ∧ Kd.R k42 42 w' w.heap.size (fun _ => True) v0_ r ∧ Below w.heap.size w w' := by
  have hs : pyxref13_Table.f = some (pyxref13_Table.f.getD []) := by kernel_rfl
  obtain rfl := Option.some.inj (hs.symm.trans h)
  clear h hs
  have hrun : Hand.runFn Tryd.prog 10 Tryd.f28 #[] w = some (.slice (some ⟨w.heap.size, 0, none⟩) (pyxref13_Table.f.getD []).length (pyxref13_Table.f.getD []).length, w.alloc (.cells ((pyxref13_Table.f.getD []).flatMap fun x : S42 => [.int .i64 x.f0, .int .i64 x.f1, .string x.f2, .int .i64 x.f3, .int .i64 x.f4, .int .i64 x.f5, .int .i64 x.f6, .string x.f7, .int .i64 x.f8, .int .u32 x.f9]).toArray 42), w.alloc (.cells ((pyxref13_Table.f.getD []).flatMap fun x : S42 => [.int .i64 x.f0, .int .i64 x.f1, .string x.f2, .int .i64 x.f3, .int .i64 x.f4, .int .i64 x.f5, .int .i64 x.f6, .string x.f7, .int .i64 x.f8, .int .u32 x.f9]).toArray 42)) := by kernel_rfl
  refine (Hand.calls_of_runFn Tryd.func28 10 hrun).mono ?_
  rintro e w2 ⟨rfl, rfl⟩
  refine ⟨_, rfl, Hand.R_lit_any k42 42 _ (fun w base ok x => ⟨[_], _, rfl, rfl, ⟨[_], _, rfl, rfl, ⟨[_], _, rfl, rfl, ⟨[_], _, rfl, rfl, ⟨[_], _, rfl, rfl, ⟨[_], _, rfl, rfl, ⟨[_], _, rfl, rfl, ⟨[_], _, rfl, rfl, ⟨[_], _, rfl, rfl, rfl⟩⟩⟩⟩⟩⟩⟩⟩⟩) w _ (by rw [show (pyxref13_Table.f.getD []).length = 25 by kernel_rfl]; decide), below_alloc (Below.refl _ _) _⟩

-- BY CONTRACT: function 32 (params_ByName)

-- BY CONTRACT: function 33 (params_ByCOSE)

-- BY CONTRACT: function 34 (params_ByType)

end Go.Proofs.YtjoncjnmhhimhaaDoor.PLF
end

section
-- Written by the kit's print.py, driven by this place's wip/tools/myprint.py. Not trusted: Lean checks it.
namespace Go.Proofs.YtjoncjnmhhimhaaDoor.PParse
open Go.RowKit Go.Proofs.YtjoncjnmhhimhaaDoor.Hand Go.Proofs.YtjoncjnmhhimhaaDoorW.PrintWords Go.Proofs.YtjoncjnmhhimhaaDoorW.PrintLast Go.Proofs.YtjoncjnmhhimhaaDoorW.PrintMore
attribute [local go_sem] max2_int min2_int max_two min_two max_three min_three max_four min_four   -- for this text's walks alone
set_option linter.unusedVariables false
set_option linter.unusedSimpArgs false



def errW : Option Int → Value
  | none => .nilIface
  | some c => .iface 0 (.int .i64 c)
theorem errW_none : errW none = .nilIface := rfl
theorem errW_some (c : Int) : errW (some c) = .iface 0 (.int .i64 c) := rfl

theorem info27 : (Tryd.prog.info? 27).map (fun i => (i.zero, i.size, i.bytes)) = some (some (.int .u32 0), 1, 4) := by kernel_rfl
-- the values' own types
def rd_L1 (xs : List (List Int)) (i : Int) : (List Int) := xs.getD i.toNat ([] : List Int)
theorem at_L1 {w : World} {A : Option Addr} {n : Nat} {xs : List (List Int)} (h : Kd.C (Kd.slice 27 (Kd.int .u32)) w A n xs) (i : Int) (h0 : 0 ≤ i) (h1 : i < n) : ∃ ad A0 c0, A = some ad ∧ w.cell? (ad.add i.toNat) = some (.slice A0 (rd_L1 xs i).length c0) ∧ (rd_L1 xs i).length ≤ c0 ∧ (Kd.int .u32).C w A0 (rd_L1 xs i).length (rd_L1 xs i) := by
  obtain ⟨ad, c, e, _, hK, hc0⟩ := Kd.C_get h ([] : List Int) i h0 h1
  have hc : ∀ j u, c[j]? = some u → w.cell? (ad.add (i.toNat * 1 + j)) = some u := hc0
  obtain ⟨A0, c0, rfl, l0, g0⟩ := hK
  exact ⟨ad, A0, c0, e, by have hq := hc 0 _ rfl; rwa [Nat.mul_one, Nat.add_zero] at hq, l0, g0⟩

def rd_L4 (xs : List (List ByteArray)) (i : Int) : (List ByteArray) := xs.getD i.toNat ([] : List ByteArray)
theorem at_L4 {w : World} {A : Option Addr} {n : Nat} {xs : List (List ByteArray)} (h : Kd.C (Kd.slice 9 Kd.string) w A n xs) (i : Int) (h0 : 0 ≤ i) (h1 : i < n) : ∃ ad A0 c0, A = some ad ∧ w.cell? (ad.add i.toNat) = some (.slice A0 (rd_L4 xs i).length c0) ∧ (rd_L4 xs i).length ≤ c0 ∧ Kd.string.C w A0 (rd_L4 xs i).length (rd_L4 xs i) := by
  obtain ⟨ad, c, e, _, hK, hc0⟩ := Kd.C_get h ([] : List ByteArray) i h0 h1
  have hc : ∀ j u, c[j]? = some u → w.cell? (ad.add (i.toNat * 1 + j)) = some u := hc0
  obtain ⟨A0, c0, rfl, l0, g0⟩ := hK
  exact ⟨ad, A0, c0, e, by have hq := hc 0 _ rfl; rwa [Nat.mul_one, Nat.add_zero] at hq, l0, g0⟩

end Go.Proofs.YtjoncjnmhhimhaaDoor.PParse
namespace Go.Proofs.YtjoncjnmhhimhaaDoor.PParse
open Go.RowKit Go.Proofs.YtjoncjnmhhimhaaDoor.Hand Go.Proofs.YtjoncjnmhhimhaaDoorW.PrintWords Go.Proofs.YtjoncjnmhhimhaaDoorW.PrintLast Go.Proofs.YtjoncjnmhhimhaaDoorW.PrintMore
attribute [local go_sem] max2_int min2_int max_two min_two max_three min_three max_four min_four   -- for this text's walks alone
set_option linter.unusedVariables false
set_option linter.unusedSimpArgs false

-- BY CONTRACT: function 16 (oid_Text)

-- BY CONTRACT: function 36 (oid_Valid)

-- BY CONTRACT: function 37 (strings_Split)

-- BY CONTRACT: function 38 (strconv_ParseUint)

/-! ### oid_Parse: function 13 -/
def oid_Parse.l0 : Nat → ByteArray → List Int → List ByteArray → Int → Int → Option (List Int × Bool)
  | 0, _, _, _, _, _ => none
  | k + 1, x0, x4, x10, x11, x12 => if x12 < x11 then (if 0 ≤ x12 then (if x12 < (x10.length : Int) then ((strconv_ParseUint.f (rdOf ByteArray.empty x10 x12) 10 32).bind fun bt105 => (if bt105.2.isNone = true then (if (x4.length : Int) > 20 then (some (([] : List Int), false)) else (if x4.length < 35184372088832 then (oid_Parse.l0 k x0 (x4 ++ [(bt105.1) % 4294967296]) x10 x11 (wrap64 (x12 + 1))) else (none))) else (some (([] : List Int), false)))) else (none)) else (none)) else ((oid_Text.f x4).bind fun t111 => (if t111.toList = x0.toList then ((oid_Valid.f x4).bind fun t112 => (if t112 = true then (some (x4, true)) else (some (([] : List Int), false)))) else (some (([] : List Int), false))))
def oid_Parse.f (k : Nat) (a0 : ByteArray) : Option (List Int × Bool) := (strings_Split.f a0 (⟨#[46]⟩ : ByteArray)).bind fun t101 => (oid_Parse.l0 k a0 ([] : List Int) t101 (t101.length : Int) 0)
theorem oid_Parse.mono_l : ∀ k, (∀ y0 y1 y2 y3 y4, LeO (oid_Parse.l0 k y0 y1 y2 y3 y4) (oid_Parse.l0 (k + 1) y0 y1 y2 y3 y4))
  | 0 => fun _ _ _ _ _ r h => by simp [oid_Parse.l0] at h
  | k + 1 => by
    have ih0 := oid_Parse.mono_l k
    · intro y0 y1 y2 y3 y4
      unfold oid_Parse.l0
      repeat' first
      | (with_reducible exact ih0 _ _ _ _ _)
      | (with_reducible exact LeO.refl _)
      | (with_reducible exact LeO.none _)
      | (with_reducible refine LeO.ite ?_ ?_)
      | (with_reducible refine LeO.bind ?_ (fun _ => ?_))
      | exact ih0 _ _ _ _ _
      | exact LeO.none _
      | refine LeO.ite ?_ ?_
      | refine LeO.bind ?_ (fun _ => ?_)
theorem oid_Parse.mono : ∀ a0 k, LeO (oid_Parse.f k a0) (oid_Parse.f (k + 1) a0) := by
  intro a0 k
  have ih0 := oid_Parse.mono_l k
  unfold oid_Parse.f
  repeat' first
      | (with_reducible exact ih0 _ _ _ _ _)
      | (with_reducible exact LeO.refl _)
      | (with_reducible exact LeO.none _)
      | (with_reducible refine LeO.ite ?_ ?_)
      | (with_reducible refine LeO.bind ?_ (fun _ => ?_))
      | exact ih0 _ _ _ _ _
      | exact LeO.none _
      | refine LeO.ite ?_ ?_
      | refine LeO.bind ?_ (fun _ => ?_)
set_option maxHeartbeats 8000000 in
set_option maxRecDepth 100000 in
theorem oid_Parse.calls (k : Nat) (a0 : ByteArray) (r1 : List Int) (r2 : Bool) (w : World) (HLd : LaidOk w) (h : oid_Parse.f k a0 = some (r1, r2)) :
    Calls Tryd.prog 13 #[.string a0] w fun e w' => ∃ v0_ : Value, e = .returned (.tuple #[v0_, .bool r2]) ∧ Kd.R (Kd.int .u32) 27 w' w.heap.size (fun _ => True) v0_ r1 ∧ Below w.heap.size w w' := by
  have hu63 := Tryd.underlying63
  have HB := Aside0.mk (Below.refl w.heap.size w)
  have H : ((strings_Split.f a0 (⟨#[46]⟩ : ByteArray)).bind fun t101 => (oid_Parse.l0 k a0 ([] : List Int) t101 (t101.length : Int) 0)) = some (r1, r2) := h
  clear h
  replace H := Option.bind_eq_some_iff.mp H
  obtain ⟨t101, A20, H⟩ := H
  replace H : (oid_Parse.l0 k a0 ([] : List Int) t101 (t101.length : Int) 0) = some (r1, r2) := H
  have A2 := Aside0.mk A20
  clear A20
  have H' := Aside0.mk H
  clear H
  go_enter Tryd.func13, Tryd.ntmps13
  go_wp2_with (first | ((with_reducible refine gate_callee (f := 37) rfl ?_); refine goesL_ (some 10) rfl rfl Tryd.func37 (by kernel_rfl) rfl #[.string a0, .string (⟨#[46]⟩ : ByteArray)] rfl (by (try simp only [List.map_toArray, List.map_cons, List.map_nil]); first | done | rfl | (simp only [List.length_drop, List.length_take]; rfl)) ?_; (with_reducible refine (strings_Split.calls a0 (⟨#[46]⟩ : ByteArray) t101 _ ?side1 A2.out).mono ?_); (case side1 => first | exact HLd | (exact LaidOk.below HLd (by repeat (first | (with_reducible first | exact HB.out | apply below_alloc | apply pw_below_drewN | apply below_drew1) | exact HB.out))) | (repeat (first | exact HLd | apply LaidOk.drewN | apply LaidOk.drew | apply LaidOk.alloc))); rintro e w3 ⟨v102, rfl, ho0, hb⟩; refine ⟨_, rfl, ?_⟩; have n0_ := Aside0.mk (Kd.R_lower ho0 (below_size (by repeat (first | (with_reducible first | exact HB.out | apply below_alloc | apply pw_below_drewN | apply below_drew1) | exact HB.out)))); have n1_ := Aside0.mk (below_step (by repeat (first | (with_reducible first | exact HB.out | apply below_alloc | apply pw_below_drewN | apply below_drew1) | exact HB.out)) hb); clear HB; have HO103 := n0_; have HB := n1_; clear n0_ n1_; (try clear hb); (try clear hb2); (try clear hk); (try clear hi); (try clear ho0); obtain ⟨Ao4, co4, eo4⟩ := Kd.R_slice HO103.out; subst eo4))
  go_loopg [4, 12] k (fun kq v4 v12 w' => ∃ (x4_1 : List Int) (x12_1 : Int), v12 = .int .i64 x12_1 ∧ Aside0 (oid_Parse.l0 kq a0 x4_1 t101 (t101.length : Int) x12_1 = some (r1, r2)) ∧ Aside0 (kq ≤ k) ∧ Aside0 (Kd.R (Kd.int .u32) 27 w' w.heap.size (fun _ => True) v4 x4_1) ∧ Aside0 (Kd.R Kd.string 9 w' w.heap.size (fun _ => True) (.slice Ao4 t101.length co4) t101) ∧ Aside0 (Below w.heap.size w w'))
  case atStart => exact ⟨(([] : List Int)), (0), (by first | rfl | (simp; done) | (simp [*]; done)), H', ⟨Nat.le_refl _⟩, ⟨by first | exact Kd.R_nil _ _ _ _ _ | exact Kd.N_nil _ _ _ _ _ | exact Kd.V_nil _ _ _ _ _ | exact Kd.Q_nil _ _ _ _ _ | exact Kd.S_nil _ _ _ _ _⟩, ⟨by (with_reducible repeat (first | apply Kd.R_alloc | apply Kd.R_drewN | apply Kd.R_drew)); exact HO103.out⟩, ⟨by repeat (first | (with_reducible first | exact HB.out | apply below_alloc | apply pw_below_drewN | apply below_drew1) | exact HB.out)⟩⟩
  case round =>
    clear H'
    try clear c1
    try clear p2
    try clear c3
    obtain ⟨x4_1, x12_1, rfl, HA, HK1, HO_4, HO_10, HB⟩ := hrel
    cases gk with
    | zero => exact absurd HA.out (by simp [oid_Parse.l0])
    | succ k1 =>
      have H := HA.out
      clear HA
      simp only [oid_Parse.l0] at H
      by_cases c5 : x12_1 < (t101.length : Int)
      · rw [if_pos c5] at H
        have c5b0 : decide (x12_1 < (t101.length : Int)) = true := decide_eq_true c5
        clear c5
        by_cases c6 : 0 ≤ x12_1
        · rw [if_pos c6] at H
          have c6b0 : decide (0 ≤ x12_1) = true := decide_eq_true c6
          clear c6
          by_cases c7 : x12_1 < (t101.length : Int)
          · rw [if_pos c7] at H
            have c7b0 : decide (x12_1 < (t101.length : Int)) = true := decide_eq_true c7
            clear c7
            replace H := Option.bind_eq_some_iff.mp H
            obtain ⟨⟨t105, t106⟩, A80, H⟩ := H
            replace H : (if t106.isNone = true then (if (x4_1.length : Int) > 20 then (some (([] : List Int), false)) else (if x4_1.length < 35184372088832 then (oid_Parse.l0 k1 a0 (x4_1 ++ [(t105) % 4294967296]) t101 (t101.length : Int) (wrap64 (x12_1 + 1))) else (none))) else (some (([] : List Int), false))) = some (r1, r2) := H
            have A8 := Aside0.mk A80
            clear A80
            rcases t106 with _ | q107
            · have H1 : (if (x4_1.length : Int) > 20 then (some (([] : List Int), false)) else (if x4_1.length < 35184372088832 then (oid_Parse.l0 k1 a0 (x4_1 ++ [(t105) % 4294967296]) t101 (t101.length : Int) (wrap64 (x12_1 + 1))) else (none))) = some (r1, r2) := by rw [if_pos (show (none : Option Int).isNone = true by rfl)] at H; exact H
              clear H
              have H := H1
              clear H1
              try simp only [errW_none, errW_some]
              by_cases c9 : (x4_1.length : Int) > 20
              · rw [if_pos c9] at H
                have c9b0 : decide (20 < (x4_1.length : Int)) = true := decide_eq_true c9
                have c9b1 : decide (20 < x4_1.length) = true := decide_eq_true (by omega)
                clear c9
                simp only [Option.some.injEq, Prod.mk.injEq] at H
                obtain ⟨rfl, rfl⟩ := H
                have p104 : 0 ≤ (x12_1 : Int) := of_decide_eq_true (by first | (with_reducible assumption) | assumption)
                have q104 : x12_1 < (t101.length : Int) := of_decide_eq_true (by first | (with_reducible assumption) | assumption)
                obtain ⟨ad104, e104, hx104_0⟩ := Kd.at_string (Kd.R_reads' HO_10.out).2.2 x12_1 p104 q104
                cases e104
                replace p104 := eq_true p104
                replace q104 := eq_true q104
                go_wp2_with (first | ((with_reducible refine gate_callee (f := 38) rfl ?_); refine goesL_ (some 18) rfl rfl Tryd.func38 (by kernel_rfl) rfl #[.string (rdOf ByteArray.empty t101 x12_1), .int .i64 10, .int .i64 32] rfl (by (try simp only [List.map_toArray, List.map_cons, List.map_nil]); first | done | rfl | (simp only [List.length_drop, List.length_take]; rfl)) ?_; (with_reducible refine (strconv_ParseUint.calls (rdOf ByteArray.empty t101 x12_1) 10 32 t105 none _ ?side1 A8.out).mono ?_); (case side1 => first | exact HLd | (exact LaidOk.below HLd (by repeat (first | (with_reducible first | exact HB.out | apply below_alloc | apply pw_below_drewN | apply below_drew1) | exact HB.out))) | (repeat (first | exact HLd | apply LaidOk.drewN | apply LaidOk.drew | apply LaidOk.alloc))); rintro e w10 ⟨ev_, rfl, (hev_ : ev_ = .nilIface), hb⟩; subst hev_; refine ⟨_, rfl, ?_⟩; have n0_ := Aside0.mk (Kd.R_below (by (with_reducible repeat (first | apply Kd.R_alloc | apply Kd.R_drewN | apply Kd.R_drew)); exact HO_4.out) hb); have n1_ := Aside0.mk (Kd.R_below (by (with_reducible repeat (first | apply Kd.R_alloc | apply Kd.R_drewN | apply Kd.R_drew)); exact HO_10.out) hb); have n2_ := Aside0.mk (below_step (by repeat (first | (with_reducible first | exact HB.out | apply below_alloc | apply pw_below_drewN | apply below_drew1) | exact HB.out)) hb); clear HO_4; clear HO_10; clear HB; have HO_4 := n0_; have HO_10 := n1_; have HB := n2_; clear n0_ n1_ n2_; (try clear hb); (try clear hb2); (try clear hk); (try clear hi); (try simp only [errW_none, errW_some]); obtain ⟨Ao11, co11, eo11⟩ := Kd.R_slice HO_4.out; subst eo11))
                go_ret2
                exact ⟨_, by first | rfl | (simp [errW_none, errW_some] <;> rfl) | (simp [*, errW_none, errW_some] <;> rfl), by first | exact Kd.R_nil _ _ _ _ _ | exact Kd.N_nil _ _ _ _ _ | exact Kd.V_nil _ _ _ _ _ | exact Kd.Q_nil _ _ _ _ _ | exact Kd.S_nil _ _ _ _ _, by repeat (first | (with_reducible first | exact HB.out | apply below_alloc | apply pw_below_drewN | apply below_drew1) | exact HB.out)⟩
              · rw [if_neg c9] at H
                have c9b0 : decide (20 < (x4_1.length : Int)) = false := decide_eq_false c9
                have c9b1 : decide (20 < x4_1.length) = false := decide_eq_false (by omega)
                clear c9
                by_cases c12 : x4_1.length < 35184372088832
                · rw [if_pos c12] at H
                  have LMc12 := Aside0.mk c12
                  clear c12
                  obtain ⟨y108, hy108⟩ : ∃ y_ : List Int, y_ = (x4_1 ++ [(t105) % 4294967296]) := ⟨_, rfl⟩
                  replace H : (oid_Parse.l0 k1 a0 y108 t101 (t101.length : Int) (wrap64 (x12_1 + 1))) = some (r1, r2) := by first | (rw [hy108]; with_reducible exact H) | (have H2_ := (Option.bind_some _ _).symm.trans H; rw [hy108]; with_reducible exact H2_) | (have H2_ := (Option.bind_some _ _).symm.trans H; with_reducible exact H2_) | with_reducible exact H | (rw [hy108]; exact H) | exact H
                  have Ny108 := Aside0.mk hy108
                  clear hy108
                  have H' := Aside0.mk H
                  clear H
                  have p104 : 0 ≤ (x12_1 : Int) := of_decide_eq_true (by first | (with_reducible assumption) | assumption)
                  have q104 : x12_1 < (t101.length : Int) := of_decide_eq_true (by first | (with_reducible assumption) | assumption)
                  obtain ⟨ad104, e104, hx104_0⟩ := Kd.at_string (Kd.R_reads' HO_10.out).2.2 x12_1 p104 q104
                  cases e104
                  replace p104 := eq_true p104
                  replace q104 := eq_true q104
                  go_wp2_with (first | ((with_reducible refine gate_callee (f := 38) rfl ?_); refine goesL_ (some 18) rfl rfl Tryd.func38 (by kernel_rfl) rfl #[.string (rdOf ByteArray.empty t101 x12_1), .int .i64 10, .int .i64 32] rfl (by (try simp only [List.map_toArray, List.map_cons, List.map_nil]); first | done | rfl | (simp only [List.length_drop, List.length_take]; rfl)) ?_; (with_reducible refine (strconv_ParseUint.calls (rdOf ByteArray.empty t101 x12_1) 10 32 t105 none _ ?side1 A8.out).mono ?_); (case side1 => first | exact HLd | (exact LaidOk.below HLd (by repeat (first | (with_reducible first | exact HB.out | apply below_alloc | apply pw_below_drewN | apply below_drew1) | exact HB.out))) | (repeat (first | exact HLd | apply LaidOk.drewN | apply LaidOk.drew | apply LaidOk.alloc))); rintro e w13 ⟨ev_, rfl, (hev_ : ev_ = .nilIface), hb⟩; subst hev_; refine ⟨_, rfl, ?_⟩; have n0_ := Aside0.mk (Kd.R_below (by (with_reducible repeat (first | apply Kd.R_alloc | apply Kd.R_drewN | apply Kd.R_drew)); exact HO_4.out) hb); have n1_ := Aside0.mk (Kd.R_below (by (with_reducible repeat (first | apply Kd.R_alloc | apply Kd.R_drewN | apply Kd.R_drew)); exact HO_10.out) hb); have n2_ := Aside0.mk (below_step (by repeat (first | (with_reducible first | exact HB.out | apply below_alloc | apply pw_below_drewN | apply below_drew1) | exact HB.out)) hb); clear HO_4; clear HO_10; clear HB; have HO_4 := n0_; have HO_10 := n1_; have HB := n2_; clear n0_ n1_ n2_; (try clear hb); (try clear hb2); (try clear hk); (try clear hi); (try simp only [errW_none, errW_some]); obtain ⟨Ao14, co14, eo14⟩ := Kd.R_slice HO_4.out; subst eo14) | ((with_reducible refine gate_builtin (b := .append) (xs := #[.tmp 28, .tmp 31]) rfl ?_); (try (refine gate_guard (by rfl) ?_; dsimp only)); at_builtin; refine Kd.R_append (Kd.int .u32) (w0 := w) w.heap.size rfl (.tmp 28) (.tmp 31) 23 27 (.int .u32 0) 4 rfl Tryd.underlying23 info27 rfl (by decide) (by omega) (.slice Ao14 x4_1.length co14) x4_1 ((t105) % 4294967296) [.int .u32 ((t105) % 4294967296)] (fun _ => True) (fun _ => False) rfl rfl ?aP (fun _ hk => hk.elim) ?aF ?aO ?aB ?aS ?aL ?_; (case aP => exact rfl); (case aB => exact (by repeat (first | (with_reducible first | exact HB.out | apply below_alloc | apply pw_below_drewN | apply below_drew1) | exact HB.out))); (case aF => exact (fun _ _ => trivial)); (case aO => exact (by (with_reducible repeat (first | apply Kd.R_alloc | apply Kd.R_drewN | apply Kd.R_drew)); exact HO_4.out)); (case aS => exact (below_size (by repeat (first | (with_reducible first | exact HB.out | apply below_alloc | apply pw_below_drewN | apply below_drew1) | exact HB.out)))); (case aL => have := LMc12.out; omega); intro v109 w15 ho hb hg hat; rw [← Ny108.out] at ho; have n0_ := Aside0.mk (Kd.R_over' (by (with_reducible repeat (first | apply Kd.R_alloc | apply Kd.R_drewN | apply Kd.R_drew)); exact HO_10.out) (Kd.R_typed (by (with_reducible repeat (first | apply Kd.R_alloc | apply Kd.R_drewN | apply Kd.R_drew)); exact HO_4.out)) (by decide) hg); have n1_ := Aside0.mk (hb); have n2_ := Aside0.mk (ho); clear HO_10; clear HB; clear HO_4; have HO_10 := n0_; have HB := n1_; have HO110 := n2_; clear n0_ n1_ n2_; clear ho hb hg hat))
                  go_roundg k1
                  case measure => have := HK1.out; omega
                  case rel => exact ⟨(y108), (wrap64 (x12_1 + 1)), (by first | rfl | (simp; done) | (simp [*]; done)), H', ⟨by have := HK1.out; omega⟩, ⟨by (with_reducible repeat (first | apply Kd.R_alloc | apply Kd.R_drewN | apply Kd.R_drew)); exact HO110.out⟩, ⟨by (with_reducible repeat (first | apply Kd.R_alloc | apply Kd.R_drewN | apply Kd.R_drew)); exact HO_10.out⟩, ⟨by repeat (first | (with_reducible first | exact HB.out | apply below_alloc | apply pw_below_drewN | apply below_drew1) | exact HB.out)⟩⟩
                · rw [if_neg c12] at H
                  exact absurd H (by simp)
            · have H1 : (some (([] : List Int), false)) = some (r1, r2) := by rw [if_neg (show ¬ (some q107).isNone = true by simp)] at H; exact H
              clear H
              have H := H1
              clear H1
              try simp only [errW_none, errW_some]
              simp only [Option.some.injEq, Prod.mk.injEq] at H
              obtain ⟨rfl, rfl⟩ := H
              have p104 : 0 ≤ (x12_1 : Int) := of_decide_eq_true (by first | (with_reducible assumption) | assumption)
              have q104 : x12_1 < (t101.length : Int) := of_decide_eq_true (by first | (with_reducible assumption) | assumption)
              obtain ⟨ad104, e104, hx104_0⟩ := Kd.at_string (Kd.R_reads' HO_10.out).2.2 x12_1 p104 q104
              cases e104
              replace p104 := eq_true p104
              replace q104 := eq_true q104
              go_wp2_with (first | ((with_reducible refine gate_callee (f := 38) rfl ?_); refine goesL_ (some 18) rfl rfl Tryd.func38 (by kernel_rfl) rfl #[.string (rdOf ByteArray.empty t101 x12_1), .int .i64 10, .int .i64 32] rfl (by (try simp only [List.map_toArray, List.map_cons, List.map_nil]); first | done | rfl | (simp only [List.length_drop, List.length_take]; rfl)) ?_; (with_reducible refine (strconv_ParseUint.calls (rdOf ByteArray.empty t101 x12_1) 10 32 t105 (some q107) _ ?side1 A8.out).mono ?_); (case side1 => first | exact HLd | (exact LaidOk.below HLd (by repeat (first | (with_reducible first | exact HB.out | apply below_alloc | apply pw_below_drewN | apply below_drew1) | exact HB.out))) | (repeat (first | exact HLd | apply LaidOk.drewN | apply LaidOk.drew | apply LaidOk.alloc))); rintro e w16 ⟨ev_, rfl, ⟨tp_, pv_, hev_⟩, hb⟩; subst hev_; refine ⟨_, rfl, ?_⟩; have n0_ := Aside0.mk (Kd.R_below (by (with_reducible repeat (first | apply Kd.R_alloc | apply Kd.R_drewN | apply Kd.R_drew)); exact HO_4.out) hb); have n1_ := Aside0.mk (Kd.R_below (by (with_reducible repeat (first | apply Kd.R_alloc | apply Kd.R_drewN | apply Kd.R_drew)); exact HO_10.out) hb); have n2_ := Aside0.mk (below_step (by repeat (first | (with_reducible first | exact HB.out | apply below_alloc | apply pw_below_drewN | apply below_drew1) | exact HB.out)) hb); clear HO_4; clear HO_10; clear HB; have HO_4 := n0_; have HO_10 := n1_; have HB := n2_; clear n0_ n1_ n2_; (try clear hb); (try clear hb2); (try clear hk); (try clear hi); (try simp only [errW_none, errW_some])))
              go_ret2
              exact ⟨_, by first | rfl | (simp [errW_none, errW_some] <;> rfl) | (simp [*, errW_none, errW_some] <;> rfl), by first | exact Kd.R_nil _ _ _ _ _ | exact Kd.N_nil _ _ _ _ _ | exact Kd.V_nil _ _ _ _ _ | exact Kd.Q_nil _ _ _ _ _ | exact Kd.S_nil _ _ _ _ _, by repeat (first | (with_reducible first | exact HB.out | apply below_alloc | apply pw_below_drewN | apply below_drew1) | exact HB.out)⟩
          · rw [if_neg c7] at H
            exact absurd H (by simp)
        · rw [if_neg c6] at H
          exact absurd H (by simp)
      · rw [if_neg c5] at H
        have c5b0 : decide (x12_1 < (t101.length : Int)) = false := decide_eq_false c5
        clear c5
        replace H := Option.bind_eq_some_iff.mp H
        obtain ⟨t111, A170, H⟩ := H
        replace H : (if t111.toList = a0.toList then ((oid_Valid.f x4_1).bind fun t112 => (if t112 = true then (some (x4_1, true)) else (some (([] : List Int), false)))) else (some (([] : List Int), false))) = some (r1, r2) := H
        have A17 := Aside0.mk A170
        clear A170
        by_cases c18 : t111.toList = a0.toList
        · rw [if_pos c18] at H
          have c18b0 : (t111.toList == a0.toList) = true := beq_iff_eq.mpr c18
          have c18b1 : (t111.toList != a0.toList) = false := bne_eq_false_iff_eq.mpr c18
          clear c18
          replace H := Option.bind_eq_some_iff.mp H
          obtain ⟨t112, A190, H⟩ := H
          replace H : (if t112 = true then (some (x4_1, true)) else (some (([] : List Int), false))) = some (r1, r2) := H
          have A19 := Aside0.mk A190
          clear A190
          by_cases c20 : t112 = true
          · subst c20
            have H1 : (some (x4_1, true)) = some (r1, r2) := by rw [if_pos rfl] at H; exact H
            clear H
            have H := H1
            clear H1
            simp only [Option.some.injEq, Prod.mk.injEq] at H
            obtain ⟨rfl, rfl⟩ := H
            obtain ⟨Ao21, co21, eo21⟩ := Kd.R_slice HO_4.out
            subst eo21
            go_wp2_with (first | ((with_reducible refine gate_callee (f := 16) rfl ?_); refine goesL_ (some 35) rfl rfl Tryd.func16 (by kernel_rfl) rfl #[.slice Ao21 x4_1.length co21] rfl (by (try simp only [List.map_toArray, List.map_cons, List.map_nil]); first | done | rfl | (simp only [List.length_drop, List.length_take]; rfl)) ?_; (with_reducible refine (oid_Text.calls _ _ x4_1 t111 _ ?side1 ?side2 ?side3 A17.out).mono ?_); (case side1 => first | exact HLd | (exact LaidOk.below HLd (by repeat (first | (with_reducible first | exact HB.out | apply below_alloc | apply pw_below_drewN | apply below_drew1) | exact HB.out))) | (repeat (first | exact HLd | apply LaidOk.drewN | apply LaidOk.drew | apply LaidOk.alloc))); (case side2 => repeat (first | exact (Kd.R_reads' HO_4.out).2.2 | (with_reducible refine Kd.C_alloc ?_ _) | (with_reducible refine Kd.C_drewN ?_ _) | (with_reducible refine Kd.C_drew ?_))); (case side3 => exact (Kd.R_reads' HO_4.out).2.1); rintro e w22 ⟨rfl, hb⟩; refine ⟨_, rfl, ?_⟩; have n0_ := Aside0.mk (Kd.R_below (by (with_reducible repeat (first | apply Kd.R_alloc | apply Kd.R_drewN | apply Kd.R_drew)); exact HO_4.out) hb); have n1_ := Aside0.mk (Kd.R_below (by (with_reducible repeat (first | apply Kd.R_alloc | apply Kd.R_drewN | apply Kd.R_drew)); exact HO_10.out) hb); have n2_ := Aside0.mk (below_step (by repeat (first | (with_reducible first | exact HB.out | apply below_alloc | apply pw_below_drewN | apply below_drew1) | exact HB.out)) hb); clear HO_4; clear HO_10; clear HB; have HO_4 := n0_; have HO_10 := n1_; have HB := n2_; clear n0_ n1_ n2_; (try clear hb); (try clear hb2); (try clear hk); (try clear hi)) | (go_at_call 36; (with_reducible refine (oid_Valid.calls _ _ x4_1 true _ ?side1 ?side2 A19.out).mono ?_); (case side1 => repeat (first | exact (Kd.R_reads' HO_4.out).2.2 | (with_reducible refine Kd.C_alloc ?_ _) | (with_reducible refine Kd.C_drewN ?_ _) | (with_reducible refine Kd.C_drew ?_))); (case side2 => exact (Kd.R_reads' HO_4.out).2.1); rintro e w' ⟨rfl, ⟨nd, rfl⟩⟩))
            go_ret2
            exact ⟨_, by first | rfl | (simp [errW_none, errW_some] <;> rfl) | (simp [*, errW_none, errW_some] <;> rfl), by (with_reducible repeat (first | apply Kd.R_alloc | apply Kd.R_drewN | apply Kd.R_drew)); exact HO_4.out, by repeat (first | (with_reducible first | exact HB.out | apply below_alloc | apply pw_below_drewN | apply below_drew1) | exact HB.out)⟩
          · replace c20 := Bool.eq_false_iff.mpr c20
            subst c20
            have H1 : (some (([] : List Int), false)) = some (r1, r2) := by rw [if_neg (show ¬ (false = true) by decide)] at H; exact H
            clear H
            have H := H1
            clear H1
            simp only [Option.some.injEq, Prod.mk.injEq] at H
            obtain ⟨rfl, rfl⟩ := H
            obtain ⟨Ao23, co23, eo23⟩ := Kd.R_slice HO_4.out
            subst eo23
            go_wp2_with (first | ((with_reducible refine gate_callee (f := 16) rfl ?_); refine goesL_ (some 35) rfl rfl Tryd.func16 (by kernel_rfl) rfl #[.slice Ao23 x4_1.length co23] rfl (by (try simp only [List.map_toArray, List.map_cons, List.map_nil]); first | done | rfl | (simp only [List.length_drop, List.length_take]; rfl)) ?_; (with_reducible refine (oid_Text.calls _ _ x4_1 t111 _ ?side1 ?side2 ?side3 A17.out).mono ?_); (case side1 => first | exact HLd | (exact LaidOk.below HLd (by repeat (first | (with_reducible first | exact HB.out | apply below_alloc | apply pw_below_drewN | apply below_drew1) | exact HB.out))) | (repeat (first | exact HLd | apply LaidOk.drewN | apply LaidOk.drew | apply LaidOk.alloc))); (case side2 => repeat (first | exact (Kd.R_reads' HO_4.out).2.2 | (with_reducible refine Kd.C_alloc ?_ _) | (with_reducible refine Kd.C_drewN ?_ _) | (with_reducible refine Kd.C_drew ?_))); (case side3 => exact (Kd.R_reads' HO_4.out).2.1); rintro e w24 ⟨rfl, hb⟩; refine ⟨_, rfl, ?_⟩; have n0_ := Aside0.mk (Kd.R_below (by (with_reducible repeat (first | apply Kd.R_alloc | apply Kd.R_drewN | apply Kd.R_drew)); exact HO_4.out) hb); have n1_ := Aside0.mk (Kd.R_below (by (with_reducible repeat (first | apply Kd.R_alloc | apply Kd.R_drewN | apply Kd.R_drew)); exact HO_10.out) hb); have n2_ := Aside0.mk (below_step (by repeat (first | (with_reducible first | exact HB.out | apply below_alloc | apply pw_below_drewN | apply below_drew1) | exact HB.out)) hb); clear HO_4; clear HO_10; clear HB; have HO_4 := n0_; have HO_10 := n1_; have HB := n2_; clear n0_ n1_ n2_; (try clear hb); (try clear hb2); (try clear hk); (try clear hi)) | (go_at_call 36; (with_reducible refine (oid_Valid.calls _ _ x4_1 false _ ?side1 ?side2 A19.out).mono ?_); (case side1 => repeat (first | exact (Kd.R_reads' HO_4.out).2.2 | (with_reducible refine Kd.C_alloc ?_ _) | (with_reducible refine Kd.C_drewN ?_ _) | (with_reducible refine Kd.C_drew ?_))); (case side2 => exact (Kd.R_reads' HO_4.out).2.1); rintro e w' ⟨rfl, ⟨nd, rfl⟩⟩))
            go_ret2
            exact ⟨_, by first | rfl | (simp [errW_none, errW_some] <;> rfl) | (simp [*, errW_none, errW_some] <;> rfl), by first | exact Kd.R_nil _ _ _ _ _ | exact Kd.N_nil _ _ _ _ _ | exact Kd.V_nil _ _ _ _ _ | exact Kd.Q_nil _ _ _ _ _ | exact Kd.S_nil _ _ _ _ _, by repeat (first | (with_reducible first | exact HB.out | apply below_alloc | apply pw_below_drewN | apply below_drew1) | exact HB.out)⟩
        · rw [if_neg c18] at H
          have c18b0 : (t111.toList == a0.toList) = false := beq_eq_false_iff_ne.mpr c18
          have c18b1 : (t111.toList != a0.toList) = true := bne_iff_ne.mpr c18
          simp only [Option.some.injEq, Prod.mk.injEq] at H
          obtain ⟨rfl, rfl⟩ := H
          obtain ⟨Ao25, co25, eo25⟩ := Kd.R_slice HO_4.out
          subst eo25
          go_wp2_with (first | ((with_reducible refine gate_callee (f := 16) rfl ?_); refine goesL_ (some 35) rfl rfl Tryd.func16 (by kernel_rfl) rfl #[.slice Ao25 x4_1.length co25] rfl (by (try simp only [List.map_toArray, List.map_cons, List.map_nil]); first | done | rfl | (simp only [List.length_drop, List.length_take]; rfl)) ?_; (with_reducible refine (oid_Text.calls _ _ x4_1 t111 _ ?side1 ?side2 ?side3 A17.out).mono ?_); (case side1 => first | exact HLd | (exact LaidOk.below HLd (by repeat (first | (with_reducible first | exact HB.out | apply below_alloc | apply pw_below_drewN | apply below_drew1) | exact HB.out))) | (repeat (first | exact HLd | apply LaidOk.drewN | apply LaidOk.drew | apply LaidOk.alloc))); (case side2 => repeat (first | exact (Kd.R_reads' HO_4.out).2.2 | (with_reducible refine Kd.C_alloc ?_ _) | (with_reducible refine Kd.C_drewN ?_ _) | (with_reducible refine Kd.C_drew ?_))); (case side3 => exact (Kd.R_reads' HO_4.out).2.1); rintro e w26 ⟨rfl, hb⟩; refine ⟨_, rfl, ?_⟩; have n0_ := Aside0.mk (Kd.R_below (by (with_reducible repeat (first | apply Kd.R_alloc | apply Kd.R_drewN | apply Kd.R_drew)); exact HO_4.out) hb); have n1_ := Aside0.mk (Kd.R_below (by (with_reducible repeat (first | apply Kd.R_alloc | apply Kd.R_drewN | apply Kd.R_drew)); exact HO_10.out) hb); have n2_ := Aside0.mk (below_step (by repeat (first | (with_reducible first | exact HB.out | apply below_alloc | apply pw_below_drewN | apply below_drew1) | exact HB.out)) hb); clear HO_4; clear HO_10; clear HB; have HO_4 := n0_; have HO_10 := n1_; have HB := n2_; clear n0_ n1_ n2_; (try clear hb); (try clear hb2); (try clear hk); (try clear hi)))
          go_ret2
          exact ⟨_, by first | rfl | (simp [errW_none, errW_some] <;> rfl) | (simp [*, errW_none, errW_some] <;> rfl), by first | exact Kd.R_nil _ _ _ _ _ | exact Kd.N_nil _ _ _ _ _ | exact Kd.V_nil _ _ _ _ _ | exact Kd.Q_nil _ _ _ _ _ | exact Kd.S_nil _ _ _ _ _, by repeat (first | (with_reducible first | exact HB.out | apply below_alloc | apply pw_below_drewN | apply below_drew1) | exact HB.out)⟩

end Go.Proofs.YtjoncjnmhhimhaaDoor.PParse
end

section
/- oid.Parse: the printed loop over the words comes to the plain function. -/
namespace Go.Proofs.YtjoncjnmhhimhaaDoor.Hand
set_option linter.unusedVariables false
set_option linter.unusedSimpArgs false
open Go.RowKit Go.Proofs.YtjoncjnmhhimhaaDoorW.PrintWords Go.Proofs.YtjoncjnmhhimhaaDoorW.PrintLast Go.Proofs.YtjoncjnmhhimhaaDoorW.PrintMore
open Go.Proofs.YtjoncjnmhhimhaaDoor.Oid

theorem words_size (sep : ByteArray) : ∀ (k : Nat) (s : ByteArray), ∀ w ∈ Lib.splitB sep 0 k s, w.size ≤ s.size
  | 0, s, w, h => by
    rw [Lib.splitB_zero] at h
    simp only [List.mem_singleton] at h
    subst h; exact Nat.le_refl _
  | k + 1, s, w, h => by
    rcases Lib.indexB_cases s sep with hix | ⟨i, hix, hroom⟩
    · rw [Lib.splitB_miss sep 0 _ s hix] at h
      simp only [List.mem_singleton] at h
      subst h; exact Nat.le_refl _
    · rw [Lib.splitB_hit sep 0 k s i hix] at h
      rcases List.mem_cons.1 h with rfl | h
      · rw [ByteArray.size_extract]; omega
      · have := words_size sep k _ w h
        rw [ByteArray.size_extract] at this
        omega

theorem parseUintB_le {l : List UInt8} {u : Nat} (h : Lib.parseUintB 32 l = .ok u) : u ≤ 4294967295 := by
  unfold Lib.parseUintB at h
  split at h
  · cases h
  · exact (parseUintM_ok _ _ _ _ h).2.2 (by omega)

theorem bytes_eq (a b : ByteArray) : (a.toList = b.toList) ↔ a = b := by
  rw [Lib.toList_data, Lib.toList_data]
  constructor
  · intro h
    obtain ⟨⟨x⟩⟩ := a
    obtain ⟨⟨y⟩⟩ := b
    simpa using h
  · intro h; rw [h]

theorem parse_loop (s : ByteArray) (ws : List ByteArray) (hn : ws.length ≤ 4294967296) (hw : ∀ w ∈ ws, w.size ≤ 4294967296) : ∀ (d k i : Nat) (acc : List Int), i + d = ws.length → acc.length = i → (∀ x ∈ acc, 0 ≤ x) → d < k →
    PParse.oid_Parse.l0 k s acc ws (ws.length : Int) (i : Int) = some (match parseLoop (ws.drop i) acc with
      | some out => if textB out = s ∧ validB out = true then (out, true) else ([], false)
      | none => ([], false)) := by
  intro d
  induction d with
  | zero =>
    intro k i acc h1 h2 hp h3
    obtain ⟨k, rfl⟩ : ∃ m, k = m + 1 := ⟨k - 1, by omega⟩
    have : ws.drop i = [] := List.drop_eq_nil_of_le (by omega)
    simp only [PParse.oid_Parse.l0]
    rw [if_neg (by omega), this]
    have ht : oid_Text.f acc = some (textB acc) := by
      unfold oid_Text.f
      rw [if_pos (List.all_eq_true.2 (fun x hx => by simpa using hp x hx))]
    rw [ht]
    simp only [Option.bind_some, parseLoop, oid_Valid.f]
    by_cases h4 : textB acc = s
    · rw [if_pos ((bytes_eq _ _).2 h4)]
      by_cases h5 : validB acc = true
      · rw [if_pos h5, if_pos ⟨h4, h5⟩]
      · rw [if_neg h5, if_neg (fun h => h5 h.2)]
    · rw [if_neg (fun h => h4 ((bytes_eq _ _).1 h)), if_neg (fun h => h4 h.1)]
  | succ d ih =>
    intro k i acc h1 h2 hp h3
    obtain ⟨k, rfl⟩ : ∃ m, k = m + 1 := ⟨k - 1, by omega⟩
    have hlt : i < ws.length := by omega
    have hrd : rdOf ByteArray.empty ws (i : Int) = ws[i] := by simp [rdOf, List.getD, hlt]
    have hsz := hw ws[i] (List.getElem_mem hlt)
    simp only [PParse.oid_Parse.l0]
    rw [if_pos (by omega), if_pos (by omega), if_pos (by omega), hrd, List.drop_eq_getElem_cons hlt]
    simp only [parseLoop]
    have hf : ∀ x, x = Lib.parseUintB 32 ws[i].data.toList → strconv_ParseUint.f ws[i] 10 32 = (match x with
      | .ok u => some ((u : Int), none)
      | .range => some (4294967295, some 1)
      | _ => some (0, some 0)) := by intro x hx; unfold strconv_ParseUint.f; rw [if_pos ⟨by omega, rfl, rfl⟩, ← hx]; (first | done | (cases x <;> rfl))
    rw [hf _ rfl]
    cases hp2 : Lib.parseUintB 32 ws[i].data.toList with
    | ok u =>
      have hu := parseUintB_le hp2
      simp only [Option.bind_some, Option.isNone_none, if_true]
      by_cases h20 : 20 < acc.length
      · rw [if_pos (by omega), if_pos h20]
      · rw [if_neg (by omega), if_neg h20, if_pos (by omega), i64_in _ (by omega) (by omega), show (u : Int) % 4294967296 = u by omega]
        have := ih k (i + 1) (acc ++ [(u : Int)]) (by omega) (by simp; omega) (fun x hx => by
          rcases List.mem_append.1 hx with hx | hx
          · exact hp x hx
          · simp only [List.mem_singleton] at hx; omega) (by omega)
        rw [show ((i + 1 : Nat) : Int) = (i : Int) + 1 from by omega] at this
        exact this
    | _ => simp

theorem oid_Parse.calls (a0 : ByteArray) (r1 : List Int) (r2 : Bool) (w : World) (HLd : LaidOk w) (h : oid_Parse.f a0 = some (r1, r2)) :
    Calls Tryd.prog 13 #[.string a0] w fun e w' => ∃ v0_ : Value, e = .returned (.tuple #[v0_, .bool r2]) ∧ Kd.R (Kd.int .u32) 27 w' w.heap.size (fun _ => True) v0_ r1 ∧ Below w.heap.size w w' := by
  unfold oid_Parse.f at h
  by_cases hs : a0.size < 4294967281
  · rw [if_pos hs] at h
    have hlen := Lib.splitB_all ⟨#[46]⟩ (by decide) 0 _ a0 rfl
    have hle := Lib.countB_le ⟨#[46]⟩ (by decide) a0.size a0 (Nat.le_refl _)
    refine PParse.oid_Parse.calls ((wordsB a0).length + 1) a0 r1 r2 w HLd ?_
    unfold PParse.oid_Parse.f strings_Split.f
    rw [if_pos ⟨hs, by decide⟩]
    simp only [Option.bind_some]
    have := parse_loop a0 (wordsB a0) (by unfold wordsB; omega) (fun w hw => by have := words_size _ _ _ w hw; omega) (wordsB a0).length ((wordsB a0).length + 1) 0 [] (by omega) rfl (by simp) (by omega)
    rw [show ((0 : Nat) : Int) = 0 from rfl, List.drop_zero] at this
    exact this.trans h
  · rw [if_neg hs] at h
    cases h

end Go.Proofs.YtjoncjnmhhimhaaDoor.Hand
end

section
/- strconv.Itoa in the form of this place's contracts. -/
namespace Go.Proofs.YtjoncjnmhhimhaaDoor.Hand
set_option linter.unusedVariables false
set_option linter.unusedSimpArgs false
open Go.RowKit Go.Proofs.YtjoncjnmhhimhaaDoorW.PrintWords Go.Proofs.YtjoncjnmhhimhaaDoorW.PrintLast Go.Proofs.YtjoncjnmhhimhaaDoorW.PrintMore

def strconv_Itoa.f (a0 : Int) : Option ByteArray := if 0 ≤ a0 ∧ a0 ≤ 9223372036854775807 then some (decB a0.toNat) else none
theorem strconv_Itoa.calls (a0 : Int) (r : ByteArray) (w : World) (HLd : LaidOk w) (h : strconv_Itoa.f a0 = some r) :
    Calls Tryd.prog 68 #[.int .i64 a0] w fun e w' => e = .returned (.string r) ∧ Below w.heap.size w w' := by
  unfold strconv_Itoa.f at h
  by_cases hp : 0 ≤ a0 ∧ a0 ≤ 9223372036854775807
  · rw [if_pos hp] at h
    obtain ⟨n, rfl⟩ := Int.eq_ofNat_of_zero_le hp.1
    obtain rfl := Option.some.inj h
    refine (Tryd.strconv_Itoa n (by omega) hp.2 w HLd.pow).mono ?_
    rintro e w' ⟨rfl, k, os, rfl⟩
    refine ⟨?_, Lib.below_grow _ w (Nat.le_refl _) k os⟩
    rw [Lib.itoa_nonneg]
    rfl
  · rw [if_neg hp] at h
    cases h
end Go.Proofs.YtjoncjnmhhimhaaDoor.Hand
end

section
-- Written by the kit's print.py, driven by this place's wip/tools/myprint.py. Not trusted: Lean checks it.
namespace Go.Proofs.YtjoncjnmhhimhaaDoor.PParT
open Go.RowKit Go.Proofs.YtjoncjnmhhimhaaDoor.Hand Go.Proofs.YtjoncjnmhhimhaaDoorW.PrintWords Go.Proofs.YtjoncjnmhhimhaaDoorW.PrintLast Go.Proofs.YtjoncjnmhhimhaaDoorW.PrintMore
attribute [local go_sem] max2_int min2_int max_two min_two max_three min_three max_four min_four   -- for this text's walks alone
set_option linter.unusedVariables false
set_option linter.unusedSimpArgs false



def errW : Option Int → Value
  | none => .nilIface
  | some c => .iface 0 (.int .i64 c)
theorem errW_none : errW none = .nilIface := rfl
theorem errW_some (c : Int) : errW (some c) = .iface 0 (.int .i64 c) := rfl

theorem info27 : (Tryd.prog.info? 27).map (fun i => (i.zero, i.size, i.bytes)) = some (some (.int .u32 0), 1, 4) := by kernel_rfl
-- the values' own types
def rd_L3 (xs : List (List Int)) (i : Int) : (List Int) := xs.getD i.toNat ([] : List Int)
theorem at_L3 {w : World} {A : Option Addr} {n : Nat} {xs : List (List Int)} (h : Kd.C (Kd.slice 27 (Kd.int .u32)) w A n xs) (i : Int) (h0 : 0 ≤ i) (h1 : i < n) : ∃ ad A0 c0, A = some ad ∧ w.cell? (ad.add i.toNat) = some (.slice A0 (rd_L3 xs i).length c0) ∧ (rd_L3 xs i).length ≤ c0 ∧ (Kd.int .u32).C w A0 (rd_L3 xs i).length (rd_L3 xs i) := by
  obtain ⟨ad, c, e, _, hK, hc0⟩ := Kd.C_get h ([] : List Int) i h0 h1
  have hc : ∀ j u, c[j]? = some u → w.cell? (ad.add (i.toNat * 1 + j)) = some u := hc0
  obtain ⟨A0, c0, rfl, l0, g0⟩ := hK
  exact ⟨ad, A0, c0, e, by have hq := hc 0 _ rfl; rwa [Nat.mul_one, Nat.add_zero] at hq, l0, g0⟩

end Go.Proofs.YtjoncjnmhhimhaaDoor.PParT
namespace Go.Proofs.YtjoncjnmhhimhaaDoor.PParT
open Go.RowKit Go.Proofs.YtjoncjnmhhimhaaDoor.Hand Go.Proofs.YtjoncjnmhhimhaaDoorW.PrintWords Go.Proofs.YtjoncjnmhhimhaaDoorW.PrintLast Go.Proofs.YtjoncjnmhhimhaaDoorW.PrintMore
attribute [local go_sem] max2_int min2_int max_two min_two max_three min_three max_four min_four   -- for this text's walks alone
set_option linter.unusedVariables false
set_option linter.unusedSimpArgs false

/-! ### params_nist: function 49 -/
def params_nist.f (a0 : Int) (a1 : Int) : Option (List Int) := some (([2, 16, 840, 1, 101, 3, 4, (a0) % 4294967296, (a1) % 4294967296] : List Int))
set_option maxHeartbeats 8000000 in
set_option maxRecDepth 100000 in
theorem params_nist.calls (a0 : Int) (a1 : Int) (r : List Int) (w : World) (h : params_nist.f a0 a1 = some r) :
    Calls Tryd.prog 49 #[.int .i64 a0, .int .i64 a1] w fun e w' => ∃ v0_ : Value, e = .returned (v0_) ∧ Kd.R (Kd.int .u32) 27 w' w.heap.size (fun _ => True) v0_ r ∧ Below w.heap.size w w' := by
  have HB := Aside0.mk (Below.refl w.heap.size w)
  have H : (some (([2, 16, 840, 1, 101, 3, 4, (a0) % 4294967296, (a1) % 4294967296] : List Int))) = some r := h
  clear h
  obtain ⟨y101, hy101⟩ : ∃ y_ : List Int, y_ = (([2, 16, 840, 1, 101, 3, 4, (a0) % 4294967296, (a1) % 4294967296] : List Int)) := ⟨_, rfl⟩
  replace H : (some y101) = some r := by first | (rw [hy101]; with_reducible exact H) | (have H2_ := (Option.bind_some _ _).symm.trans H; rw [hy101]; with_reducible exact H2_) | (have H2_ := (Option.bind_some _ _).symm.trans H; with_reducible exact H2_) | with_reducible exact H | (rw [hy101]; exact H) | exact H
  have Ny101 := Aside0.mk hy101
  clear hy101
  obtain rfl := Option.some.inj H
  go_enter Tryd.func49, Tryd.ntmps49
  go_wp2_with (first | ((with_reducible refine gate_dst (N := 9) rfl ?_); refine Kd.R_lit (Kd.int .u32) _ 27 ?hg (N := 9) ?hd (xs := ([2, 16, 840, 1, 101, 3, 4, (a0) % 4294967296, (a1) % 4294967296] : List Int)) (inner := [.int .u32 2, .int .u32 16, .int .u32 840, .int .u32 1, .int .u32 101, .int .u32 3, .int .u32 4, .int .u32 ((a0) % 4294967296), .int .u32 ((a1) % 4294967296)]) (ok := fun _ => True) (okp := fun _ => True) ?hr ?hp (fun _ hk => hk) trivial (Below.refl _ _) (Nat.le_refl _) (by simp) ?_; (case hd => rfl); (case hg => rfl); (case hr => first | (go_simp; done) | (go_simp; rfl)); (case hp => exact (Reps.one (show Kd.M (Kd.int .u32) _ _ _ 2 [.int .u32 2] from rfl) (Reps.one (show Kd.M (Kd.int .u32) _ _ _ 16 [.int .u32 16] from rfl) (Reps.one (show Kd.M (Kd.int .u32) _ _ _ 840 [.int .u32 840] from rfl) (Reps.one (show Kd.M (Kd.int .u32) _ _ _ 1 [.int .u32 1] from rfl) (Reps.one (show Kd.M (Kd.int .u32) _ _ _ 101 [.int .u32 101] from rfl) (Reps.one (show Kd.M (Kd.int .u32) _ _ _ 3 [.int .u32 3] from rfl) (Reps.one (show Kd.M (Kd.int .u32) _ _ _ 4 [.int .u32 4] from rfl) (Reps.one (show Kd.M (Kd.int .u32) _ _ _ ((a0) % 4294967296) [.int .u32 ((a0) % 4294967296)] from rfl) (Reps.one (show Kd.M (Kd.int .u32) _ _ _ ((a1) % 4294967296) [.int .u32 ((a1) % 4294967296)] from rfl) (Reps.none _ _))))))))))); intro v102 w3 ho4 hb hg_ hnew_; clear hg_ hnew_; (first | rw [← Ny101.out] at ho4 | (simp only [Int.reduceToNat] at ho4; rw [← Ny101.out] at ho4)); have n0_ := Aside0.mk (Kd.R_lower ho4 (below_size (by repeat (first | (with_reducible first | exact HB.out | apply below_alloc | apply pw_below_drewN | apply below_drew1) | exact HB.out)))); have n1_ := Aside0.mk (below_step (by repeat (first | (with_reducible first | exact HB.out | apply below_alloc | apply pw_below_drewN | apply below_drew1) | exact HB.out)) hb); clear HB; have HO103 := n0_; have HB := n1_; clear n0_ n1_; clear hb ho4))
  go_ret
  exact ⟨_, by first | rfl | (simp [errW_none, errW_some] <;> rfl) | (simp [*, errW_none, errW_some] <;> rfl), by (with_reducible repeat (first | apply Kd.R_alloc | apply Kd.R_drewN | apply Kd.R_drew)); exact HO103.out, by repeat (first | (with_reducible first | exact HB.out | apply below_alloc | apply pw_below_drewN | apply below_drew1) | exact HB.out)⟩

-- BY CONTRACT: function 68 (strconv_Itoa)

/-! ### params_kem: function 45 -/
def params_kem.f (a0 : Int) : Option (Int × Int × ByteArray × Int × Int × Int × Int × List Int × Int × Int) := (strconv_Itoa.f (wrap64 (256 * (wrap64 (a0 + 1))))).bind fun t105 => (if 7 + t105.size ≤ 9223372036854775807 then ((params_nist.f 4 a0).bind fun t106 => (some (0, 1, (⟨#[77, 76, 45, 75, 69, 77, 45]⟩ : ByteArray) ++ t105, wrap64 ((wrap64 (384 * (wrap64 (a0 + 1)))) + 32), wrap64 ((wrap64 (768 * (wrap64 (a0 + 1)))) + 96), 64, 0, t106, wrap64 ((-110) - a0), 0))) else (none))
set_option maxHeartbeats 8000000 in
set_option maxRecDepth 100000 in
theorem params_kem.calls (a0 : Int) (r1 : Int) (r2 : Int) (r3 : ByteArray) (r4 : Int) (r5 : Int) (r6 : Int) (r7 : Int) (r8 : List Int) (r9 : Int) (r10 : Int) (w : World) (HLd : LaidOk w) (h : params_kem.f a0 = some (r1, r2, r3, r4, r5, r6, r7, r8, r9, r10)) :
    Calls Tryd.prog 45 #[.int .i64 a0] w fun e w' => ∃ v7_ : Value, e = .returned (.agg #[.int .i64 r1, .int .i64 r2, .string r3, .int .i64 r4, .int .i64 r5, .int .i64 r6, .int .i64 r7, v7_, .int .i64 r9, .int .u32 r10]) ∧ Kd.R (Kd.int .u32) 27 w' w.heap.size (fun _ => True) v7_ r8 ∧ Below w.heap.size w w' := by
  have hu37 := Tryd.underlying37
  have HB := Aside0.mk (Below.refl w.heap.size w)
  have H : ((strconv_Itoa.f (wrap64 (256 * (wrap64 (a0 + 1))))).bind fun t105 => (if 7 + t105.size ≤ 9223372036854775807 then ((params_nist.f 4 a0).bind fun t106 => (some (0, 1, (⟨#[77, 76, 45, 75, 69, 77, 45]⟩ : ByteArray) ++ t105, wrap64 ((wrap64 (384 * (wrap64 (a0 + 1)))) + 32), wrap64 ((wrap64 (768 * (wrap64 (a0 + 1)))) + 96), 64, 0, t106, wrap64 ((-110) - a0), 0))) else (none))) = some (r1, r2, r3, r4, r5, r6, r7, r8, r9, r10) := h
  clear h
  replace H := Option.bind_eq_some_iff.mp H
  obtain ⟨t105, A20, H⟩ := H
  replace H : (if 7 + t105.size ≤ 9223372036854775807 then ((params_nist.f 4 a0).bind fun t106 => (some (0, 1, (⟨#[77, 76, 45, 75, 69, 77, 45]⟩ : ByteArray) ++ t105, wrap64 ((wrap64 (384 * (wrap64 (a0 + 1)))) + 32), wrap64 ((wrap64 (768 * (wrap64 (a0 + 1)))) + 96), 64, 0, t106, wrap64 ((-110) - a0), 0))) else (none)) = some (r1, r2, r3, r4, r5, r6, r7, r8, r9, r10) := H
  have A2 := Aside0.mk A20
  clear A20
  by_cases c3 : 7 + t105.size ≤ 9223372036854775807
  · rw [if_pos c3] at H
    have c3b0 := eq_true c3
    have c3b1 : decide (7 + t105.size ≤ 9223372036854775807) = true := decide_eq_true c3
    try have c3b2 : (9223372036854775807 < 7 + t105.size) = False := eq_false (Nat.not_lt.2 c3)
    replace H := Option.bind_eq_some_iff.mp H
    obtain ⟨t106, A40, H⟩ := H
    replace H : (some (0, 1, (⟨#[77, 76, 45, 75, 69, 77, 45]⟩ : ByteArray) ++ t105, wrap64 ((wrap64 (384 * (wrap64 (a0 + 1)))) + 32), wrap64 ((wrap64 (768 * (wrap64 (a0 + 1)))) + 96), 64, 0, t106, wrap64 ((-110) - a0), 0)) = some (r1, r2, r3, r4, r5, r6, r7, r8, r9, r10) := H
    have A4 := Aside0.mk A40
    clear A40
    simp only [Option.some.injEq, Prod.mk.injEq] at H
    obtain ⟨rfl, rfl, rfl, rfl, rfl, rfl, rfl, rfl, rfl, rfl⟩ := H
    go_enter Tryd.func45, Tryd.ntmps45
    go_wp2_with (first | ((with_reducible refine gate_dst (N := 2) rfl ?_); refine box_event ?hg (N := 2) ?hd (cs := #[.int .i64 0, .int .i64 0, .string (⟨#[]⟩ : ByteArray), .int .i64 0, .int .i64 0, .int .i64 0, .int .i64 0, .slice none 0 0, .int .i64 0, .int .u32 0]) (t := 37) ?hr ?_; (case hd => rfl); (case hg => rfl); (case hr => first | (go_simp; done) | (go_simp; rfl)); intro gb104 hg w5 hbox hb; have n0_ := Aside0.mk (below_step (by repeat (first | (with_reducible first | exact HB.out | apply below_alloc | apply pw_below_drewN | apply below_drew1) | exact HB.out)) hb); have n1_ := Aside0.mk (hbox); have n2_ := Aside0.mk ((by rw [hg]; exact (below_size (by repeat (first | (with_reducible first | exact HB.out | apply below_alloc | apply pw_below_drewN | apply below_drew1) | exact HB.out))) : w.heap.size ≤ gb104)); have n3_ := Aside0.mk ((by rw [hg]; exact (below_size (by repeat (first | (with_reducible first | exact HB.out | apply below_alloc | apply pw_below_drewN | apply below_drew1) | exact HB.out))) : w.heap.size ≤ gb104)); clear HB; have HB := n0_; have BK104 := n1_; have GW104 := n2_; have GE104 := n3_; clear n0_ n1_ n2_ n3_; clear hb hbox hg) | ((with_reducible refine gate_callee (f := 68) rfl ?_); refine goesL_ (some 8) rfl rfl Tryd.func68 (by kernel_rfl) rfl #[.int .i64 (wrap64 (256 * (wrap64 (a0 + 1))))] rfl (by (try simp only [List.map_toArray, List.map_cons, List.map_nil]); first | done | rfl | (simp only [List.length_drop, List.length_take]; rfl)) ?_; (with_reducible refine (strconv_Itoa.calls (wrap64 (256 * (wrap64 (a0 + 1)))) t105 _ ?side1 A2.out).mono ?_); (case side1 => first | exact HLd | (exact LaidOk.below HLd (by repeat (first | (with_reducible first | exact HB.out | apply below_alloc | apply pw_below_drewN | apply below_drew1) | exact HB.out))) | (repeat (first | exact HLd | apply LaidOk.drewN | apply LaidOk.drew | apply LaidOk.alloc))); rintro e w6 ⟨rfl, hb⟩; refine ⟨_, rfl, ?_⟩; have n0_ := Aside0.mk (blk_below (g := gb104) (o := .cells #[.int .i64 0, .int .i64 0, .string (⟨#[]⟩ : ByteArray), .int .i64 0, .int .i64 0, .int .i64 0, .int .i64 0, .slice none 0 0, .int .i64 0, .int .u32 0] 37 (0, 0)) (by (with_reducible repeat (first | refine blk_drewN ?_ _ | refine blk_drew ?_ | refine blk_alloc ?_ _)); exact BK104.out) hb); have n1_ := Aside0.mk (below_step (by repeat (first | (with_reducible first | exact HB.out | apply below_alloc | apply pw_below_drewN | apply below_drew1 | refine below_set ?_ GE104.out) | exact HB.out)) hb); clear BK104; clear HB; have BK104 := n0_; have HB := n1_; clear n0_ n1_; (try clear hb); (try clear hb2); (try clear hk); (try clear hi)) | ((with_reducible refine gate_callee (f := 49) rfl ?_); refine goesL_ (some 17) rfl rfl Tryd.func49 (by kernel_rfl) rfl #[.int .i64 4, .int .i64 a0] rfl (by (try simp only [List.map_toArray, List.map_cons, List.map_nil]); first | done | rfl | (simp only [List.length_drop, List.length_take]; rfl)) ?_; (with_reducible refine (params_nist.calls 4 a0 t106 _ A4.out).mono ?_); rintro e w7 ⟨v107, rfl, ho0, hb⟩; refine ⟨_, rfl, ?_⟩; have n0_ := Aside0.mk (Kd.R_lower ho0 (below_size (by repeat (first | (with_reducible first | exact HB.out | apply below_alloc | apply pw_below_drewN | apply below_drew1 | refine below_set ?_ GE104.out) | exact HB.out)))); have n1_ := Aside0.mk (blk_below (g := gb104) (o := .cells #[.int .i64 0, .int .i64 0, .string (⟨#[]⟩ : ByteArray), .int .i64 0, .int .i64 0, .int .i64 0, .int .i64 0, .slice none 0 0, .int .i64 0, .int .u32 0] 37 (0, 0)) (by (with_reducible repeat (first | refine blk_drewN ?_ _ | refine blk_drew ?_ | refine blk_alloc ?_ _)); exact BK104.out) hb); have n2_ := Aside0.mk (below_step (by repeat (first | (with_reducible first | exact HB.out | apply below_alloc | apply pw_below_drewN | apply below_drew1 | refine below_set ?_ GE104.out) | exact HB.out)) hb); clear BK104; clear HB; have HO108 := n0_; have BK104 := n1_; have HB := n2_; clear n0_ n1_ n2_; (try clear hb); (try clear hb2); (try clear hk); (try clear hi); (try clear ho0); obtain ⟨Ao8, co8, eo8⟩ := Kd.R_slice HO108.out; subst eo8; have hcz9_0 : w7.cell? ⟨gb104, 0, none⟩ = some (.int .i64 0) := (blk_cell BK104.out 0).trans rfl; have hcz9_1 : w7.cell? ⟨gb104, 1, none⟩ = some (.int .i64 0) := (blk_cell BK104.out 1).trans rfl; have hcz9_2 : w7.cell? ⟨gb104, 2, none⟩ = some (.string (⟨#[]⟩ : ByteArray)) := (blk_cell BK104.out 2).trans rfl; have hcz9_3 : w7.cell? ⟨gb104, 3, none⟩ = some (.int .i64 0) := (blk_cell BK104.out 3).trans rfl; have hcz9_4 : w7.cell? ⟨gb104, 4, none⟩ = some (.int .i64 0) := (blk_cell BK104.out 4).trans rfl; have hcz9_5 : w7.cell? ⟨gb104, 5, none⟩ = some (.int .i64 0) := (blk_cell BK104.out 5).trans rfl; have hcz9_6 : w7.cell? ⟨gb104, 6, none⟩ = some (.int .i64 0) := (blk_cell BK104.out 6).trans rfl; have hcz9_7 : w7.cell? ⟨gb104, 7, none⟩ = some (.slice none 0 0) := (blk_cell BK104.out 7).trans rfl; have hcz9_8 : w7.cell? ⟨gb104, 8, none⟩ = some (.int .i64 0) := (blk_cell BK104.out 8).trans rfl; have hcz9_9 : w7.cell? ⟨gb104, 9, none⟩ = some (.int .u32 0) := (blk_cell BK104.out 9).trans rfl; have hfz9_0 := blk_frozen BK104.out 0; have hfz9_1 := blk_frozen BK104.out 1; have hfz9_2 := blk_frozen BK104.out 2; have hfz9_3 := blk_frozen BK104.out 3; have hfz9_4 := blk_frozen BK104.out 4; have hfz9_5 := blk_frozen BK104.out 5; have hfz9_6 := blk_frozen BK104.out 6; have hfz9_7 := blk_frozen BK104.out 7; have hfz9_8 := blk_frozen BK104.out 8; have hfz9_9 := blk_frozen BK104.out 9))
    refine bodyPost_ret (results_cell_row rfl _ _ gb104 37 #[.int .i64 0, .int .i64 1, .string ((⟨#[77, 76, 45, 75, 69, 77, 45]⟩ : ByteArray) ++ t105), .int .i64 (wrap64 ((wrap64 (384 * (wrap64 (a0 + 1)))) + 32)), .int .i64 (wrap64 ((wrap64 (768 * (wrap64 (a0 + 1)))) + 96)), .int .i64 64, .int .i64 0, .slice Ao8 t106.length co8, .int .i64 (wrap64 ((-110) - a0)), .int .u32 0] (0, 0) _ rfl (by (with_reducible repeat (first | refine blk_drewN ?_ _ | refine blk_drew ?_ | refine blk_alloc ?_ _)); refine blk_put (cs := #[.int .i64 0, .int .i64 1, .string ((⟨#[77, 76, 45, 75, 69, 77, 45]⟩ : ByteArray) ++ t105), .int .i64 (wrap64 ((wrap64 (384 * (wrap64 (a0 + 1)))) + 32)), .int .i64 (wrap64 ((wrap64 (768 * (wrap64 (a0 + 1)))) + 96)), .int .i64 64, .int .i64 0, .slice Ao8 t106.length co8, .int .i64 (wrap64 ((-110) - a0)), .int .u32 0]) ?_ 9 _ rfl; (with_reducible repeat (first | refine blk_drewN ?_ _ | refine blk_drew ?_ | refine blk_alloc ?_ _)); refine blk_put (cs := #[.int .i64 0, .int .i64 1, .string ((⟨#[77, 76, 45, 75, 69, 77, 45]⟩ : ByteArray) ++ t105), .int .i64 (wrap64 ((wrap64 (384 * (wrap64 (a0 + 1)))) + 32)), .int .i64 (wrap64 ((wrap64 (768 * (wrap64 (a0 + 1)))) + 96)), .int .i64 64, .int .i64 0, .slice Ao8 t106.length co8, .int .i64 0, .int .u32 0]) ?_ 8 _ rfl; (with_reducible repeat (first | refine blk_drewN ?_ _ | refine blk_drew ?_ | refine blk_alloc ?_ _)); refine blk_put (cs := #[.int .i64 0, .int .i64 1, .string ((⟨#[77, 76, 45, 75, 69, 77, 45]⟩ : ByteArray) ++ t105), .int .i64 (wrap64 ((wrap64 (384 * (wrap64 (a0 + 1)))) + 32)), .int .i64 (wrap64 ((wrap64 (768 * (wrap64 (a0 + 1)))) + 96)), .int .i64 64, .int .i64 0, .slice none 0 0, .int .i64 0, .int .u32 0]) ?_ 7 _ rfl; (with_reducible repeat (first | refine blk_drewN ?_ _ | refine blk_drew ?_ | refine blk_alloc ?_ _)); refine blk_put (cs := #[.int .i64 0, .int .i64 1, .string ((⟨#[77, 76, 45, 75, 69, 77, 45]⟩ : ByteArray) ++ t105), .int .i64 (wrap64 ((wrap64 (384 * (wrap64 (a0 + 1)))) + 32)), .int .i64 (wrap64 ((wrap64 (768 * (wrap64 (a0 + 1)))) + 96)), .int .i64 64, .int .i64 0, .slice none 0 0, .int .i64 0, .int .u32 0]) ?_ 6 _ rfl; (with_reducible repeat (first | refine blk_drewN ?_ _ | refine blk_drew ?_ | refine blk_alloc ?_ _)); refine blk_put (cs := #[.int .i64 0, .int .i64 1, .string ((⟨#[77, 76, 45, 75, 69, 77, 45]⟩ : ByteArray) ++ t105), .int .i64 (wrap64 ((wrap64 (384 * (wrap64 (a0 + 1)))) + 32)), .int .i64 (wrap64 ((wrap64 (768 * (wrap64 (a0 + 1)))) + 96)), .int .i64 0, .int .i64 0, .slice none 0 0, .int .i64 0, .int .u32 0]) ?_ 5 _ rfl; (with_reducible repeat (first | refine blk_drewN ?_ _ | refine blk_drew ?_ | refine blk_alloc ?_ _)); refine blk_put (cs := #[.int .i64 0, .int .i64 1, .string ((⟨#[77, 76, 45, 75, 69, 77, 45]⟩ : ByteArray) ++ t105), .int .i64 (wrap64 ((wrap64 (384 * (wrap64 (a0 + 1)))) + 32)), .int .i64 0, .int .i64 0, .int .i64 0, .slice none 0 0, .int .i64 0, .int .u32 0]) ?_ 4 _ rfl; (with_reducible repeat (first | refine blk_drewN ?_ _ | refine blk_drew ?_ | refine blk_alloc ?_ _)); refine blk_put (cs := #[.int .i64 0, .int .i64 1, .string ((⟨#[77, 76, 45, 75, 69, 77, 45]⟩ : ByteArray) ++ t105), .int .i64 0, .int .i64 0, .int .i64 0, .int .i64 0, .slice none 0 0, .int .i64 0, .int .u32 0]) ?_ 3 _ rfl; (with_reducible repeat (first | refine blk_drewN ?_ _ | refine blk_drew ?_ | refine blk_alloc ?_ _)); refine blk_put (cs := #[.int .i64 0, .int .i64 1, .string (⟨#[]⟩ : ByteArray), .int .i64 0, .int .i64 0, .int .i64 0, .int .i64 0, .slice none 0 0, .int .i64 0, .int .u32 0]) ?_ 2 _ rfl; (with_reducible repeat (first | refine blk_drewN ?_ _ | refine blk_drew ?_ | refine blk_alloc ?_ _)); refine blk_put (cs := #[.int .i64 0, .int .i64 0, .string (⟨#[]⟩ : ByteArray), .int .i64 0, .int .i64 0, .int .i64 0, .int .i64 0, .slice none 0 0, .int .i64 0, .int .u32 0]) ?_ 1 _ rfl; (with_reducible repeat (first | refine blk_drewN ?_ _ | refine blk_drew ?_ | refine blk_alloc ?_ _)); refine blk_put (cs := #[.int .i64 0, .int .i64 0, .string (⟨#[]⟩ : ByteArray), .int .i64 0, .int .i64 0, .int .i64 0, .int .i64 0, .slice none 0 0, .int .i64 0, .int .u32 0]) ?_ 0 _ rfl; (with_reducible repeat (first | refine blk_drewN ?_ _ | refine blk_drew ?_ | refine blk_alloc ?_ _)); exact BK104.out) Tryd.underlying37 rfl (by kernel_rfl)) rfl ?_
    exact ⟨_, by first | rfl | (simp [errW_none, errW_some] <;> rfl) | (simp [*, errW_none, errW_some] <;> rfl), by (with_reducible repeat (first | apply Kd.R_alloc | apply Kd.R_drewN | apply Kd.R_drew)); exact Kd.R_mono (Kd.R_far (p := ⟨gb104, 9, none⟩) (Kd.R_far (p := ⟨gb104, 8, none⟩) (Kd.R_far (p := ⟨gb104, 7, none⟩) (Kd.R_far (p := ⟨gb104, 6, none⟩) (Kd.R_far (p := ⟨gb104, 5, none⟩) (Kd.R_far (p := ⟨gb104, 4, none⟩) (Kd.R_far (p := ⟨gb104, 3, none⟩) (Kd.R_far (p := ⟨gb104, 2, none⟩) (Kd.R_far (p := ⟨gb104, 1, none⟩) (Kd.R_far (p := ⟨gb104, 0, none⟩) (Kd.R_types HO108.out BK104.out (by decide)) (fun _ hk => hk.2) (.int .i64 0)) (fun _ hk => hk.2) (.int .i64 1)) (fun _ hk => hk.2) (.string ((⟨#[77, 76, 45, 75, 69, 77, 45]⟩ : ByteArray) ++ t105))) (fun _ hk => hk.2) (.int .i64 (wrap64 ((wrap64 (384 * (wrap64 (a0 + 1)))) + 32)))) (fun _ hk => hk.2) (.int .i64 (wrap64 ((wrap64 (768 * (wrap64 (a0 + 1)))) + 96)))) (fun _ hk => hk.2) (.int .i64 64)) (fun _ hk => hk.2) (.int .i64 0)) (fun _ hk => hk.2) (.slice Ao8 t106.length co8)) (fun _ hk => hk.2) (.int .i64 (wrap64 ((-110) - a0)))) (fun _ hk => hk.2) (.int .u32 0)) (fun _ hk => trivial), by repeat (first | (with_reducible first | exact HB.out | apply below_alloc | apply pw_below_drewN | apply below_drew1 | refine below_set ?_ GE104.out) | exact HB.out)⟩
  · rw [if_neg c3] at H
    exact absurd H (by simp)

-- BY CONTRACT: function 13 (oid_Parse)

/-! ### params_of: function 47 -/
def params_of.f (a0 : ByteArray) : Option (List Int) := (oid_Parse.f a0).bind fun bt109 => (some bt109.1)
set_option maxHeartbeats 8000000 in
set_option maxRecDepth 100000 in
theorem params_of.calls (a0 : ByteArray) (r : List Int) (w : World) (HLd : LaidOk w) (h : params_of.f a0 = some r) :
    Calls Tryd.prog 47 #[.string a0] w fun e w' => ∃ v0_ : Value, e = .returned (v0_) ∧ Kd.R (Kd.int .u32) 27 w' w.heap.size (fun _ => True) v0_ r ∧ Below w.heap.size w w' := by
  have HB := Aside0.mk (Below.refl w.heap.size w)
  have H : ((oid_Parse.f a0).bind fun bt109 => (some bt109.1)) = some r := h
  clear h
  replace H := Option.bind_eq_some_iff.mp H
  obtain ⟨⟨t109, t110⟩, A20, H⟩ := H
  replace H : (some t109) = some r := H
  have A2 := Aside0.mk A20
  clear A20
  obtain rfl := Option.some.inj H
  go_enter Tryd.func47, Tryd.ntmps47
  go_wp2_with (first | ((with_reducible refine gate_callee (f := 13) rfl ?_); refine goesL_ (some 7) rfl rfl Tryd.func13 (by kernel_rfl) rfl #[.string a0] rfl (by (try simp only [List.map_toArray, List.map_cons, List.map_nil]); first | done | rfl | (simp only [List.length_drop, List.length_take]; rfl)) ?_; (with_reducible refine (oid_Parse.calls a0 t109 t110 _ ?side1 A2.out).mono ?_); (case side1 => first | exact HLd | (exact LaidOk.below HLd (by repeat (first | (with_reducible first | exact HB.out | apply below_alloc | apply pw_below_drewN | apply below_drew1) | exact HB.out))) | (repeat (first | exact HLd | apply LaidOk.drewN | apply LaidOk.drew | apply LaidOk.alloc))); rintro e w3 ⟨v111, rfl, ho0, hb⟩; refine ⟨_, rfl, ?_⟩; have n0_ := Aside0.mk (Kd.R_lower ho0 (below_size (by repeat (first | (with_reducible first | exact HB.out | apply below_alloc | apply pw_below_drewN | apply below_drew1) | exact HB.out)))); have n1_ := Aside0.mk (below_step (by repeat (first | (with_reducible first | exact HB.out | apply below_alloc | apply pw_below_drewN | apply below_drew1) | exact HB.out)) hb); clear HB; have HO112 := n0_; have HB := n1_; clear n0_ n1_; (try clear hb); (try clear hb2); (try clear hk); (try clear hi); (try clear ho0)))
  go_ret
  exact ⟨_, by first | rfl | (simp [errW_none, errW_some] <;> rfl) | (simp [*, errW_none, errW_some] <;> rfl), by (with_reducible repeat (first | apply Kd.R_alloc | apply Kd.R_drewN | apply Kd.R_drew)); exact HO112.out, by repeat (first | (with_reducible first | exact HB.out | apply below_alloc | apply pw_below_drewN | apply below_drew1) | exact HB.out)⟩

end Go.Proofs.YtjoncjnmhhimhaaDoor.PParT
end

section
/- The constant arrays of package params: what an index gives. -/
namespace Go.Proofs.YtjoncjnmhhimhaaDoor.Hand
set_option linter.unusedVariables false
set_option linter.unusedSimpArgs false
open Go.RowKit

def arr3 (j : Int) : Int := [10, 16, 20].getD j.toNat 0
theorem arr3_index (e : Int) (h0 : 0 ≤ e) (h3 : e < 3) (W : World) :
    (Instr.index 92 (.agg #[.int .i64 10, .int .i64 16, .int .i64 20]) (.int .i64 e)).run Tryd.prog W = .ok (.int .i64 (arr3 e)) W := by
  have q0 : ∀ W, (Instr.index 92 (.agg #[.int .i64 10, .int .i64 16, .int .i64 20]) (.int .i64 0)).run Tryd.prog W = .ok (.int .i64 10) W := fun _ => by kernel_rfl
  have q1 : ∀ W, (Instr.index 92 (.agg #[.int .i64 10, .int .i64 16, .int .i64 20]) (.int .i64 1)).run Tryd.prog W = .ok (.int .i64 16) W := fun _ => by kernel_rfl
  have q2 : ∀ W, (Instr.index 92 (.agg #[.int .i64 10, .int .i64 16, .int .i64 20]) (.int .i64 2)).run Tryd.prog W = .ok (.int .i64 20) W := fun _ => by kernel_rfl
  obtain ⟨m, rfl⟩ := Int.eq_ofNat_of_zero_le h0
  have : m = 0 ∨ m = 1 ∨ m = 2 := by omega
  rcases this with rfl | rfl | rfl
  · exact q0 W
  · exact q1 W
  · exact q2 W
end Go.Proofs.YtjoncjnmhhimhaaDoor.Hand
end

section
-- Written by the kit's print.py, driven by this place's wip/tools/myprint.py. Not trusted: Lean checks it.
namespace Go.Proofs.YtjoncjnmhhimhaaDoor.PParX
open Go.RowKit Go.Proofs.YtjoncjnmhhimhaaDoor.Hand Go.Proofs.YtjoncjnmhhimhaaDoor.PParT Go.Proofs.YtjoncjnmhhimhaaDoorW.PrintWords Go.Proofs.YtjoncjnmhhimhaaDoorW.PrintLast Go.Proofs.YtjoncjnmhhimhaaDoorW.PrintMore
attribute [local go_sem] max2_int min2_int max_two min_two max_three min_three max_four min_four   -- for this text's walks alone
set_option linter.unusedVariables false
set_option linter.unusedSimpArgs false



def errW : Option Int → Value
  | none => .nilIface
  | some c => .iface 0 (.int .i64 c)
theorem errW_none : errW none = .nilIface := rfl
theorem errW_some (c : Int) : errW (some c) = .iface 0 (.int .i64 c) := rfl

-- the values' own types
def rd_L2 (xs : List (List Int)) (i : Int) : (List Int) := xs.getD i.toNat ([] : List Int)
theorem at_L2 {w : World} {A : Option Addr} {n : Nat} {xs : List (List Int)} (h : Kd.C (Kd.slice 27 (Kd.int .u32)) w A n xs) (i : Int) (h0 : 0 ≤ i) (h1 : i < n) : ∃ ad A0 c0, A = some ad ∧ w.cell? (ad.add i.toNat) = some (.slice A0 (rd_L2 xs i).length c0) ∧ (rd_L2 xs i).length ≤ c0 ∧ (Kd.int .u32).C w A0 (rd_L2 xs i).length (rd_L2 xs i) := by
  obtain ⟨ad, c, e, _, hK, hc0⟩ := Kd.C_get h ([] : List Int) i h0 h1
  have hc : ∀ j u, c[j]? = some u → w.cell? (ad.add (i.toNat * 1 + j)) = some u := hc0
  obtain ⟨A0, c0, rfl, l0, g0⟩ := hK
  exact ⟨ad, A0, c0, e, by have hq := hc 0 _ rfl; rwa [Nat.mul_one, Nat.add_zero] at hq, l0, g0⟩

end Go.Proofs.YtjoncjnmhhimhaaDoor.PParX
namespace Go.Proofs.YtjoncjnmhhimhaaDoor.PParX
open Go.RowKit Go.Proofs.YtjoncjnmhhimhaaDoor.Hand Go.Proofs.YtjoncjnmhhimhaaDoor.PParT Go.Proofs.YtjoncjnmhhimhaaDoorW.PrintWords Go.Proofs.YtjoncjnmhhimhaaDoorW.PrintLast Go.Proofs.YtjoncjnmhhimhaaDoorW.PrintMore
attribute [local go_sem] max2_int min2_int max_two min_two max_three min_three max_four min_four   -- for this text's walks alone
set_option linter.unusedVariables false
set_option linter.unusedSimpArgs false

-- BY CONTRACT: function 47 (params_of)

-- BY CONTRACT: function 68 (strconv_Itoa)

/-! ### params_xmss: function 48 -/
def params_xmss.f (a0 : Int) : Option (Int × Int × ByteArray × Int × Int × Int × Int × List Int × Int × Int) := if 0 ≤ (wrap64 (Int.tdiv (wrap64 (a0 - 20)) 3)) then (if 0 ≤ (Int.tmod (wrap64 (a0 - 20)) 3) then (if (Int.tmod (wrap64 (a0 - 20)) 3) < 3 then ((strconv_Itoa.f (arr3 (Int.tmod (wrap64 (a0 - 20)) 3))).bind fun t102 => (if 10 + t102.size ≤ 9223372036854775807 then (if ((⟨#[88, 77, 83, 83, 45, 83, 72, 65, 50, 95]⟩ : ByteArray) ++ t102).size + 1 ≤ 9223372036854775807 then ((strconv_Itoa.f (wrap64 (8 * (shl .i64 32 (wrap64 (Int.tdiv (wrap64 (a0 - 20)) 3)))))).bind fun t103 => (if (((⟨#[88, 77, 83, 83, 45, 83, 72, 65, 50, 95]⟩ : ByteArray) ++ t102) ++ (⟨#[95]⟩ : ByteArray)).size + t103.size ≤ 9223372036854775807 then ((params_of.f (⟨#[49, 46, 51, 46, 54, 46, 49, 46, 53, 46, 53, 46, 55, 46, 54, 46, 51, 52]⟩ : ByteArray)).bind fun t104 => (some (0, 5, (((⟨#[88, 77, 83, 83, 45, 83, 72, 65, 50, 95]⟩ : ByteArray) ++ t102) ++ (⟨#[95]⟩ : ByteArray)) ++ t103, wrap64 (4 + (wrap64 (2 * (shl .i64 32 (wrap64 (Int.tdiv (wrap64 (a0 - 20)) 3)))))), 0, 0, wrap64 (4 + (wrap64 ((shl .i64 32 (wrap64 (Int.tdiv (wrap64 (a0 - 20)) 3))) * (wrap64 ((wrap64 ((wrap64 (1 + (wrap64 (2 * (shl .i64 32 (wrap64 (Int.tdiv (wrap64 (a0 - 20)) 3))))))) + 3)) + (arr3 (Int.tmod (wrap64 (a0 - 20)) 3))))))), t104, 0, (wrap64 ((wrap64 (a0 - 20)) + 1)) % 4294967296))) else (none))) else (none)) else (none))) else (none)) else (none)) else (none)
set_option maxHeartbeats 8000000 in
set_option maxRecDepth 100000 in
theorem params_xmss.calls (a0 : Int) (r1 : Int) (r2 : Int) (r3 : ByteArray) (r4 : Int) (r5 : Int) (r6 : Int) (r7 : Int) (r8 : List Int) (r9 : Int) (r10 : Int) (w : World) (HLd : LaidOk w) (h : params_xmss.f a0 = some (r1, r2, r3, r4, r5, r6, r7, r8, r9, r10)) :
    Calls Tryd.prog 48 #[.int .i64 a0] w fun e w' => ∃ v7_ : Value, e = .returned (.agg #[.int .i64 r1, .int .i64 r2, .string r3, .int .i64 r4, .int .i64 r5, .int .i64 r6, .int .i64 r7, v7_, .int .i64 r9, .int .u32 r10]) ∧ Kd.R (Kd.int .u32) 27 w' w.heap.size (fun _ => True) v7_ r8 ∧ Below w.heap.size w w' := by
  have hu37 := Tryd.underlying37
  have HB := Aside0.mk (Below.refl w.heap.size w)
  have H : (if 0 ≤ (wrap64 (Int.tdiv (wrap64 (a0 - 20)) 3)) then (if 0 ≤ (Int.tmod (wrap64 (a0 - 20)) 3) then (if (Int.tmod (wrap64 (a0 - 20)) 3) < 3 then ((strconv_Itoa.f (arr3 (Int.tmod (wrap64 (a0 - 20)) 3))).bind fun t102 => (if 10 + t102.size ≤ 9223372036854775807 then (if ((⟨#[88, 77, 83, 83, 45, 83, 72, 65, 50, 95]⟩ : ByteArray) ++ t102).size + 1 ≤ 9223372036854775807 then ((strconv_Itoa.f (wrap64 (8 * (shl .i64 32 (wrap64 (Int.tdiv (wrap64 (a0 - 20)) 3)))))).bind fun t103 => (if (((⟨#[88, 77, 83, 83, 45, 83, 72, 65, 50, 95]⟩ : ByteArray) ++ t102) ++ (⟨#[95]⟩ : ByteArray)).size + t103.size ≤ 9223372036854775807 then ((params_of.f (⟨#[49, 46, 51, 46, 54, 46, 49, 46, 53, 46, 53, 46, 55, 46, 54, 46, 51, 52]⟩ : ByteArray)).bind fun t104 => (some (0, 5, (((⟨#[88, 77, 83, 83, 45, 83, 72, 65, 50, 95]⟩ : ByteArray) ++ t102) ++ (⟨#[95]⟩ : ByteArray)) ++ t103, wrap64 (4 + (wrap64 (2 * (shl .i64 32 (wrap64 (Int.tdiv (wrap64 (a0 - 20)) 3)))))), 0, 0, wrap64 (4 + (wrap64 ((shl .i64 32 (wrap64 (Int.tdiv (wrap64 (a0 - 20)) 3))) * (wrap64 ((wrap64 ((wrap64 (1 + (wrap64 (2 * (shl .i64 32 (wrap64 (Int.tdiv (wrap64 (a0 - 20)) 3))))))) + 3)) + (arr3 (Int.tmod (wrap64 (a0 - 20)) 3))))))), t104, 0, (wrap64 ((wrap64 (a0 - 20)) + 1)) % 4294967296))) else (none))) else (none)) else (none))) else (none)) else (none)) else (none)) = some (r1, r2, r3, r4, r5, r6, r7, r8, r9, r10) := h
  clear h
  obtain ⟨ji2, hji2⟩ : ∃ j_ : Int, (wrap64 (Int.tdiv (wrap64 (a0 - 20)) 3)) = j_ := ⟨_, rfl⟩
  replace H : (if 0 ≤ (ji2) then (if 0 ≤ (Int.tmod (wrap64 (a0 - 20)) 3) then (if (Int.tmod (wrap64 (a0 - 20)) 3) < 3 then ((strconv_Itoa.f (arr3 (Int.tmod (wrap64 (a0 - 20)) 3))).bind fun t102 => (if 10 + t102.size ≤ 9223372036854775807 then (if ((⟨#[88, 77, 83, 83, 45, 83, 72, 65, 50, 95]⟩ : ByteArray) ++ t102).size + 1 ≤ 9223372036854775807 then ((strconv_Itoa.f (wrap64 (8 * (shl .i64 32 (ji2))))).bind fun t103 => (if (((⟨#[88, 77, 83, 83, 45, 83, 72, 65, 50, 95]⟩ : ByteArray) ++ t102) ++ (⟨#[95]⟩ : ByteArray)).size + t103.size ≤ 9223372036854775807 then ((params_of.f (⟨#[49, 46, 51, 46, 54, 46, 49, 46, 53, 46, 53, 46, 55, 46, 54, 46, 51, 52]⟩ : ByteArray)).bind fun t104 => (some (0, 5, (((⟨#[88, 77, 83, 83, 45, 83, 72, 65, 50, 95]⟩ : ByteArray) ++ t102) ++ (⟨#[95]⟩ : ByteArray)) ++ t103, wrap64 (4 + (wrap64 (2 * (shl .i64 32 (ji2))))), 0, 0, wrap64 (4 + (wrap64 ((shl .i64 32 (ji2)) * (wrap64 ((wrap64 ((wrap64 (1 + (wrap64 (2 * (shl .i64 32 (ji2)))))) + 3)) + (arr3 (Int.tmod (wrap64 (a0 - 20)) 3))))))), t104, 0, (wrap64 ((wrap64 (a0 - 20)) + 1)) % 4294967296))) else (none))) else (none)) else (none))) else (none)) else (none)) else (none)) = some (r1, r2, r3, r4, r5, r6, r7, r8, r9, r10) := by first | (rw [hji2] at H; exact H) | (simp only [hji2] at H ⊢; exact H)
  have hji2w : (IntKind.i64.wrap (Int.tdiv (wrap64 (a0 - 20)) 3)) = ji2 := (i64_w _).trans hji2
  by_cases c3 : 0 ≤ (ji2)
  · rw [if_pos c3] at H
    have c3b0 := eq_true c3
    have c3b1 : decide (0 ≤ (ji2)) = true := decide_eq_true c3
    clear c3
    obtain ⟨ji4, hji4⟩ : ∃ j_ : Int, (shl .i64 32 (ji2)) = j_ := ⟨_, rfl⟩
    replace H : (if 0 ≤ (Int.tmod (wrap64 (a0 - 20)) 3) then (if (Int.tmod (wrap64 (a0 - 20)) 3) < 3 then ((strconv_Itoa.f (arr3 (Int.tmod (wrap64 (a0 - 20)) 3))).bind fun t102 => (if 10 + t102.size ≤ 9223372036854775807 then (if ((⟨#[88, 77, 83, 83, 45, 83, 72, 65, 50, 95]⟩ : ByteArray) ++ t102).size + 1 ≤ 9223372036854775807 then ((strconv_Itoa.f (wrap64 (8 * (ji4)))).bind fun t103 => (if (((⟨#[88, 77, 83, 83, 45, 83, 72, 65, 50, 95]⟩ : ByteArray) ++ t102) ++ (⟨#[95]⟩ : ByteArray)).size + t103.size ≤ 9223372036854775807 then ((params_of.f (⟨#[49, 46, 51, 46, 54, 46, 49, 46, 53, 46, 53, 46, 55, 46, 54, 46, 51, 52]⟩ : ByteArray)).bind fun t104 => (some (0, 5, (((⟨#[88, 77, 83, 83, 45, 83, 72, 65, 50, 95]⟩ : ByteArray) ++ t102) ++ (⟨#[95]⟩ : ByteArray)) ++ t103, wrap64 (4 + (wrap64 (2 * (ji4)))), 0, 0, wrap64 (4 + (wrap64 ((ji4) * (wrap64 ((wrap64 ((wrap64 (1 + (wrap64 (2 * (ji4))))) + 3)) + (arr3 (Int.tmod (wrap64 (a0 - 20)) 3))))))), t104, 0, (wrap64 ((wrap64 (a0 - 20)) + 1)) % 4294967296))) else (none))) else (none)) else (none))) else (none)) else (none)) = some (r1, r2, r3, r4, r5, r6, r7, r8, r9, r10) := by first | (rw [hji4] at H; exact H) | (simp only [hji4] at H ⊢; exact H)
    have hji4_ : (IntKind.i64.wrap (32 * 2 ^ min (ji2).toNat 64)) = ji4 := hji4
    have hji4z : (ji2) ≤ 64 → (IntKind.i64.wrap (32 * 2 ^ (ji2).toNat)) = ji4 := shl_small hji4
    have hji4y : (wrap64 (32 * 2 ^ min (ji2).toNat 64)) = ji4 := (i64_w _).symm.trans hji4_
    have hji4x : (ji2) ≤ 64 → (wrap64 (32 * 2 ^ (ji2).toNat)) = ji4 := fun h_ => (i64_w _).symm.trans (hji4z h_)
    obtain ⟨ji5, hji5⟩ : ∃ j_ : Int, (Int.tmod (wrap64 (a0 - 20)) 3) = j_ := ⟨_, rfl⟩
    replace H : (if 0 ≤ (ji5) then (if (ji5) < 3 then ((strconv_Itoa.f (arr3 (ji5))).bind fun t102 => (if 10 + t102.size ≤ 9223372036854775807 then (if ((⟨#[88, 77, 83, 83, 45, 83, 72, 65, 50, 95]⟩ : ByteArray) ++ t102).size + 1 ≤ 9223372036854775807 then ((strconv_Itoa.f (wrap64 (8 * (ji4)))).bind fun t103 => (if (((⟨#[88, 77, 83, 83, 45, 83, 72, 65, 50, 95]⟩ : ByteArray) ++ t102) ++ (⟨#[95]⟩ : ByteArray)).size + t103.size ≤ 9223372036854775807 then ((params_of.f (⟨#[49, 46, 51, 46, 54, 46, 49, 46, 53, 46, 53, 46, 55, 46, 54, 46, 51, 52]⟩ : ByteArray)).bind fun t104 => (some (0, 5, (((⟨#[88, 77, 83, 83, 45, 83, 72, 65, 50, 95]⟩ : ByteArray) ++ t102) ++ (⟨#[95]⟩ : ByteArray)) ++ t103, wrap64 (4 + (wrap64 (2 * (ji4)))), 0, 0, wrap64 (4 + (wrap64 ((ji4) * (wrap64 ((wrap64 ((wrap64 (1 + (wrap64 (2 * (ji4))))) + 3)) + (arr3 (ji5))))))), t104, 0, (wrap64 ((wrap64 (a0 - 20)) + 1)) % 4294967296))) else (none))) else (none)) else (none))) else (none)) else (none)) = some (r1, r2, r3, r4, r5, r6, r7, r8, r9, r10) := by first | (rw [hji5] at H; exact H) | (simp only [hji5] at H ⊢; exact H)
    by_cases c6 : 0 ≤ (ji5)
    · rw [if_pos c6] at H
      have c6b0 : decide (0 ≤ (ji5)) = true := decide_eq_true c6
      clear c6
      by_cases c7 : (ji5) < 3
      · rw [if_pos c7] at H
        have c7b0 : decide ((ji5) < 3) = true := decide_eq_true c7
        clear c7
        replace H := Option.bind_eq_some_iff.mp H
        obtain ⟨t102, A80, H⟩ := H
        replace H : (if 10 + t102.size ≤ 9223372036854775807 then (if ((⟨#[88, 77, 83, 83, 45, 83, 72, 65, 50, 95]⟩ : ByteArray) ++ t102).size + 1 ≤ 9223372036854775807 then ((strconv_Itoa.f (wrap64 (8 * (ji4)))).bind fun t103 => (if (((⟨#[88, 77, 83, 83, 45, 83, 72, 65, 50, 95]⟩ : ByteArray) ++ t102) ++ (⟨#[95]⟩ : ByteArray)).size + t103.size ≤ 9223372036854775807 then ((params_of.f (⟨#[49, 46, 51, 46, 54, 46, 49, 46, 53, 46, 53, 46, 55, 46, 54, 46, 51, 52]⟩ : ByteArray)).bind fun t104 => (some (0, 5, (((⟨#[88, 77, 83, 83, 45, 83, 72, 65, 50, 95]⟩ : ByteArray) ++ t102) ++ (⟨#[95]⟩ : ByteArray)) ++ t103, wrap64 (4 + (wrap64 (2 * (ji4)))), 0, 0, wrap64 (4 + (wrap64 ((ji4) * (wrap64 ((wrap64 ((wrap64 (1 + (wrap64 (2 * (ji4))))) + 3)) + (arr3 (ji5))))))), t104, 0, (wrap64 ((wrap64 (a0 - 20)) + 1)) % 4294967296))) else (none))) else (none)) else (none)) = some (r1, r2, r3, r4, r5, r6, r7, r8, r9, r10) := H
        have A8 := Aside0.mk A80
        clear A80
        by_cases c9 : 10 + t102.size ≤ 9223372036854775807
        · rw [if_pos c9] at H
          have c9b0 := eq_true c9
          have c9b1 : decide (10 + t102.size ≤ 9223372036854775807) = true := decide_eq_true c9
          try have c9b2 : (9223372036854775807 < 10 + t102.size) = False := eq_false (Nat.not_lt.2 c9)
          by_cases c10 : ((⟨#[88, 77, 83, 83, 45, 83, 72, 65, 50, 95]⟩ : ByteArray) ++ t102).size + 1 ≤ 9223372036854775807
          · rw [if_pos c10] at H
            have c10b0 := eq_true c10
            have c10b1 : decide (((⟨#[88, 77, 83, 83, 45, 83, 72, 65, 50, 95]⟩ : ByteArray) ++ t102).size + 1 ≤ 9223372036854775807) = true := decide_eq_true c10
            try have c10b2 : (9223372036854775807 < ((⟨#[88, 77, 83, 83, 45, 83, 72, 65, 50, 95]⟩ : ByteArray) ++ t102).size + 1) = False := eq_false (Nat.not_lt.2 c10)
            have c10b3 : (9223372036854775807 < 10 + t102.size + 1) = False := by
              have hs_ := c10
              simp only [ByteArray.size_append] at hs_
              have l0_ : (⟨#[88, 77, 83, 83, 45, 83, 72, 65, 50, 95]⟩ : ByteArray).size = 10 := rfl
              exact eq_false (by omega)
            replace H := Option.bind_eq_some_iff.mp H
            obtain ⟨t103, A110, H⟩ := H
            replace H : (if (((⟨#[88, 77, 83, 83, 45, 83, 72, 65, 50, 95]⟩ : ByteArray) ++ t102) ++ (⟨#[95]⟩ : ByteArray)).size + t103.size ≤ 9223372036854775807 then ((params_of.f (⟨#[49, 46, 51, 46, 54, 46, 49, 46, 53, 46, 53, 46, 55, 46, 54, 46, 51, 52]⟩ : ByteArray)).bind fun t104 => (some (0, 5, (((⟨#[88, 77, 83, 83, 45, 83, 72, 65, 50, 95]⟩ : ByteArray) ++ t102) ++ (⟨#[95]⟩ : ByteArray)) ++ t103, wrap64 (4 + (wrap64 (2 * (ji4)))), 0, 0, wrap64 (4 + (wrap64 ((ji4) * (wrap64 ((wrap64 ((wrap64 (1 + (wrap64 (2 * (ji4))))) + 3)) + (arr3 (ji5))))))), t104, 0, (wrap64 ((wrap64 (a0 - 20)) + 1)) % 4294967296))) else (none)) = some (r1, r2, r3, r4, r5, r6, r7, r8, r9, r10) := H
            have A11 := Aside0.mk A110
            clear A110
            by_cases c12 : (((⟨#[88, 77, 83, 83, 45, 83, 72, 65, 50, 95]⟩ : ByteArray) ++ t102) ++ (⟨#[95]⟩ : ByteArray)).size + t103.size ≤ 9223372036854775807
            · rw [if_pos c12] at H
              have c12b0 := eq_true c12
              have c12b1 : decide ((((⟨#[88, 77, 83, 83, 45, 83, 72, 65, 50, 95]⟩ : ByteArray) ++ t102) ++ (⟨#[95]⟩ : ByteArray)).size + t103.size ≤ 9223372036854775807) = true := decide_eq_true c12
              try have c12b2 : (9223372036854775807 < (((⟨#[88, 77, 83, 83, 45, 83, 72, 65, 50, 95]⟩ : ByteArray) ++ t102) ++ (⟨#[95]⟩ : ByteArray)).size + t103.size) = False := eq_false (Nat.not_lt.2 c12)
              have c12b3 : (9223372036854775807 < 10 + t102.size + 1 + t103.size) = False := by
                have hs_ := c12
                simp only [ByteArray.size_append] at hs_
                have l0_ : (⟨#[88, 77, 83, 83, 45, 83, 72, 65, 50, 95]⟩ : ByteArray).size = 10 := rfl
                have l1_ : (⟨#[95]⟩ : ByteArray).size = 1 := rfl
                exact eq_false (by omega)
              replace H := Option.bind_eq_some_iff.mp H
              obtain ⟨t104, A130, H⟩ := H
              replace H : (some (0, 5, (((⟨#[88, 77, 83, 83, 45, 83, 72, 65, 50, 95]⟩ : ByteArray) ++ t102) ++ (⟨#[95]⟩ : ByteArray)) ++ t103, wrap64 (4 + (wrap64 (2 * (ji4)))), 0, 0, wrap64 (4 + (wrap64 ((ji4) * (wrap64 ((wrap64 ((wrap64 (1 + (wrap64 (2 * (ji4))))) + 3)) + (arr3 (ji5))))))), t104, 0, (wrap64 ((wrap64 (a0 - 20)) + 1)) % 4294967296)) = some (r1, r2, r3, r4, r5, r6, r7, r8, r9, r10) := H
              have A13 := Aside0.mk A130
              clear A130
              simp only [Option.some.injEq, Prod.mk.injEq] at H
              obtain ⟨rfl, rfl, rfl, rfl, rfl, rfl, rfl, rfl, rfl, rfl⟩ := H
              have hx3 : ∀ W, (Instr.index 92 (.agg #[.int .i64 10, .int .i64 16, .int .i64 20]) (.int .i64 ji5)).run Tryd.prog W = .ok (.int .i64 (arr3 ji5)) W := fun W => arr3_index _ (of_decide_eq_true (by assumption)) (of_decide_eq_true (by assumption)) W
              go_enter Tryd.func48, Tryd.ntmps48
              go_wp2_with (first | ((with_reducible refine gate_dst (N := 2) rfl ?_); refine box_event ?hg (N := 2) ?hd (cs := #[.int .i64 0, .int .i64 0, .string (⟨#[]⟩ : ByteArray), .int .i64 0, .int .i64 0, .int .i64 0, .int .i64 0, .slice none 0 0, .int .i64 0, .int .u32 0]) (t := 37) ?hr ?_; (case hd => rfl); (case hg => rfl); (case hr => first | (go_simp; done) | (go_simp; rfl)); intro gb101 hg w14 hbox hb; have n0_ := Aside0.mk (below_step (by repeat (first | (with_reducible first | exact HB.out | apply below_alloc | apply pw_below_drewN | apply below_drew1) | exact HB.out)) hb); have n1_ := Aside0.mk (hbox); have n2_ := Aside0.mk ((by rw [hg]; exact (below_size (by repeat (first | (with_reducible first | exact HB.out | apply below_alloc | apply pw_below_drewN | apply below_drew1) | exact HB.out))) : w.heap.size ≤ gb101)); have n3_ := Aside0.mk ((by rw [hg]; exact (below_size (by repeat (first | (with_reducible first | exact HB.out | apply below_alloc | apply pw_below_drewN | apply below_drew1) | exact HB.out))) : w.heap.size ≤ gb101)); clear HB; have HB := n0_; have BK101 := n1_; have GW101 := n2_; have GE101 := n3_; clear n0_ n1_ n2_ n3_; clear hb hbox hg) | ((with_reducible refine gate_callee (f := 68) rfl ?_); refine goesL_ (some 17) rfl rfl Tryd.func68 (by kernel_rfl) rfl #[.int .i64 (arr3 (ji5))] rfl (by (try simp only [List.map_toArray, List.map_cons, List.map_nil]); first | done | (simp only [hji5]; rfl) | rfl | (simp only [List.length_drop, List.length_take]; rfl)) ?_; (with_reducible refine (strconv_Itoa.calls (arr3 (ji5)) t102 _ ?side1 A8.out).mono ?_); (case side1 => first | exact HLd | (exact LaidOk.below HLd (by repeat (first | (with_reducible first | exact HB.out | apply below_alloc | apply pw_below_drewN | apply below_drew1) | exact HB.out))) | (repeat (first | exact HLd | apply LaidOk.drewN | apply LaidOk.drew | apply LaidOk.alloc))); rintro e w15 ⟨rfl, hb⟩; refine ⟨_, rfl, ?_⟩; have n0_ := Aside0.mk (blk_below (g := gb101) (o := .cells #[.int .i64 0, .int .i64 0, .string (⟨#[]⟩ : ByteArray), .int .i64 0, .int .i64 0, .int .i64 0, .int .i64 0, .slice none 0 0, .int .i64 0, .int .u32 0] 37 (0, 0)) (by (with_reducible repeat (first | refine blk_drewN ?_ _ | refine blk_drew ?_ | refine blk_alloc ?_ _)); exact BK101.out) hb); have n1_ := Aside0.mk (below_step (by repeat (first | (with_reducible first | exact HB.out | apply below_alloc | apply pw_below_drewN | apply below_drew1 | refine below_set ?_ GE101.out) | exact HB.out)) hb); clear BK101; clear HB; have BK101 := n0_; have HB := n1_; clear n0_ n1_; (try clear hb); (try clear hb2); (try clear hk); (try clear hi)) | ((with_reducible refine gate_callee (f := 68) rfl ?_); refine goesL_ (some 22) rfl rfl Tryd.func68 (by kernel_rfl) rfl #[.int .i64 (wrap64 (8 * (ji4)))] rfl (by (try simp only [List.map_toArray, List.map_cons, List.map_nil]); first | done | (simp only [hji4]; rfl) | rfl | (simp only [List.length_drop, List.length_take]; rfl)) ?_; (with_reducible refine (strconv_Itoa.calls (wrap64 (8 * (ji4))) t103 _ ?side1 A11.out).mono ?_); (case side1 => first | exact HLd | (exact LaidOk.below HLd (by repeat (first | (with_reducible first | exact HB.out | apply below_alloc | apply pw_below_drewN | apply below_drew1) | exact HB.out))) | (repeat (first | exact HLd | apply LaidOk.drewN | apply LaidOk.drew | apply LaidOk.alloc))); rintro e w16 ⟨rfl, hb⟩; refine ⟨_, rfl, ?_⟩; have n0_ := Aside0.mk (blk_below (g := gb101) (o := .cells #[.int .i64 0, .int .i64 0, .string (⟨#[]⟩ : ByteArray), .int .i64 0, .int .i64 0, .int .i64 0, .int .i64 0, .slice none 0 0, .int .i64 0, .int .u32 0] 37 (0, 0)) (by (with_reducible repeat (first | refine blk_drewN ?_ _ | refine blk_drew ?_ | refine blk_alloc ?_ _)); exact BK101.out) hb); have n1_ := Aside0.mk (below_step (by repeat (first | (with_reducible first | exact HB.out | apply below_alloc | apply pw_below_drewN | apply below_drew1 | refine below_set ?_ GE101.out) | exact HB.out)) hb); clear BK101; clear HB; have BK101 := n0_; have HB := n1_; clear n0_ n1_; (try clear hb); (try clear hb2); (try clear hk); (try clear hi)) | ((with_reducible refine gate_callee (f := 47) rfl ?_); refine goesL_ (some 37) rfl rfl Tryd.func47 (by kernel_rfl) rfl #[.string (⟨#[49, 46, 51, 46, 54, 46, 49, 46, 53, 46, 53, 46, 55, 46, 54, 46, 51, 52]⟩ : ByteArray)] rfl (by (try simp only [List.map_toArray, List.map_cons, List.map_nil]); first | done | rfl | (simp only [List.length_drop, List.length_take]; rfl)) ?_; (with_reducible refine (params_of.calls (⟨#[49, 46, 51, 46, 54, 46, 49, 46, 53, 46, 53, 46, 55, 46, 54, 46, 51, 52]⟩ : ByteArray) t104 _ ?side1 A13.out).mono ?_); (case side1 => first | exact HLd | (exact LaidOk.below HLd (by repeat (first | (with_reducible first | exact HB.out | apply below_alloc | apply pw_below_drewN | apply below_drew1) | exact HB.out))) | (repeat (first | exact HLd | apply LaidOk.drewN | apply LaidOk.drew | apply LaidOk.alloc))); rintro e w17 ⟨v105, rfl, ho0, hb⟩; refine ⟨_, rfl, ?_⟩; have n0_ := Aside0.mk (Kd.R_lower ho0 (below_size (by repeat (first | (with_reducible first | exact HB.out | apply below_alloc | apply pw_below_drewN | apply below_drew1 | refine below_set ?_ GE101.out) | exact HB.out)))); have n1_ := Aside0.mk (blk_below (g := gb101) (o := .cells #[.int .i64 0, .int .i64 0, .string (⟨#[]⟩ : ByteArray), .int .i64 0, .int .i64 0, .int .i64 0, .int .i64 0, .slice none 0 0, .int .i64 0, .int .u32 0] 37 (0, 0)) (by (with_reducible repeat (first | refine blk_drewN ?_ _ | refine blk_drew ?_ | refine blk_alloc ?_ _)); exact BK101.out) hb); have n2_ := Aside0.mk (below_step (by repeat (first | (with_reducible first | exact HB.out | apply below_alloc | apply pw_below_drewN | apply below_drew1 | refine below_set ?_ GE101.out) | exact HB.out)) hb); clear BK101; clear HB; have HO106 := n0_; have BK101 := n1_; have HB := n2_; clear n0_ n1_ n2_; (try clear hb); (try clear hb2); (try clear hk); (try clear hi); (try clear ho0); obtain ⟨Ao18, co18, eo18⟩ := Kd.R_slice HO106.out; subst eo18; have hcz19_0 : w17.cell? ⟨gb101, 0, none⟩ = some (.int .i64 0) := (blk_cell BK101.out 0).trans rfl; have hcz19_1 : w17.cell? ⟨gb101, 1, none⟩ = some (.int .i64 0) := (blk_cell BK101.out 1).trans rfl; have hcz19_2 : w17.cell? ⟨gb101, 2, none⟩ = some (.string (⟨#[]⟩ : ByteArray)) := (blk_cell BK101.out 2).trans rfl; have hcz19_3 : w17.cell? ⟨gb101, 3, none⟩ = some (.int .i64 0) := (blk_cell BK101.out 3).trans rfl; have hcz19_4 : w17.cell? ⟨gb101, 4, none⟩ = some (.int .i64 0) := (blk_cell BK101.out 4).trans rfl; have hcz19_5 : w17.cell? ⟨gb101, 5, none⟩ = some (.int .i64 0) := (blk_cell BK101.out 5).trans rfl; have hcz19_6 : w17.cell? ⟨gb101, 6, none⟩ = some (.int .i64 0) := (blk_cell BK101.out 6).trans rfl; have hcz19_7 : w17.cell? ⟨gb101, 7, none⟩ = some (.slice none 0 0) := (blk_cell BK101.out 7).trans rfl; have hcz19_8 : w17.cell? ⟨gb101, 8, none⟩ = some (.int .i64 0) := (blk_cell BK101.out 8).trans rfl; have hcz19_9 : w17.cell? ⟨gb101, 9, none⟩ = some (.int .u32 0) := (blk_cell BK101.out 9).trans rfl; have hfz19_0 := blk_frozen BK101.out 0; have hfz19_1 := blk_frozen BK101.out 1; have hfz19_2 := blk_frozen BK101.out 2; have hfz19_3 := blk_frozen BK101.out 3; have hfz19_4 := blk_frozen BK101.out 4; have hfz19_5 := blk_frozen BK101.out 5; have hfz19_6 := blk_frozen BK101.out 6; have hfz19_7 := blk_frozen BK101.out 7; have hfz19_8 := blk_frozen BK101.out 8; have hfz19_9 := blk_frozen BK101.out 9))
              refine bodyPost_ret (results_cell_row rfl _ _ gb101 37 #[.int .i64 0, .int .i64 5, .string ((((⟨#[88, 77, 83, 83, 45, 83, 72, 65, 50, 95]⟩ : ByteArray) ++ t102) ++ (⟨#[95]⟩ : ByteArray)) ++ t103), .int .i64 (wrap64 (4 + (wrap64 (2 * (ji4))))), .int .i64 0, .int .i64 0, .int .i64 (wrap64 (4 + (wrap64 ((ji4) * (wrap64 ((wrap64 ((wrap64 (1 + (wrap64 (2 * (ji4))))) + 3)) + (arr3 (ji5)))))))), .slice Ao18 t104.length co18, .int .i64 0, .int .u32 ((wrap64 ((wrap64 (a0 - 20)) + 1)) % 4294967296)] (0, 0) _ rfl (by (with_reducible repeat (first | refine blk_drewN ?_ _ | refine blk_drew ?_ | refine blk_alloc ?_ _)); refine blk_put (cs := #[.int .i64 0, .int .i64 5, .string ((((⟨#[88, 77, 83, 83, 45, 83, 72, 65, 50, 95]⟩ : ByteArray) ++ t102) ++ (⟨#[95]⟩ : ByteArray)) ++ t103), .int .i64 (wrap64 (4 + (wrap64 (2 * (ji4))))), .int .i64 0, .int .i64 0, .int .i64 (wrap64 (4 + (wrap64 ((ji4) * (wrap64 ((wrap64 ((wrap64 (1 + (wrap64 (2 * (ji4))))) + 3)) + (arr3 (ji5)))))))), .slice Ao18 t104.length co18, .int .i64 0, .int .u32 0]) ?_ 9 _ rfl; (with_reducible repeat (first | refine blk_drewN ?_ _ | refine blk_drew ?_ | refine blk_alloc ?_ _)); refine blk_put (cs := #[.int .i64 0, .int .i64 5, .string ((((⟨#[88, 77, 83, 83, 45, 83, 72, 65, 50, 95]⟩ : ByteArray) ++ t102) ++ (⟨#[95]⟩ : ByteArray)) ++ t103), .int .i64 (wrap64 (4 + (wrap64 (2 * (ji4))))), .int .i64 0, .int .i64 0, .int .i64 (wrap64 (4 + (wrap64 ((ji4) * (wrap64 ((wrap64 ((wrap64 (1 + (wrap64 (2 * (ji4))))) + 3)) + (arr3 (ji5)))))))), .slice Ao18 t104.length co18, .int .i64 0, .int .u32 0]) ?_ 8 _ rfl; (with_reducible repeat (first | refine blk_drewN ?_ _ | refine blk_drew ?_ | refine blk_alloc ?_ _)); refine blk_put (cs := #[.int .i64 0, .int .i64 5, .string ((((⟨#[88, 77, 83, 83, 45, 83, 72, 65, 50, 95]⟩ : ByteArray) ++ t102) ++ (⟨#[95]⟩ : ByteArray)) ++ t103), .int .i64 (wrap64 (4 + (wrap64 (2 * (ji4))))), .int .i64 0, .int .i64 0, .int .i64 (wrap64 (4 + (wrap64 ((ji4) * (wrap64 ((wrap64 ((wrap64 (1 + (wrap64 (2 * (ji4))))) + 3)) + (arr3 (ji5)))))))), .slice none 0 0, .int .i64 0, .int .u32 0]) ?_ 7 _ rfl; (with_reducible repeat (first | refine blk_drewN ?_ _ | refine blk_drew ?_ | refine blk_alloc ?_ _)); refine blk_put (cs := #[.int .i64 0, .int .i64 5, .string ((((⟨#[88, 77, 83, 83, 45, 83, 72, 65, 50, 95]⟩ : ByteArray) ++ t102) ++ (⟨#[95]⟩ : ByteArray)) ++ t103), .int .i64 (wrap64 (4 + (wrap64 (2 * (ji4))))), .int .i64 0, .int .i64 0, .int .i64 0, .slice none 0 0, .int .i64 0, .int .u32 0]) ?_ 6 _ rfl; (with_reducible repeat (first | refine blk_drewN ?_ _ | refine blk_drew ?_ | refine blk_alloc ?_ _)); refine blk_put (cs := #[.int .i64 0, .int .i64 5, .string ((((⟨#[88, 77, 83, 83, 45, 83, 72, 65, 50, 95]⟩ : ByteArray) ++ t102) ++ (⟨#[95]⟩ : ByteArray)) ++ t103), .int .i64 (wrap64 (4 + (wrap64 (2 * (ji4))))), .int .i64 0, .int .i64 0, .int .i64 0, .slice none 0 0, .int .i64 0, .int .u32 0]) ?_ 5 _ rfl; (with_reducible repeat (first | refine blk_drewN ?_ _ | refine blk_drew ?_ | refine blk_alloc ?_ _)); refine blk_put (cs := #[.int .i64 0, .int .i64 5, .string ((((⟨#[88, 77, 83, 83, 45, 83, 72, 65, 50, 95]⟩ : ByteArray) ++ t102) ++ (⟨#[95]⟩ : ByteArray)) ++ t103), .int .i64 (wrap64 (4 + (wrap64 (2 * (ji4))))), .int .i64 0, .int .i64 0, .int .i64 0, .slice none 0 0, .int .i64 0, .int .u32 0]) ?_ 4 _ rfl; (with_reducible repeat (first | refine blk_drewN ?_ _ | refine blk_drew ?_ | refine blk_alloc ?_ _)); refine blk_put (cs := #[.int .i64 0, .int .i64 5, .string ((((⟨#[88, 77, 83, 83, 45, 83, 72, 65, 50, 95]⟩ : ByteArray) ++ t102) ++ (⟨#[95]⟩ : ByteArray)) ++ t103), .int .i64 0, .int .i64 0, .int .i64 0, .int .i64 0, .slice none 0 0, .int .i64 0, .int .u32 0]) ?_ 3 _ rfl; (with_reducible repeat (first | refine blk_drewN ?_ _ | refine blk_drew ?_ | refine blk_alloc ?_ _)); refine blk_put (cs := #[.int .i64 0, .int .i64 5, .string (⟨#[]⟩ : ByteArray), .int .i64 0, .int .i64 0, .int .i64 0, .int .i64 0, .slice none 0 0, .int .i64 0, .int .u32 0]) ?_ 2 _ rfl; (with_reducible repeat (first | refine blk_drewN ?_ _ | refine blk_drew ?_ | refine blk_alloc ?_ _)); refine blk_put (cs := #[.int .i64 0, .int .i64 0, .string (⟨#[]⟩ : ByteArray), .int .i64 0, .int .i64 0, .int .i64 0, .int .i64 0, .slice none 0 0, .int .i64 0, .int .u32 0]) ?_ 1 _ rfl; (with_reducible repeat (first | refine blk_drewN ?_ _ | refine blk_drew ?_ | refine blk_alloc ?_ _)); refine blk_put (cs := #[.int .i64 0, .int .i64 0, .string (⟨#[]⟩ : ByteArray), .int .i64 0, .int .i64 0, .int .i64 0, .int .i64 0, .slice none 0 0, .int .i64 0, .int .u32 0]) ?_ 0 _ rfl; (with_reducible repeat (first | refine blk_drewN ?_ _ | refine blk_drew ?_ | refine blk_alloc ?_ _)); exact BK101.out) Tryd.underlying37 rfl (by kernel_rfl)) rfl ?_
              exact ⟨_, by first | rfl | (simp [errW_none, errW_some] <;> rfl) | (simp only [← hji2, ← hji4, ← hji5]; first | rfl | (simp [errW_none, errW_some] <;> rfl)) | (simp [*, errW_none, errW_some] <;> rfl), by (with_reducible repeat (first | apply Kd.R_alloc | apply Kd.R_drewN | apply Kd.R_drew)); exact Kd.R_mono (Kd.R_far (p := ⟨gb101, 9, none⟩) (Kd.R_far (p := ⟨gb101, 8, none⟩) (Kd.R_far (p := ⟨gb101, 7, none⟩) (Kd.R_far (p := ⟨gb101, 6, none⟩) (Kd.R_far (p := ⟨gb101, 5, none⟩) (Kd.R_far (p := ⟨gb101, 4, none⟩) (Kd.R_far (p := ⟨gb101, 3, none⟩) (Kd.R_far (p := ⟨gb101, 2, none⟩) (Kd.R_far (p := ⟨gb101, 1, none⟩) (Kd.R_far (p := ⟨gb101, 0, none⟩) (Kd.R_types HO106.out BK101.out (by decide)) (fun _ hk => hk.2) (.int .i64 0)) (fun _ hk => hk.2) (.int .i64 5)) (fun _ hk => hk.2) (.string ((((⟨#[88, 77, 83, 83, 45, 83, 72, 65, 50, 95]⟩ : ByteArray) ++ t102) ++ (⟨#[95]⟩ : ByteArray)) ++ t103))) (fun _ hk => hk.2) (.int .i64 (wrap64 (4 + (wrap64 (2 * (ji4))))))) (fun _ hk => hk.2) (.int .i64 0)) (fun _ hk => hk.2) (.int .i64 0)) (fun _ hk => hk.2) (.int .i64 (wrap64 (4 + (wrap64 ((ji4) * (wrap64 ((wrap64 ((wrap64 (1 + (wrap64 (2 * (ji4))))) + 3)) + (arr3 (ji5)))))))))) (fun _ hk => hk.2) (.slice Ao18 t104.length co18)) (fun _ hk => hk.2) (.int .i64 0)) (fun _ hk => hk.2) (.int .u32 ((wrap64 ((wrap64 (a0 - 20)) + 1)) % 4294967296))) (fun _ hk => trivial), by repeat (first | (with_reducible first | exact HB.out | apply below_alloc | apply pw_below_drewN | apply below_drew1 | refine below_set ?_ GE101.out) | exact HB.out)⟩
            · rw [if_neg c12] at H
              exact absurd H (by simp)
          · rw [if_neg c10] at H
            exact absurd H (by simp)
        · rw [if_neg c9] at H
          exact absurd H (by simp)
      · rw [if_neg c7] at H
        exact absurd H (by simp)
    · rw [if_neg c6] at H
      exact absurd H (by simp)
  · rw [if_neg c3] at H
    exact absurd H (by simp)

end Go.Proofs.YtjoncjnmhhimhaaDoor.PParX
end

section
/- params.slh: the row of SLH-DSA. Printed by wip/tools/genslh.py. -/
namespace Go.Proofs.YtjoncjnmhhimhaaDoor.Hand
set_option linter.unusedVariables false
set_option linter.unusedSimpArgs false
open Go.RowKit Go.Proofs.YtjoncjnmhhimhaaDoorW.PrintWords Go.Proofs.YtjoncjnmhhimhaaDoorW.PrintLast Go.Proofs.YtjoncjnmhhimhaaDoorW.PrintMore

theorem slh_index (e n : Int) (h0 : 0 ≤ e) (h5 : e ≤ 5) (hn : [16, 16, 24, 24, 32, 32].getD e.toNat 0 = n) (W : World) :
    (Instr.index 91 (.agg #[.int .i64 16, .int .i64 16, .int .i64 24, .int .i64 24, .int .i64 32, .int .i64 32]) (.int .i64 e)).run Tryd.prog W = .ok (.int .i64 n) W := by
  have q0 : ∀ W, (Instr.index 91 (.agg #[.int .i64 16, .int .i64 16, .int .i64 24, .int .i64 24, .int .i64 32, .int .i64 32]) (.int .i64 0)).run Tryd.prog W = .ok (.int .i64 16) W := fun _ => by kernel_rfl
  have q1 : ∀ W, (Instr.index 91 (.agg #[.int .i64 16, .int .i64 16, .int .i64 24, .int .i64 24, .int .i64 32, .int .i64 32]) (.int .i64 1)).run Tryd.prog W = .ok (.int .i64 16) W := fun _ => by kernel_rfl
  have q2 : ∀ W, (Instr.index 91 (.agg #[.int .i64 16, .int .i64 16, .int .i64 24, .int .i64 24, .int .i64 32, .int .i64 32]) (.int .i64 2)).run Tryd.prog W = .ok (.int .i64 24) W := fun _ => by kernel_rfl
  have q3 : ∀ W, (Instr.index 91 (.agg #[.int .i64 16, .int .i64 16, .int .i64 24, .int .i64 24, .int .i64 32, .int .i64 32]) (.int .i64 3)).run Tryd.prog W = .ok (.int .i64 24) W := fun _ => by kernel_rfl
  have q4 : ∀ W, (Instr.index 91 (.agg #[.int .i64 16, .int .i64 16, .int .i64 24, .int .i64 24, .int .i64 32, .int .i64 32]) (.int .i64 4)).run Tryd.prog W = .ok (.int .i64 32) W := fun _ => by kernel_rfl
  have q5 : ∀ W, (Instr.index 91 (.agg #[.int .i64 16, .int .i64 16, .int .i64 24, .int .i64 24, .int .i64 32, .int .i64 32]) (.int .i64 5)).run Tryd.prog W = .ok (.int .i64 32) W := fun _ => by kernel_rfl
  obtain ⟨m, rfl⟩ := Int.eq_ofNat_of_zero_le h0
  have : m = 0 ∨ m = 1 ∨ m = 2 ∨ m = 3 ∨ m = 4 ∨ m = 5 := by omega
  subst hn
  rcases this with rfl | rfl | rfl | rfl | rfl | rfl
  · exact q0 W
  · exact q1 W
  · exact q2 W
  · exact q3 W
  · exact q4 W
  · exact q5 W

theorem slh_slice (j : Int) (hj : j = 0 ∨ j = 1) (ext : ByteArray) (hext : ext = (⟨#[115, 102]⟩ : ByteArray).extract j.toNat (j + 1).toNat) (W : World) :
    (Instr.slice 9 (.string ⟨#[115, 102]⟩) (some (.int .i64 j)) (some (.int .i64 (wrap64 (j + 1)))) none).run Tryd.prog W = .ok (.string ext) W := by
  have q0 : ∀ W, (Instr.slice 9 (.string ⟨#[115, 102]⟩) (some (.int .i64 0)) (some (.int .i64 1)) none).run Tryd.prog W = .ok (.string ⟨#[115]⟩) W := fun _ => by kernel_rfl
  have q1 : ∀ W, (Instr.slice 9 (.string ⟨#[115, 102]⟩) (some (.int .i64 1)) (some (.int .i64 2)) none).run Tryd.prog W = .ok (.string ⟨#[102]⟩) W := fun _ => by kernel_rfl
  subst hext
  rcases hj with rfl | rfl
  · rw [show wrap64 ((0 : Int) + 1) = 1 from i64_in _ (by omega) (by omega), show (⟨#[115, 102]⟩ : ByteArray).extract (0 : Int).toNat ((0 : Int) + 1).toNat = ⟨#[115]⟩ from by decide +kernel]
    exact q0 W
  · rw [show wrap64 ((1 : Int) + 1) = 2 from i64_in _ (by omega) (by omega), show (⟨#[115, 102]⟩ : ByteArray).extract (1 : Int).toNat ((1 : Int) + 1).toNat = ⟨#[102]⟩ from by decide +kernel]
    exact q1 W

theorem slh_sizes (e sz : Int) (h0 : 0 ≤ e) (h5 : e ≤ 5) (hn : [7856, 17088, 16224, 35664, 29792, 49856].getD e.toNat 0 = sz) (w : World) :
    (((w.alloc (.cells #[.int .i64 0, .int .i64 0, .string (⟨#[]⟩ : ByteArray), .int .i64 0, .int .i64 0, .int .i64 0, .int .i64 0, .slice none 0 0, .int .i64 0, .int .u32 0] 37)).alloc (.cells #[.int .i64 7856, .int .i64 17088, .int .i64 16224, .int .i64 35664, .int .i64 29792, .int .i64 49856] 91)).drew).cell? ⟨w.heap.size + 1, e.toNat, none⟩ = some (.int .i64 sz) := by
  have hb : ((w.alloc (.cells #[.int .i64 0, .int .i64 0, .string (⟨#[]⟩ : ByteArray), .int .i64 0, .int .i64 0, .int .i64 0, .int .i64 0, .slice none 0 0, .int .i64 0, .int .u32 0] 37)).alloc (.cells #[.int .i64 7856, .int .i64 17088, .int .i64 16224, .int .i64 35664, .int .i64 29792, .int .i64 49856] 91)).drew.heap[w.heap.size + 1]? = some (.cells #[.int .i64 7856, .int .i64 17088, .int .i64 16224, .int .i64 35664, .int .i64 29792, .int .i64 49856] 91 (0, 0)) := by
    have := blk_new (w.alloc (.cells #[.int .i64 0, .int .i64 0, .string (⟨#[]⟩ : ByteArray), .int .i64 0, .int .i64 0, .int .i64 0, .int .i64 0, .slice none 0 0, .int .i64 0, .int .u32 0] 37)) (.cells #[.int .i64 7856, .int .i64 17088, .int .i64 16224, .int .i64 35664, .int .i64 29792, .int .i64 49856] 91)
    rw [show (w.alloc (.cells #[.int .i64 0, .int .i64 0, .string (⟨#[]⟩ : ByteArray), .int .i64 0, .int .i64 0, .int .i64 0, .int .i64 0, .slice none 0 0, .int .i64 0, .int .u32 0] 37)).heap.size = w.heap.size + 1 by simp] at this
    exact this
  rw [blk_cell hb]
  obtain ⟨m, rfl⟩ := Int.eq_ofNat_of_zero_le h0
  have : m = 0 ∨ m = 1 ∨ m = 2 ∨ m = 3 ∨ m = 4 ∨ m = 5 := by omega
  subst hn
  rcases this with rfl | rfl | rfl | rfl | rfl | rfl <;> rfl

def slh_T : Bool × List (List Nat × List Nat) := (true, [([], []), ([], []), ([1], [1]), ([2], [2]), ([0, 3], [0, 3]), ([], []), ([5], [5]), ([], []), ([7], [7]), ([8], [8]), ([6, 9], [6, 9]), ([4, 10], [4, 10]), ([], []), ([12], [12]), ([], []), ([14], [14]), ([], []), ([16], [16]), ([17], [17]), ([], []), ([19], [19]), ([20, 3], [20]), ([], []), ([22], [22]), ([11, 13, 15, 18, 21, 23], [11, 13, 15, 18, 21, 23]), ([24, 21, 0, 1, 2, 3, 4, 5, 6, 7, 8, 9, 10, 11, 12, 13, 14, 15, 16, 17, 18, 19, 20, 21, 22, 23, 24], [24])])
def slh_B : List Nat := [0, 0, 2, 6, 15, 0, 32, 0, 128, 384, 992, 2047, 0, 4096, 0, 16384, 0, 65536, 196608, 0, 524288, 1572878, 0, 4194304, 16777215, 33554431]
theorem slh_tab : rtab .any (opsOf Tryd.f46 7) = slh_T := by kernel_rfl
theorem slh_bits : waitsOk slh_T.2 slh_B = true := by kernel_rfl

set_option maxHeartbeats 4000000 in
set_option maxRecDepth 100000 in
theorem slh_true (a0 n sz : Int) (w : World) (HLd : LaidOk w) (h0 : 7 ≤ a0) (h1 : a0 ≤ 18) (g1 : decide (13 ≤ a0) = true) (hn : [16, 16, 24, 24, 32, 32].getD ((a0 - 7) % 6).toNat 0 = n) (hsz : [7856, 17088, 16224, 35664, 29792, 49856].getD ((a0 - 7) % 6).toNat 0 = sz) (hn0 : 16 ≤ n) (hn9 : n ≤ 32) (l : List Int) (hl : PParT.params_nist.f 3 (wrap64 (a0 + 13)) = some l) (t ext : ByteArray) (ht : t = decB (8 * n).toNat) (hext : ext = (⟨#[115, 102]⟩ : ByteArray).extract (((a0 - 7) % 6) % 2).toNat (((a0 - 7) % 6) % 2 + 1).toNat) :
    Calls Tryd.prog 46 #[.int .i64 a0] w fun e w' => ∃ v7_ : Value, e = .returned (.agg #[.int .i64 0, .int .i64 3, .string (((⟨#[83, 76, 72, 45, 68, 83, 65, 45, 83, 72, 65, 75, 69, 45]⟩ : ByteArray) ++ t) ++ ext), .int .i64 (wrap64 (2 * n)), .int .i64 (wrap64 (4 * n)), .int .i64 0, .int .i64 sz, v7_, .int .i64 (wrap64 (-44 - a0)), .int .u32 0]) ∧ Kd.R (Kd.int .u32) 27 w' w.heap.size (fun _ => True) v7_ l ∧ Below w.heap.size w w' := by
  have hx := slh_index ((a0 - 7) % 6) n (by omega) (by omega) hn
  have hcell0 := slh_sizes ((a0 - 7) % 6) sz (by omega) (by omega) hsz w
  have hItoa : strconv_Itoa.f (wrap64 (8 * n)) = some t := by rw [i64_in _ (by omega) (by omega)]; unfold strconv_Itoa.f; rw [if_pos (by omega), ht]
  have hts : t.size ≤ 20 := by rw [ht]; exact decB_size _ (by omega)
  have hes : ext.size ≤ 2 := by rw [hext, ByteArray.size_extract]; show min _ 2 - _ ≤ 2; omega
  have c1 : (9223372036854775807 < 14 + t.size) = False := eq_false (by omega)
  have c2 : (9223372036854775807 < 14 + t.size + ext.size) = False := eq_false (by omega)
  have hs : ∀ W, (Instr.slice 9 (.string ⟨#[115, 102]⟩) (some (.int .i64 (Int.tmod ((a0 - 7) % 6) 2))) (some (.int .i64 (wrap64 (Int.tmod ((a0 - 7) % 6) 2 + 1)))) none).run Tryd.prog W = .ok (.string ext) W := slh_slice _ (by rw [Int.tmod_eq_emod_of_nonneg (by omega)]; omega) ext (by rw [hext, Int.tmod_eq_emod_of_nonneg (by omega)])
  have b1 : (0 ≤ ((a0 - 7) % 6)) = True := eq_true (by omega)
  have b2 : (((a0 - 7) % 6) < 6) = True := eq_true (by omega)
  clear ht hext hn hsz
  go_enter Tryd.func46, Tryd.ntmps46
  go_wp2
  have hbox0 : ((w.alloc (.cells #[.int .i64 0, .int .i64 0, .string (⟨#[]⟩ : ByteArray), .int .i64 0, .int .i64 0, .int .i64 0, .int .i64 0, .slice none 0 0, .int .i64 0, .int .u32 0] 37)).alloc (.cells #[.int .i64 7856, .int .i64 17088, .int .i64 16224, .int .i64 35664, .int .i64 29792, .int .i64 49856] 91)).heap[w.heap.size]? = some (.cells #[.int .i64 0, .int .i64 0, .string (⟨#[]⟩ : ByteArray), .int .i64 0, .int .i64 0, .int .i64 0, .int .i64 0, .slice none 0 0, .int .i64 0, .int .u32 0] 37 (0, 0)) := blk_alloc (blk_new w _) _
  have HB0 : Below w.heap.size w ((w.alloc (.cells #[.int .i64 0, .int .i64 0, .string (⟨#[]⟩ : ByteArray), .int .i64 0, .int .i64 0, .int .i64 0, .int .i64 0, .slice none 0 0, .int .i64 0, .int .u32 0] 37)).alloc (.cells #[.int .i64 7856, .int .i64 17088, .int .i64 16224, .int .i64 35664, .int .i64 29792, .int .i64 49856] 91)) := below_alloc (below_alloc (Below.refl _ _) _) _
  generalize (w.alloc (.cells #[.int .i64 0, .int .i64 0, .string (⟨#[]⟩ : ByteArray), .int .i64 0, .int .i64 0, .int .i64 0, .int .i64 0, .slice none 0 0, .int .i64 0, .int .u32 0] 37)).alloc (.cells #[.int .i64 7856, .int .i64 17088, .int .i64 16224, .int .i64 35664, .int .i64 29792, .int .i64 49856] 91) = W0 at *
  have HB1 : Below w.heap.size w W0.drew := below_drew1 HB0
  have hL7 : LaidOk W0.drew := HLd.below HB1
  refine start_ (n := 26) (S := fun w' => w'.cell? ⟨w.heap.size + 1, ((a0 - 7) % 6).toNat, none⟩ = some (.int .i64 sz) ∧ w'.heap[w.heap.size]? = some (.cells #[.int .i64 0, .int .i64 0, .string (⟨#[]⟩ : ByteArray), .int .i64 0, .int .i64 0, .int .i64 0, .int .i64 0, .slice none 0 0, .int .i64 0, .int .u32 0] 37 (0, 0))) (ds := [25]) #[false, false, false, false, false, false, false, false, false, false, false, false, false, false, false, false, false, false, false, false, false, false, false, false, false, false] (by kernel_rfl) rfl rfl ⟨hcell0, hbox0⟩ (fun hHeld => ?_)
  refine with_tabW slh_tab slh_bits (fun HT_ HW_ => ?_)
  generalize W0.drew = w7 at *
  refine pure_ (i := 0) (N := some 16) (v := ?_) (a' := ?_) #[true, false, false, false, false, false, false, false, false, false, false, false, false, false, false, false, false, false, false, false, false, false, false, false, false, false] rfl rfl (any_of HT_.out (by kernel_rfl)) (fun _ _ _ h => h) (Or.inl ⟨by rfl, ?_⟩) ?_ ?_
  rotate_left
  · intro w'
    go_simp
    with_reducible rfl
  rotate_left
  · simp only [Act.put, List.setIfInBounds_toArray, List.set_cons_zero, List.set_cons_succ, i64_w, i32_w]
    rfl
  refine pure_ (i := 1) (N := some 17) (v := ?_) (a' := ?_) #[true, true, false, false, false, false, false, false, false, false, false, false, false, false, false, false, false, false, false, false, false, false, false, false, false, false] rfl rfl (any_of HT_.out (by kernel_rfl)) (fun _ _ _ h => h) (Or.inl ⟨by rfl, ?_⟩) ?_ ?_
  rotate_left
  · intro w'
    go_simp
    with_reducible rfl
  rotate_left
  · simp only [Act.put, List.setIfInBounds_toArray, List.set_cons_zero, List.set_cons_succ, i64_w, i32_w]
    rfl
  refine pure_ (i := 2) (N := some 18) (v := ?_) (a' := ?_) #[true, true, true, false, false, false, false, false, false, false, false, false, false, false, false, false, false, false, false, false, false, false, false, false, false, false] rfl rfl (any_of HT_.out (by kernel_rfl)) (fun _ _ _ h => h) (Or.inl ⟨by rfl, ?_⟩) ?_ ?_
  rotate_left
  · intro w'
    go_simp
    with_reducible rfl
  rotate_left
  · simp only [Act.put, List.setIfInBounds_toArray, List.set_cons_zero, List.set_cons_succ, i64_w, i32_w]
    rfl
  refine pure_ (i := 5) (N := some 21) (v := ?_) (a' := ?_) #[true, true, true, false, false, true, false, false, false, false, false, false, false, false, false, false, false, false, false, false, false, false, false, false, false, false] rfl rfl (any_of HT_.out (by kernel_rfl)) (fun _ _ _ h => h) (Or.inl ⟨by rfl, ?_⟩) ?_ ?_
  rotate_left
  · intro w'
    go_simp
    with_reducible rfl
  rotate_left
  · simp only [Act.put, List.setIfInBounds_toArray, List.set_cons_zero, List.set_cons_succ, i64_w, i32_w]
    rfl
  refine pure_ (i := 6) (N := some 22) (v := ?_) (a' := ?_) #[true, true, true, false, false, true, true, false, false, false, false, false, false, false, false, false, false, false, false, false, false, false, false, false, false, false] rfl rfl (any_of HT_.out (by kernel_rfl)) (fun _ _ _ h => h) (Or.inl ⟨by rfl, ?_⟩) ?_ ?_
  rotate_left
  · intro w'
    go_simp
    with_reducible rfl
  rotate_left
  · simp only [Act.put, List.setIfInBounds_toArray, List.set_cons_zero, List.set_cons_succ, i64_w, i32_w]
    rfl
  refine pure_ (i := 7) (N := some 23) (v := ?_) (a' := ?_) #[true, true, true, false, false, true, true, true, false, false, false, false, false, false, false, false, false, false, false, false, false, false, false, false, false, false] rfl rfl (any_of HT_.out (by kernel_rfl)) (fun _ _ _ h => h) (Or.inl ⟨by rfl, ?_⟩) ?_ ?_
  rotate_left
  · intro w'
    go_simp
    with_reducible rfl
  rotate_left
  · simp only [Act.put, List.setIfInBounds_toArray, List.set_cons_zero, List.set_cons_succ, i64_w, i32_w]
    rfl
  refine pure_ (i := 8) (N := some 24) (v := ?_) (a' := ?_) #[true, true, true, false, false, true, true, true, true, false, false, false, false, false, false, false, false, false, false, false, false, false, false, false, false, false] rfl rfl (any_of HT_.out (by kernel_rfl)) (fun _ _ _ h => h) (Or.inl ⟨by rfl, ?_⟩) ?_ ?_
  rotate_left
  · intro w'
    go_simp
    with_reducible rfl
  rotate_left
  · simp only [Act.put, List.setIfInBounds_toArray, List.set_cons_zero, List.set_cons_succ, i64_w, i32_w]
    rfl
  refine pure_ (i := 9) (N := some 25) (v := ?_) (a' := ?_) #[true, true, true, false, false, true, true, true, true, true, false, false, false, false, false, false, false, false, false, false, false, false, false, false, false, false] rfl rfl (any_of HT_.out (by kernel_rfl)) (fun _ _ _ h => h) (Or.inl ⟨by rfl, ?_⟩) ?_ ?_
  rotate_left
  · intro w'
    go_simp
    with_reducible rfl
  rotate_left
  · simp only [Act.put, List.setIfInBounds_toArray, List.set_cons_zero, List.set_cons_succ, i64_w, i32_w]
    rfl
  refine pure_ (i := 10) (N := some 26) (v := ?_) (a' := ?_) #[true, true, true, false, false, true, true, true, true, true, true, false, false, false, false, false, false, false, false, false, false, false, false, false, false, false] rfl rfl (any_of HT_.out (by kernel_rfl)) (fun _ _ _ h => h) (Or.inl ⟨by rfl, ?_⟩) ?_ ?_
  rotate_left
  · intro w'
    go_simp
    with_reducible rfl
  rotate_left
  · simp only [Act.put, List.setIfInBounds_toArray, List.set_cons_zero, List.set_cons_succ, i64_w, i32_w]
    rfl
  refine pure_ (i := 12) (N := some 28) (v := ?_) (a' := ?_) #[true, true, true, false, false, true, true, true, true, true, true, false, true, false, false, false, false, false, false, false, false, false, false, false, false, false] rfl rfl (any_of HT_.out (by kernel_rfl)) (fun _ _ _ h => h) (Or.inl ⟨by rfl, ?_⟩) ?_ ?_
  rotate_left
  · intro w'
    go_simp
    with_reducible rfl
  rotate_left
  · simp only [Act.put, List.setIfInBounds_toArray, List.set_cons_zero, List.set_cons_succ, i64_w, i32_w]
    rfl
  refine pure_ (i := 13) (N := some 29) (v := ?_) (a' := ?_) #[true, true, true, false, false, true, true, true, true, true, true, false, true, true, false, false, false, false, false, false, false, false, false, false, false, false] rfl rfl (any_of HT_.out (by kernel_rfl)) (fun _ _ _ h => h) (Or.inl ⟨by rfl, ?_⟩) ?_ ?_
  rotate_left
  · intro w'
    go_simp
    with_reducible rfl
  rotate_left
  · simp only [Act.put, List.setIfInBounds_toArray, List.set_cons_zero, List.set_cons_succ, i64_w, i32_w]
    rfl
  refine pure_ (i := 14) (N := some 30) (v := ?_) (a' := ?_) #[true, true, true, false, false, true, true, true, true, true, true, false, true, true, true, false, false, false, false, false, false, false, false, false, false, false] rfl rfl (any_of HT_.out (by kernel_rfl)) (fun _ _ _ h => h) (Or.inl ⟨by rfl, ?_⟩) ?_ ?_
  rotate_left
  · intro w'
    go_simp
    with_reducible rfl
  rotate_left
  · simp only [Act.put, List.setIfInBounds_toArray, List.set_cons_zero, List.set_cons_succ, i64_w, i32_w]
    rfl
  refine pure_ (i := 15) (N := some 31) (v := ?_) (a' := ?_) #[true, true, true, false, false, true, true, true, true, true, true, false, true, true, true, true, false, false, false, false, false, false, false, false, false, false] rfl rfl (any_of HT_.out (by kernel_rfl)) (fun _ _ _ h => h) (Or.inl ⟨by rfl, ?_⟩) ?_ ?_
  rotate_left
  · intro w'
    go_simp
    with_reducible rfl
  rotate_left
  · simp only [Act.put, List.setIfInBounds_toArray, List.set_cons_zero, List.set_cons_succ, i64_w, i32_w]
    rfl
  refine pure_ (i := 16) (N := some 32) (v := ?_) (a' := ?_) #[true, true, true, false, false, true, true, true, true, true, true, false, true, true, true, true, true, false, false, false, false, false, false, false, false, false] rfl rfl (any_of HT_.out (by kernel_rfl)) (fun _ _ _ h => h) (Or.inl ⟨by rfl, ?_⟩) ?_ ?_
  rotate_left
  · intro w'
    go_simp
    with_reducible rfl
  rotate_left
  · simp only [Act.put, List.setIfInBounds_toArray, List.set_cons_zero, List.set_cons_succ, i64_w, i32_w]
    rfl
  refine pure_ (i := 17) (N := some 33) (v := ?_) (a' := ?_) #[true, true, true, false, false, true, true, true, true, true, true, false, true, true, true, true, true, true, false, false, false, false, false, false, false, false] rfl rfl (any_of HT_.out (by kernel_rfl)) (fun _ _ _ h => h) (Or.inl ⟨by rfl, ?_⟩) ?_ ?_
  rotate_left
  · intro w'
    go_simp
    with_reducible rfl
  rotate_left
  · simp only [Act.put, List.setIfInBounds_toArray, List.set_cons_zero, List.set_cons_succ, i64_w, i32_w]
    rfl
  refine take_ (i := 18) (N := some 34) (v := ?_) (a' := ?_) #[true, true, true, false, false, true, true, true, true, true, true, false, true, true, true, true, true, true, true, false, false, false, false, false, false, false] rfl rfl (take_ofW HT_.out HW_.out (by kernel_rfl)) (fun _ _ _ h => h) (Or.inl ⟨by rfl, ?_⟩) hHeld ?_ ?_
  rotate_left
  · rintro w' ⟨s0, s1⟩
    go_simp
    with_reducible rfl
  rotate_left
  · simp only [Act.put, List.setIfInBounds_toArray, List.set_cons_zero, List.set_cons_succ, i64_w, i32_w]
    rfl
  refine pure_ (i := 19) (N := some 35) (v := ?_) (a' := ?_) #[true, true, true, false, false, true, true, true, true, true, true, false, true, true, true, true, true, true, true, true, false, false, false, false, false, false] rfl rfl (any_of HT_.out (by kernel_rfl)) (fun _ _ _ h => h) (Or.inl ⟨by rfl, ?_⟩) ?_ ?_
  rotate_left
  · intro w'
    go_simp
    with_reducible rfl
  rotate_left
  · simp only [Act.put, List.setIfInBounds_toArray, List.set_cons_zero, List.set_cons_succ, i64_w, i32_w]
    rfl
  refine pure_ (i := 20) (N := some 36) (v := ?_) (a' := ?_) #[true, true, true, false, false, true, true, true, true, true, true, false, true, true, true, true, true, true, true, true, true, false, false, false, false, false] rfl rfl (any_of HT_.out (by kernel_rfl)) (fun _ _ _ h => h) (Or.inl ⟨by rfl, ?_⟩) ?_ ?_
  rotate_left
  · intro w'
    go_simp
    with_reducible rfl
  rotate_left
  · simp only [Act.put, List.setIfInBounds_toArray, List.set_cons_zero, List.set_cons_succ, i64_w, i32_w]
    rfl
  refine pure_ (i := 22) (N := some 38) (v := ?_) (a' := ?_) #[true, true, true, false, false, true, true, true, true, true, true, false, true, true, true, true, true, true, true, true, true, false, true, false, false, false] rfl rfl (any_of HT_.out (by kernel_rfl)) (fun _ _ _ h => h) (Or.inl ⟨by rfl, ?_⟩) ?_ ?_
  rotate_left
  · intro w'
    go_simp
    with_reducible rfl
  rotate_left
  · simp only [Act.put, List.setIfInBounds_toArray, List.set_cons_zero, List.set_cons_succ, i64_w, i32_w]
    rfl
  refine pure_ (i := 23) (N := some 39) (v := ?_) (a' := ?_) #[true, true, true, false, false, true, true, true, true, true, true, false, true, true, true, true, true, true, true, true, true, false, true, true, false, false] rfl rfl (any_of HT_.out (by kernel_rfl)) (fun _ _ _ h => h) (Or.inl ⟨by rfl, ?_⟩) ?_ ?_
  rotate_left
  · intro w'
    go_simp
    with_reducible rfl
  rotate_left
  · simp only [Act.put, List.setIfInBounds_toArray, List.set_cons_zero, List.set_cons_succ, i64_w, i32_w]
    rfl
  refine one_ (i := 3) (N := some 19) #[true, true, true, true, false, true, true, true, true, true, true, false, true, true, true, true, true, true, true, true, true, false, true, true, false, false] rfl rfl (one_of HT_.out (by kernel_rfl)) (by decide) (fun K hK => ?_)
  refine goes_ Tryd.func68 (by kernel_rfl) rfl #[.int .i64 (wrap64 (8 * n))] (by rfl) rfl rfl (by (try simp only [List.map_toArray, List.map_cons, List.map_nil]); first | done | rfl) ?_
  refine (strconv_Itoa.calls (wrap64 (8 * n)) _ _ hL7 hItoa).mono ?_
  rintro e w8 ⟨rfl, hb8⟩
  refine ⟨_, rfl, ?_⟩
  refine hK.out _ _ ⟨pw_cell_below hb8 hHeld.1, blk_below hHeld.2 hb8⟩ (fun hHeld => ?_)
  clear hK K
  refine norm_ (a' := ?_) ?_ ?_
  rotate_left
  · show Act.put _ (some 19) _ = _
    simp only [Act.put, List.setIfInBounds_toArray, List.set_cons_zero, List.set_cons_succ, i64_w, i32_w]
    rfl
  refine pure_ (i := 4) (N := some 20) (v := ?_) (a' := ?_) #[true, true, true, true, true, true, true, true, true, true, true, false, true, true, true, true, true, true, true, true, true, false, true, true, false, false] rfl rfl (any_of HT_.out (by kernel_rfl)) (fun _ _ _ h => h) (Or.inl ⟨by rfl, ?_⟩) ?_ ?_
  rotate_left
  · intro w'
    go_simp
    with_reducible rfl
  rotate_left
  · simp only [Act.put, List.setIfInBounds_toArray, List.set_cons_zero, List.set_cons_succ, i64_w, i32_w]
    rfl
  refine pure_ (i := 11) (N := some 27) (v := ?_) (a' := ?_) #[true, true, true, true, true, true, true, true, true, true, true, true, true, true, true, true, true, true, true, true, true, false, true, true, false, false] rfl rfl (any_of HT_.out (by kernel_rfl)) (fun _ _ _ h => h) (Or.inl ⟨by rfl, ?_⟩) ?_ ?_
  rotate_left
  · intro w'
    go_simp
    with_reducible rfl
  rotate_left
  · simp only [Act.put, List.setIfInBounds_toArray, List.set_cons_zero, List.set_cons_succ, i64_w, i32_w]
    rfl
  refine one_ (i := 21) (N := some 37) #[true, true, true, true, true, true, true, true, true, true, true, true, true, true, true, true, true, true, true, true, true, true, true, true, false, false] rfl rfl (one_of HT_.out (by kernel_rfl)) (by decide) (fun K hK => ?_)
  refine goes_ Tryd.func49 (by kernel_rfl) rfl #[.int .i64 3, .int .i64 (wrap64 (a0 + 13))] (by rfl) rfl rfl (by (try simp only [List.map_toArray, List.map_cons, List.map_nil]); first | done | rfl) ?_
  refine (PParT.params_nist.calls 3 (wrap64 (a0 + 13)) l _ hl).mono ?_
  rintro e w9 ⟨v9, rfl, ho9, hb9⟩
  refine ⟨_, rfl, ?_⟩
  obtain ⟨Ao, co, eo⟩ := Kd.R_slice ho9
  subst eo
  refine hK.out _ _ ⟨pw_cell_below hb9 hHeld.1, blk_below hHeld.2 hb9⟩ (fun hHeld => ?_)
  clear hK K
  refine norm_ (a' := ?_) ?_ ?_
  rotate_left
  · show Act.put _ (some 37) _ = _
    simp only [Act.put, List.setIfInBounds_toArray, List.set_cons_zero, List.set_cons_succ, i64_w, i32_w]
    rfl
  refine pure_ (i := 24) (N := some 40) (v := ?_) (a' := ?_) #[true, true, true, true, true, true, true, true, true, true, true, true, true, true, true, true, true, true, true, true, true, true, true, true, true, false] rfl rfl (any_of HT_.out (by kernel_rfl)) (fun _ _ _ h => h) (Or.inl ⟨by rfl, ?_⟩) ?_ ?_
  rotate_left
  · intro w'
    go_simp
    with_reducible rfl
  rotate_left
  · simp only [Act.put, List.setIfInBounds_toArray, List.set_cons_zero, List.set_cons_succ, i64_w, i32_w]
    rfl
  have bx := hHeld.2
  have hc0 : w9.cell? ⟨w.heap.size, 0, none⟩ = some (.int .i64 0) := (blk_cell bx 0).trans rfl
  have hf0 := blk_frozen bx 0
  have hc1 : w9.cell? ⟨w.heap.size, 1, none⟩ = some (.int .i64 0) := (blk_cell bx 1).trans rfl
  have hf1 := blk_frozen bx 1
  have hc2 : w9.cell? ⟨w.heap.size, 2, none⟩ = some (.string (⟨#[]⟩ : ByteArray)) := (blk_cell bx 2).trans rfl
  have hf2 := blk_frozen bx 2
  have hc3 : w9.cell? ⟨w.heap.size, 3, none⟩ = some (.int .i64 0) := (blk_cell bx 3).trans rfl
  have hf3 := blk_frozen bx 3
  have hc4 : w9.cell? ⟨w.heap.size, 4, none⟩ = some (.int .i64 0) := (blk_cell bx 4).trans rfl
  have hf4 := blk_frozen bx 4
  have hc5 : w9.cell? ⟨w.heap.size, 5, none⟩ = some (.int .i64 0) := (blk_cell bx 5).trans rfl
  have hf5 := blk_frozen bx 5
  have hc6 : w9.cell? ⟨w.heap.size, 6, none⟩ = some (.int .i64 0) := (blk_cell bx 6).trans rfl
  have hf6 := blk_frozen bx 6
  have hc7 : w9.cell? ⟨w.heap.size, 7, none⟩ = some (.slice none 0 0) := (blk_cell bx 7).trans rfl
  have hf7 := blk_frozen bx 7
  have hc8 : w9.cell? ⟨w.heap.size, 8, none⟩ = some (.int .i64 0) := (blk_cell bx 8).trans rfl
  have hf8 := blk_frozen bx 8
  have hc9 : w9.cell? ⟨w.heap.size, 9, none⟩ = some (.int .u32 0) := (blk_cell bx 9).trans rfl
  have hf9 := blk_frozen bx 9
  refine last_ (i := 25) (N := none) #[true, true, true, true, true, true, true, true, true, true, true, true, true, true, true, true, true, true, true, true, true, true, true, true, true, true] rfl rfl (one_of HT_.out (by kernel_rfl)) (by decide) (fun K hK => ?_)
  refine skip_ (w1 := ?_) rfl rfl ?_ ?_
  rotate_left
  · go_simp
    rfl
  refine hK.out _ _ ?_
  clear hK K
  refine done_ (done_of HT_.out (by kernel_rfl)) ?_
  go_wp2
  have HB8 : Below w.heap.size w w8 := HB1.trans (hb8.mono HB1.size)
  have HB9 : Below w.heap.size w w9 := HB8.trans (hb9.mono HB8.size)
  have hR9 := Kd.R_lower ho9 HB8.size
  refine bodyPost_ret (results_cell_row rfl _ _ w.heap.size 37 #[.int .i64 0, .int .i64 3, .string (((⟨#[83, 76, 72, 45, 68, 83, 65, 45, 83, 72, 65, 75, 69, 45]⟩ : ByteArray) ++ t) ++ ext), .int .i64 (wrap64 (2 * n)), .int .i64 (wrap64 (4 * n)), .int .i64 0, .int .i64 sz, .slice Ao l.length co, .int .i64 (wrap64 (-44 - a0)), .int .u32 0] (0, 0) _ rfl (by refine blk_put (cs := #[.int .i64 0, .int .i64 3, .string (((⟨#[83, 76, 72, 45, 68, 83, 65, 45, 83, 72, 65, 75, 69, 45]⟩ : ByteArray) ++ t) ++ ext), .int .i64 (wrap64 (2 * n)), .int .i64 (wrap64 (4 * n)), .int .i64 0, .int .i64 sz, .slice Ao l.length co, .int .i64 (wrap64 (-44 - a0)), .int .u32 0]) ?_ 9 _ rfl; refine blk_put (cs := #[.int .i64 0, .int .i64 3, .string (((⟨#[83, 76, 72, 45, 68, 83, 65, 45, 83, 72, 65, 75, 69, 45]⟩ : ByteArray) ++ t) ++ ext), .int .i64 (wrap64 (2 * n)), .int .i64 (wrap64 (4 * n)), .int .i64 0, .int .i64 sz, .slice Ao l.length co, .int .i64 0, .int .u32 0]) ?_ 8 _ rfl; refine blk_put (cs := #[.int .i64 0, .int .i64 3, .string (((⟨#[83, 76, 72, 45, 68, 83, 65, 45, 83, 72, 65, 75, 69, 45]⟩ : ByteArray) ++ t) ++ ext), .int .i64 (wrap64 (2 * n)), .int .i64 (wrap64 (4 * n)), .int .i64 0, .int .i64 sz, .slice none 0 0, .int .i64 0, .int .u32 0]) ?_ 7 _ rfl; refine blk_put (cs := #[.int .i64 0, .int .i64 3, .string (((⟨#[83, 76, 72, 45, 68, 83, 65, 45, 83, 72, 65, 75, 69, 45]⟩ : ByteArray) ++ t) ++ ext), .int .i64 (wrap64 (2 * n)), .int .i64 (wrap64 (4 * n)), .int .i64 0, .int .i64 0, .slice none 0 0, .int .i64 0, .int .u32 0]) ?_ 6 _ rfl; refine blk_put (cs := #[.int .i64 0, .int .i64 3, .string (((⟨#[83, 76, 72, 45, 68, 83, 65, 45, 83, 72, 65, 75, 69, 45]⟩ : ByteArray) ++ t) ++ ext), .int .i64 (wrap64 (2 * n)), .int .i64 (wrap64 (4 * n)), .int .i64 0, .int .i64 0, .slice none 0 0, .int .i64 0, .int .u32 0]) ?_ 5 _ rfl; refine blk_put (cs := #[.int .i64 0, .int .i64 3, .string (((⟨#[83, 76, 72, 45, 68, 83, 65, 45, 83, 72, 65, 75, 69, 45]⟩ : ByteArray) ++ t) ++ ext), .int .i64 (wrap64 (2 * n)), .int .i64 0, .int .i64 0, .int .i64 0, .slice none 0 0, .int .i64 0, .int .u32 0]) ?_ 4 _ rfl; refine blk_put (cs := #[.int .i64 0, .int .i64 3, .string (((⟨#[83, 76, 72, 45, 68, 83, 65, 45, 83, 72, 65, 75, 69, 45]⟩ : ByteArray) ++ t) ++ ext), .int .i64 0, .int .i64 0, .int .i64 0, .int .i64 0, .slice none 0 0, .int .i64 0, .int .u32 0]) ?_ 3 _ rfl; refine blk_put (cs := #[.int .i64 0, .int .i64 3, .string (⟨#[]⟩ : ByteArray), .int .i64 0, .int .i64 0, .int .i64 0, .int .i64 0, .slice none 0 0, .int .i64 0, .int .u32 0]) ?_ 2 _ rfl; refine blk_put (cs := #[.int .i64 0, .int .i64 0, .string (⟨#[]⟩ : ByteArray), .int .i64 0, .int .i64 0, .int .i64 0, .int .i64 0, .slice none 0 0, .int .i64 0, .int .u32 0]) ?_ 1 _ rfl; refine blk_put (cs := #[.int .i64 0, .int .i64 0, .string (⟨#[]⟩ : ByteArray), .int .i64 0, .int .i64 0, .int .i64 0, .int .i64 0, .slice none 0 0, .int .i64 0, .int .u32 0]) ?_ 0 _ rfl; exact bx) Tryd.underlying37 rfl (by kernel_rfl)) rfl ?_
  exact ⟨_, rfl, Kd.R_mono (Kd.R_far (p := ⟨w.heap.size, 9, none⟩) (Kd.R_far (p := ⟨w.heap.size, 8, none⟩) (Kd.R_far (p := ⟨w.heap.size, 7, none⟩) (Kd.R_far (p := ⟨w.heap.size, 6, none⟩) (Kd.R_far (p := ⟨w.heap.size, 5, none⟩) (Kd.R_far (p := ⟨w.heap.size, 4, none⟩) (Kd.R_far (p := ⟨w.heap.size, 3, none⟩) (Kd.R_far (p := ⟨w.heap.size, 2, none⟩) (Kd.R_far (p := ⟨w.heap.size, 1, none⟩) (Kd.R_far (p := ⟨w.heap.size, 0, none⟩) (Kd.R_types hR9 bx (by decide)) (fun _ hk => hk.2) (.int .i64 0)) (fun _ hk => hk.2) (.int .i64 3)) (fun _ hk => hk.2) (.string (((⟨#[83, 76, 72, 45, 68, 83, 65, 45, 83, 72, 65, 75, 69, 45]⟩ : ByteArray) ++ t) ++ ext))) (fun _ hk => hk.2) (.int .i64 (wrap64 (2 * n)))) (fun _ hk => hk.2) (.int .i64 (wrap64 (4 * n)))) (fun _ hk => hk.2) (.int .i64 0)) (fun _ hk => hk.2) (.int .i64 sz)) (fun _ hk => hk.2) (.slice Ao l.length co)) (fun _ hk => hk.2) (.int .i64 (wrap64 (-44 - a0)))) (fun _ hk => hk.2) (.int .u32 0)) (fun _ _ => trivial), (below_set (below_set (below_set (below_set (below_set (below_set (below_set (below_set (below_set (below_set HB9 (Nat.le_refl _)) (Nat.le_refl _)) (Nat.le_refl _)) (Nat.le_refl _)) (Nat.le_refl _)) (Nat.le_refl _)) (Nat.le_refl _)) (Nat.le_refl _)) (Nat.le_refl _)) (Nat.le_refl _))⟩
set_option maxHeartbeats 4000000 in
set_option maxRecDepth 100000 in
theorem slh_false (a0 n sz : Int) (w : World) (HLd : LaidOk w) (h0 : 7 ≤ a0) (h1 : a0 ≤ 18) (g1 : decide (13 ≤ a0) = false) (hn : [16, 16, 24, 24, 32, 32].getD ((a0 - 7) % 6).toNat 0 = n) (hsz : [7856, 17088, 16224, 35664, 29792, 49856].getD ((a0 - 7) % 6).toNat 0 = sz) (hn0 : 16 ≤ n) (hn9 : n ≤ 32) (l : List Int) (hl : PParT.params_nist.f 3 (wrap64 (a0 + 13)) = some l) (t ext : ByteArray) (ht : t = decB (8 * n).toNat) (hext : ext = (⟨#[115, 102]⟩ : ByteArray).extract (((a0 - 7) % 6) % 2).toNat (((a0 - 7) % 6) % 2 + 1).toNat) :
    Calls Tryd.prog 46 #[.int .i64 a0] w fun e w' => ∃ v7_ : Value, e = .returned (.agg #[.int .i64 0, .int .i64 3, .string (((⟨#[83, 76, 72, 45, 68, 83, 65, 45, 83, 72, 65, 50, 45]⟩ : ByteArray) ++ t) ++ ext), .int .i64 (wrap64 (2 * n)), .int .i64 (wrap64 (4 * n)), .int .i64 0, .int .i64 sz, v7_, .int .i64 (wrap64 (-44 - a0)), .int .u32 0]) ∧ Kd.R (Kd.int .u32) 27 w' w.heap.size (fun _ => True) v7_ l ∧ Below w.heap.size w w' := by
  have hx := slh_index ((a0 - 7) % 6) n (by omega) (by omega) hn
  have hcell0 := slh_sizes ((a0 - 7) % 6) sz (by omega) (by omega) hsz w
  have hItoa : strconv_Itoa.f (wrap64 (8 * n)) = some t := by rw [i64_in _ (by omega) (by omega)]; unfold strconv_Itoa.f; rw [if_pos (by omega), ht]
  have hts : t.size ≤ 20 := by rw [ht]; exact decB_size _ (by omega)
  have hes : ext.size ≤ 2 := by rw [hext, ByteArray.size_extract]; show min _ 2 - _ ≤ 2; omega
  have c1 : (9223372036854775807 < 13 + t.size) = False := eq_false (by omega)
  have c2 : (9223372036854775807 < 13 + t.size + ext.size) = False := eq_false (by omega)
  have hs : ∀ W, (Instr.slice 9 (.string ⟨#[115, 102]⟩) (some (.int .i64 (Int.tmod ((a0 - 7) % 6) 2))) (some (.int .i64 (wrap64 (Int.tmod ((a0 - 7) % 6) 2 + 1)))) none).run Tryd.prog W = .ok (.string ext) W := slh_slice _ (by rw [Int.tmod_eq_emod_of_nonneg (by omega)]; omega) ext (by rw [hext, Int.tmod_eq_emod_of_nonneg (by omega)])
  have b1 : (0 ≤ ((a0 - 7) % 6)) = True := eq_true (by omega)
  have b2 : (((a0 - 7) % 6) < 6) = True := eq_true (by omega)
  clear ht hext hn hsz
  go_enter Tryd.func46, Tryd.ntmps46
  go_wp2
  have hbox0 : ((w.alloc (.cells #[.int .i64 0, .int .i64 0, .string (⟨#[]⟩ : ByteArray), .int .i64 0, .int .i64 0, .int .i64 0, .int .i64 0, .slice none 0 0, .int .i64 0, .int .u32 0] 37)).alloc (.cells #[.int .i64 7856, .int .i64 17088, .int .i64 16224, .int .i64 35664, .int .i64 29792, .int .i64 49856] 91)).heap[w.heap.size]? = some (.cells #[.int .i64 0, .int .i64 0, .string (⟨#[]⟩ : ByteArray), .int .i64 0, .int .i64 0, .int .i64 0, .int .i64 0, .slice none 0 0, .int .i64 0, .int .u32 0] 37 (0, 0)) := blk_alloc (blk_new w _) _
  have HB0 : Below w.heap.size w ((w.alloc (.cells #[.int .i64 0, .int .i64 0, .string (⟨#[]⟩ : ByteArray), .int .i64 0, .int .i64 0, .int .i64 0, .int .i64 0, .slice none 0 0, .int .i64 0, .int .u32 0] 37)).alloc (.cells #[.int .i64 7856, .int .i64 17088, .int .i64 16224, .int .i64 35664, .int .i64 29792, .int .i64 49856] 91)) := below_alloc (below_alloc (Below.refl _ _) _) _
  generalize (w.alloc (.cells #[.int .i64 0, .int .i64 0, .string (⟨#[]⟩ : ByteArray), .int .i64 0, .int .i64 0, .int .i64 0, .int .i64 0, .slice none 0 0, .int .i64 0, .int .u32 0] 37)).alloc (.cells #[.int .i64 7856, .int .i64 17088, .int .i64 16224, .int .i64 35664, .int .i64 29792, .int .i64 49856] 91) = W0 at *
  have HB1 : Below w.heap.size w W0.drew := below_drew1 HB0
  have hL7 : LaidOk W0.drew := HLd.below HB1
  refine start_ (n := 26) (S := fun w' => w'.cell? ⟨w.heap.size + 1, ((a0 - 7) % 6).toNat, none⟩ = some (.int .i64 sz) ∧ w'.heap[w.heap.size]? = some (.cells #[.int .i64 0, .int .i64 0, .string (⟨#[]⟩ : ByteArray), .int .i64 0, .int .i64 0, .int .i64 0, .int .i64 0, .slice none 0 0, .int .i64 0, .int .u32 0] 37 (0, 0))) (ds := [25]) #[false, false, false, false, false, false, false, false, false, false, false, false, false, false, false, false, false, false, false, false, false, false, false, false, false, false] (by kernel_rfl) rfl rfl ⟨hcell0, hbox0⟩ (fun hHeld => ?_)
  refine with_tabW slh_tab slh_bits (fun HT_ HW_ => ?_)
  generalize W0.drew = w7 at *
  refine pure_ (i := 0) (N := some 16) (v := ?_) (a' := ?_) #[true, false, false, false, false, false, false, false, false, false, false, false, false, false, false, false, false, false, false, false, false, false, false, false, false, false] rfl rfl (any_of HT_.out (by kernel_rfl)) (fun _ _ _ h => h) (Or.inl ⟨by rfl, ?_⟩) ?_ ?_
  rotate_left
  · intro w'
    go_simp
    with_reducible rfl
  rotate_left
  · simp only [Act.put, List.setIfInBounds_toArray, List.set_cons_zero, List.set_cons_succ, i64_w, i32_w]
    rfl
  refine pure_ (i := 1) (N := some 17) (v := ?_) (a' := ?_) #[true, true, false, false, false, false, false, false, false, false, false, false, false, false, false, false, false, false, false, false, false, false, false, false, false, false] rfl rfl (any_of HT_.out (by kernel_rfl)) (fun _ _ _ h => h) (Or.inl ⟨by rfl, ?_⟩) ?_ ?_
  rotate_left
  · intro w'
    go_simp
    with_reducible rfl
  rotate_left
  · simp only [Act.put, List.setIfInBounds_toArray, List.set_cons_zero, List.set_cons_succ, i64_w, i32_w]
    rfl
  refine pure_ (i := 2) (N := some 18) (v := ?_) (a' := ?_) #[true, true, true, false, false, false, false, false, false, false, false, false, false, false, false, false, false, false, false, false, false, false, false, false, false, false] rfl rfl (any_of HT_.out (by kernel_rfl)) (fun _ _ _ h => h) (Or.inl ⟨by rfl, ?_⟩) ?_ ?_
  rotate_left
  · intro w'
    go_simp
    with_reducible rfl
  rotate_left
  · simp only [Act.put, List.setIfInBounds_toArray, List.set_cons_zero, List.set_cons_succ, i64_w, i32_w]
    rfl
  refine pure_ (i := 5) (N := some 21) (v := ?_) (a' := ?_) #[true, true, true, false, false, true, false, false, false, false, false, false, false, false, false, false, false, false, false, false, false, false, false, false, false, false] rfl rfl (any_of HT_.out (by kernel_rfl)) (fun _ _ _ h => h) (Or.inl ⟨by rfl, ?_⟩) ?_ ?_
  rotate_left
  · intro w'
    go_simp
    with_reducible rfl
  rotate_left
  · simp only [Act.put, List.setIfInBounds_toArray, List.set_cons_zero, List.set_cons_succ, i64_w, i32_w]
    rfl
  refine pure_ (i := 6) (N := some 22) (v := ?_) (a' := ?_) #[true, true, true, false, false, true, true, false, false, false, false, false, false, false, false, false, false, false, false, false, false, false, false, false, false, false] rfl rfl (any_of HT_.out (by kernel_rfl)) (fun _ _ _ h => h) (Or.inl ⟨by rfl, ?_⟩) ?_ ?_
  rotate_left
  · intro w'
    go_simp
    with_reducible rfl
  rotate_left
  · simp only [Act.put, List.setIfInBounds_toArray, List.set_cons_zero, List.set_cons_succ, i64_w, i32_w]
    rfl
  refine pure_ (i := 7) (N := some 23) (v := ?_) (a' := ?_) #[true, true, true, false, false, true, true, true, false, false, false, false, false, false, false, false, false, false, false, false, false, false, false, false, false, false] rfl rfl (any_of HT_.out (by kernel_rfl)) (fun _ _ _ h => h) (Or.inl ⟨by rfl, ?_⟩) ?_ ?_
  rotate_left
  · intro w'
    go_simp
    with_reducible rfl
  rotate_left
  · simp only [Act.put, List.setIfInBounds_toArray, List.set_cons_zero, List.set_cons_succ, i64_w, i32_w]
    rfl
  refine pure_ (i := 8) (N := some 24) (v := ?_) (a' := ?_) #[true, true, true, false, false, true, true, true, true, false, false, false, false, false, false, false, false, false, false, false, false, false, false, false, false, false] rfl rfl (any_of HT_.out (by kernel_rfl)) (fun _ _ _ h => h) (Or.inl ⟨by rfl, ?_⟩) ?_ ?_
  rotate_left
  · intro w'
    go_simp
    with_reducible rfl
  rotate_left
  · simp only [Act.put, List.setIfInBounds_toArray, List.set_cons_zero, List.set_cons_succ, i64_w, i32_w]
    rfl
  refine pure_ (i := 9) (N := some 25) (v := ?_) (a' := ?_) #[true, true, true, false, false, true, true, true, true, true, false, false, false, false, false, false, false, false, false, false, false, false, false, false, false, false] rfl rfl (any_of HT_.out (by kernel_rfl)) (fun _ _ _ h => h) (Or.inl ⟨by rfl, ?_⟩) ?_ ?_
  rotate_left
  · intro w'
    go_simp
    with_reducible rfl
  rotate_left
  · simp only [Act.put, List.setIfInBounds_toArray, List.set_cons_zero, List.set_cons_succ, i64_w, i32_w]
    rfl
  refine pure_ (i := 10) (N := some 26) (v := ?_) (a' := ?_) #[true, true, true, false, false, true, true, true, true, true, true, false, false, false, false, false, false, false, false, false, false, false, false, false, false, false] rfl rfl (any_of HT_.out (by kernel_rfl)) (fun _ _ _ h => h) (Or.inl ⟨by rfl, ?_⟩) ?_ ?_
  rotate_left
  · intro w'
    go_simp
    with_reducible rfl
  rotate_left
  · simp only [Act.put, List.setIfInBounds_toArray, List.set_cons_zero, List.set_cons_succ, i64_w, i32_w]
    rfl
  refine pure_ (i := 12) (N := some 28) (v := ?_) (a' := ?_) #[true, true, true, false, false, true, true, true, true, true, true, false, true, false, false, false, false, false, false, false, false, false, false, false, false, false] rfl rfl (any_of HT_.out (by kernel_rfl)) (fun _ _ _ h => h) (Or.inl ⟨by rfl, ?_⟩) ?_ ?_
  rotate_left
  · intro w'
    go_simp
    with_reducible rfl
  rotate_left
  · simp only [Act.put, List.setIfInBounds_toArray, List.set_cons_zero, List.set_cons_succ, i64_w, i32_w]
    rfl
  refine pure_ (i := 13) (N := some 29) (v := ?_) (a' := ?_) #[true, true, true, false, false, true, true, true, true, true, true, false, true, true, false, false, false, false, false, false, false, false, false, false, false, false] rfl rfl (any_of HT_.out (by kernel_rfl)) (fun _ _ _ h => h) (Or.inl ⟨by rfl, ?_⟩) ?_ ?_
  rotate_left
  · intro w'
    go_simp
    with_reducible rfl
  rotate_left
  · simp only [Act.put, List.setIfInBounds_toArray, List.set_cons_zero, List.set_cons_succ, i64_w, i32_w]
    rfl
  refine pure_ (i := 14) (N := some 30) (v := ?_) (a' := ?_) #[true, true, true, false, false, true, true, true, true, true, true, false, true, true, true, false, false, false, false, false, false, false, false, false, false, false] rfl rfl (any_of HT_.out (by kernel_rfl)) (fun _ _ _ h => h) (Or.inl ⟨by rfl, ?_⟩) ?_ ?_
  rotate_left
  · intro w'
    go_simp
    with_reducible rfl
  rotate_left
  · simp only [Act.put, List.setIfInBounds_toArray, List.set_cons_zero, List.set_cons_succ, i64_w, i32_w]
    rfl
  refine pure_ (i := 15) (N := some 31) (v := ?_) (a' := ?_) #[true, true, true, false, false, true, true, true, true, true, true, false, true, true, true, true, false, false, false, false, false, false, false, false, false, false] rfl rfl (any_of HT_.out (by kernel_rfl)) (fun _ _ _ h => h) (Or.inl ⟨by rfl, ?_⟩) ?_ ?_
  rotate_left
  · intro w'
    go_simp
    with_reducible rfl
  rotate_left
  · simp only [Act.put, List.setIfInBounds_toArray, List.set_cons_zero, List.set_cons_succ, i64_w, i32_w]
    rfl
  refine pure_ (i := 16) (N := some 32) (v := ?_) (a' := ?_) #[true, true, true, false, false, true, true, true, true, true, true, false, true, true, true, true, true, false, false, false, false, false, false, false, false, false] rfl rfl (any_of HT_.out (by kernel_rfl)) (fun _ _ _ h => h) (Or.inl ⟨by rfl, ?_⟩) ?_ ?_
  rotate_left
  · intro w'
    go_simp
    with_reducible rfl
  rotate_left
  · simp only [Act.put, List.setIfInBounds_toArray, List.set_cons_zero, List.set_cons_succ, i64_w, i32_w]
    rfl
  refine pure_ (i := 17) (N := some 33) (v := ?_) (a' := ?_) #[true, true, true, false, false, true, true, true, true, true, true, false, true, true, true, true, true, true, false, false, false, false, false, false, false, false] rfl rfl (any_of HT_.out (by kernel_rfl)) (fun _ _ _ h => h) (Or.inl ⟨by rfl, ?_⟩) ?_ ?_
  rotate_left
  · intro w'
    go_simp
    with_reducible rfl
  rotate_left
  · simp only [Act.put, List.setIfInBounds_toArray, List.set_cons_zero, List.set_cons_succ, i64_w, i32_w]
    rfl
  refine take_ (i := 18) (N := some 34) (v := ?_) (a' := ?_) #[true, true, true, false, false, true, true, true, true, true, true, false, true, true, true, true, true, true, true, false, false, false, false, false, false, false] rfl rfl (take_ofW HT_.out HW_.out (by kernel_rfl)) (fun _ _ _ h => h) (Or.inl ⟨by rfl, ?_⟩) hHeld ?_ ?_
  rotate_left
  · rintro w' ⟨s0, s1⟩
    go_simp
    with_reducible rfl
  rotate_left
  · simp only [Act.put, List.setIfInBounds_toArray, List.set_cons_zero, List.set_cons_succ, i64_w, i32_w]
    rfl
  refine pure_ (i := 19) (N := some 35) (v := ?_) (a' := ?_) #[true, true, true, false, false, true, true, true, true, true, true, false, true, true, true, true, true, true, true, true, false, false, false, false, false, false] rfl rfl (any_of HT_.out (by kernel_rfl)) (fun _ _ _ h => h) (Or.inl ⟨by rfl, ?_⟩) ?_ ?_
  rotate_left
  · intro w'
    go_simp
    with_reducible rfl
  rotate_left
  · simp only [Act.put, List.setIfInBounds_toArray, List.set_cons_zero, List.set_cons_succ, i64_w, i32_w]
    rfl
  refine pure_ (i := 20) (N := some 36) (v := ?_) (a' := ?_) #[true, true, true, false, false, true, true, true, true, true, true, false, true, true, true, true, true, true, true, true, true, false, false, false, false, false] rfl rfl (any_of HT_.out (by kernel_rfl)) (fun _ _ _ h => h) (Or.inl ⟨by rfl, ?_⟩) ?_ ?_
  rotate_left
  · intro w'
    go_simp
    with_reducible rfl
  rotate_left
  · simp only [Act.put, List.setIfInBounds_toArray, List.set_cons_zero, List.set_cons_succ, i64_w, i32_w]
    rfl
  refine pure_ (i := 22) (N := some 38) (v := ?_) (a' := ?_) #[true, true, true, false, false, true, true, true, true, true, true, false, true, true, true, true, true, true, true, true, true, false, true, false, false, false] rfl rfl (any_of HT_.out (by kernel_rfl)) (fun _ _ _ h => h) (Or.inl ⟨by rfl, ?_⟩) ?_ ?_
  rotate_left
  · intro w'
    go_simp
    with_reducible rfl
  rotate_left
  · simp only [Act.put, List.setIfInBounds_toArray, List.set_cons_zero, List.set_cons_succ, i64_w, i32_w]
    rfl
  refine pure_ (i := 23) (N := some 39) (v := ?_) (a' := ?_) #[true, true, true, false, false, true, true, true, true, true, true, false, true, true, true, true, true, true, true, true, true, false, true, true, false, false] rfl rfl (any_of HT_.out (by kernel_rfl)) (fun _ _ _ h => h) (Or.inl ⟨by rfl, ?_⟩) ?_ ?_
  rotate_left
  · intro w'
    go_simp
    with_reducible rfl
  rotate_left
  · simp only [Act.put, List.setIfInBounds_toArray, List.set_cons_zero, List.set_cons_succ, i64_w, i32_w]
    rfl
  refine one_ (i := 3) (N := some 19) #[true, true, true, true, false, true, true, true, true, true, true, false, true, true, true, true, true, true, true, true, true, false, true, true, false, false] rfl rfl (one_of HT_.out (by kernel_rfl)) (by decide) (fun K hK => ?_)
  refine goes_ Tryd.func68 (by kernel_rfl) rfl #[.int .i64 (wrap64 (8 * n))] (by rfl) rfl rfl (by (try simp only [List.map_toArray, List.map_cons, List.map_nil]); first | done | rfl) ?_
  refine (strconv_Itoa.calls (wrap64 (8 * n)) _ _ hL7 hItoa).mono ?_
  rintro e w8 ⟨rfl, hb8⟩
  refine ⟨_, rfl, ?_⟩
  refine hK.out _ _ ⟨pw_cell_below hb8 hHeld.1, blk_below hHeld.2 hb8⟩ (fun hHeld => ?_)
  clear hK K
  refine norm_ (a' := ?_) ?_ ?_
  rotate_left
  · show Act.put _ (some 19) _ = _
    simp only [Act.put, List.setIfInBounds_toArray, List.set_cons_zero, List.set_cons_succ, i64_w, i32_w]
    rfl
  refine pure_ (i := 4) (N := some 20) (v := ?_) (a' := ?_) #[true, true, true, true, true, true, true, true, true, true, true, false, true, true, true, true, true, true, true, true, true, false, true, true, false, false] rfl rfl (any_of HT_.out (by kernel_rfl)) (fun _ _ _ h => h) (Or.inl ⟨by rfl, ?_⟩) ?_ ?_
  rotate_left
  · intro w'
    go_simp
    with_reducible rfl
  rotate_left
  · simp only [Act.put, List.setIfInBounds_toArray, List.set_cons_zero, List.set_cons_succ, i64_w, i32_w]
    rfl
  refine pure_ (i := 11) (N := some 27) (v := ?_) (a' := ?_) #[true, true, true, true, true, true, true, true, true, true, true, true, true, true, true, true, true, true, true, true, true, false, true, true, false, false] rfl rfl (any_of HT_.out (by kernel_rfl)) (fun _ _ _ h => h) (Or.inl ⟨by rfl, ?_⟩) ?_ ?_
  rotate_left
  · intro w'
    go_simp
    with_reducible rfl
  rotate_left
  · simp only [Act.put, List.setIfInBounds_toArray, List.set_cons_zero, List.set_cons_succ, i64_w, i32_w]
    rfl
  refine one_ (i := 21) (N := some 37) #[true, true, true, true, true, true, true, true, true, true, true, true, true, true, true, true, true, true, true, true, true, true, true, true, false, false] rfl rfl (one_of HT_.out (by kernel_rfl)) (by decide) (fun K hK => ?_)
  refine goes_ Tryd.func49 (by kernel_rfl) rfl #[.int .i64 3, .int .i64 (wrap64 (a0 + 13))] (by rfl) rfl rfl (by (try simp only [List.map_toArray, List.map_cons, List.map_nil]); first | done | rfl) ?_
  refine (PParT.params_nist.calls 3 (wrap64 (a0 + 13)) l _ hl).mono ?_
  rintro e w9 ⟨v9, rfl, ho9, hb9⟩
  refine ⟨_, rfl, ?_⟩
  obtain ⟨Ao, co, eo⟩ := Kd.R_slice ho9
  subst eo
  refine hK.out _ _ ⟨pw_cell_below hb9 hHeld.1, blk_below hHeld.2 hb9⟩ (fun hHeld => ?_)
  clear hK K
  refine norm_ (a' := ?_) ?_ ?_
  rotate_left
  · show Act.put _ (some 37) _ = _
    simp only [Act.put, List.setIfInBounds_toArray, List.set_cons_zero, List.set_cons_succ, i64_w, i32_w]
    rfl
  refine pure_ (i := 24) (N := some 40) (v := ?_) (a' := ?_) #[true, true, true, true, true, true, true, true, true, true, true, true, true, true, true, true, true, true, true, true, true, true, true, true, true, false] rfl rfl (any_of HT_.out (by kernel_rfl)) (fun _ _ _ h => h) (Or.inl ⟨by rfl, ?_⟩) ?_ ?_
  rotate_left
  · intro w'
    go_simp
    with_reducible rfl
  rotate_left
  · simp only [Act.put, List.setIfInBounds_toArray, List.set_cons_zero, List.set_cons_succ, i64_w, i32_w]
    rfl
  have bx := hHeld.2
  have hc0 : w9.cell? ⟨w.heap.size, 0, none⟩ = some (.int .i64 0) := (blk_cell bx 0).trans rfl
  have hf0 := blk_frozen bx 0
  have hc1 : w9.cell? ⟨w.heap.size, 1, none⟩ = some (.int .i64 0) := (blk_cell bx 1).trans rfl
  have hf1 := blk_frozen bx 1
  have hc2 : w9.cell? ⟨w.heap.size, 2, none⟩ = some (.string (⟨#[]⟩ : ByteArray)) := (blk_cell bx 2).trans rfl
  have hf2 := blk_frozen bx 2
  have hc3 : w9.cell? ⟨w.heap.size, 3, none⟩ = some (.int .i64 0) := (blk_cell bx 3).trans rfl
  have hf3 := blk_frozen bx 3
  have hc4 : w9.cell? ⟨w.heap.size, 4, none⟩ = some (.int .i64 0) := (blk_cell bx 4).trans rfl
  have hf4 := blk_frozen bx 4
  have hc5 : w9.cell? ⟨w.heap.size, 5, none⟩ = some (.int .i64 0) := (blk_cell bx 5).trans rfl
  have hf5 := blk_frozen bx 5
  have hc6 : w9.cell? ⟨w.heap.size, 6, none⟩ = some (.int .i64 0) := (blk_cell bx 6).trans rfl
  have hf6 := blk_frozen bx 6
  have hc7 : w9.cell? ⟨w.heap.size, 7, none⟩ = some (.slice none 0 0) := (blk_cell bx 7).trans rfl
  have hf7 := blk_frozen bx 7
  have hc8 : w9.cell? ⟨w.heap.size, 8, none⟩ = some (.int .i64 0) := (blk_cell bx 8).trans rfl
  have hf8 := blk_frozen bx 8
  have hc9 : w9.cell? ⟨w.heap.size, 9, none⟩ = some (.int .u32 0) := (blk_cell bx 9).trans rfl
  have hf9 := blk_frozen bx 9
  refine last_ (i := 25) (N := none) #[true, true, true, true, true, true, true, true, true, true, true, true, true, true, true, true, true, true, true, true, true, true, true, true, true, true] rfl rfl (one_of HT_.out (by kernel_rfl)) (by decide) (fun K hK => ?_)
  refine skip_ (w1 := ?_) rfl rfl ?_ ?_
  rotate_left
  · go_simp
    rfl
  refine hK.out _ _ ?_
  clear hK K
  refine done_ (done_of HT_.out (by kernel_rfl)) ?_
  go_wp2
  have HB8 : Below w.heap.size w w8 := HB1.trans (hb8.mono HB1.size)
  have HB9 : Below w.heap.size w w9 := HB8.trans (hb9.mono HB8.size)
  have hR9 := Kd.R_lower ho9 HB8.size
  refine bodyPost_ret (results_cell_row rfl _ _ w.heap.size 37 #[.int .i64 0, .int .i64 3, .string (((⟨#[83, 76, 72, 45, 68, 83, 65, 45, 83, 72, 65, 50, 45]⟩ : ByteArray) ++ t) ++ ext), .int .i64 (wrap64 (2 * n)), .int .i64 (wrap64 (4 * n)), .int .i64 0, .int .i64 sz, .slice Ao l.length co, .int .i64 (wrap64 (-44 - a0)), .int .u32 0] (0, 0) _ rfl (by refine blk_put (cs := #[.int .i64 0, .int .i64 3, .string (((⟨#[83, 76, 72, 45, 68, 83, 65, 45, 83, 72, 65, 50, 45]⟩ : ByteArray) ++ t) ++ ext), .int .i64 (wrap64 (2 * n)), .int .i64 (wrap64 (4 * n)), .int .i64 0, .int .i64 sz, .slice Ao l.length co, .int .i64 (wrap64 (-44 - a0)), .int .u32 0]) ?_ 9 _ rfl; refine blk_put (cs := #[.int .i64 0, .int .i64 3, .string (((⟨#[83, 76, 72, 45, 68, 83, 65, 45, 83, 72, 65, 50, 45]⟩ : ByteArray) ++ t) ++ ext), .int .i64 (wrap64 (2 * n)), .int .i64 (wrap64 (4 * n)), .int .i64 0, .int .i64 sz, .slice Ao l.length co, .int .i64 0, .int .u32 0]) ?_ 8 _ rfl; refine blk_put (cs := #[.int .i64 0, .int .i64 3, .string (((⟨#[83, 76, 72, 45, 68, 83, 65, 45, 83, 72, 65, 50, 45]⟩ : ByteArray) ++ t) ++ ext), .int .i64 (wrap64 (2 * n)), .int .i64 (wrap64 (4 * n)), .int .i64 0, .int .i64 sz, .slice none 0 0, .int .i64 0, .int .u32 0]) ?_ 7 _ rfl; refine blk_put (cs := #[.int .i64 0, .int .i64 3, .string (((⟨#[83, 76, 72, 45, 68, 83, 65, 45, 83, 72, 65, 50, 45]⟩ : ByteArray) ++ t) ++ ext), .int .i64 (wrap64 (2 * n)), .int .i64 (wrap64 (4 * n)), .int .i64 0, .int .i64 0, .slice none 0 0, .int .i64 0, .int .u32 0]) ?_ 6 _ rfl; refine blk_put (cs := #[.int .i64 0, .int .i64 3, .string (((⟨#[83, 76, 72, 45, 68, 83, 65, 45, 83, 72, 65, 50, 45]⟩ : ByteArray) ++ t) ++ ext), .int .i64 (wrap64 (2 * n)), .int .i64 (wrap64 (4 * n)), .int .i64 0, .int .i64 0, .slice none 0 0, .int .i64 0, .int .u32 0]) ?_ 5 _ rfl; refine blk_put (cs := #[.int .i64 0, .int .i64 3, .string (((⟨#[83, 76, 72, 45, 68, 83, 65, 45, 83, 72, 65, 50, 45]⟩ : ByteArray) ++ t) ++ ext), .int .i64 (wrap64 (2 * n)), .int .i64 0, .int .i64 0, .int .i64 0, .slice none 0 0, .int .i64 0, .int .u32 0]) ?_ 4 _ rfl; refine blk_put (cs := #[.int .i64 0, .int .i64 3, .string (((⟨#[83, 76, 72, 45, 68, 83, 65, 45, 83, 72, 65, 50, 45]⟩ : ByteArray) ++ t) ++ ext), .int .i64 0, .int .i64 0, .int .i64 0, .int .i64 0, .slice none 0 0, .int .i64 0, .int .u32 0]) ?_ 3 _ rfl; refine blk_put (cs := #[.int .i64 0, .int .i64 3, .string (⟨#[]⟩ : ByteArray), .int .i64 0, .int .i64 0, .int .i64 0, .int .i64 0, .slice none 0 0, .int .i64 0, .int .u32 0]) ?_ 2 _ rfl; refine blk_put (cs := #[.int .i64 0, .int .i64 0, .string (⟨#[]⟩ : ByteArray), .int .i64 0, .int .i64 0, .int .i64 0, .int .i64 0, .slice none 0 0, .int .i64 0, .int .u32 0]) ?_ 1 _ rfl; refine blk_put (cs := #[.int .i64 0, .int .i64 0, .string (⟨#[]⟩ : ByteArray), .int .i64 0, .int .i64 0, .int .i64 0, .int .i64 0, .slice none 0 0, .int .i64 0, .int .u32 0]) ?_ 0 _ rfl; exact bx) Tryd.underlying37 rfl (by kernel_rfl)) rfl ?_
  exact ⟨_, rfl, Kd.R_mono (Kd.R_far (p := ⟨w.heap.size, 9, none⟩) (Kd.R_far (p := ⟨w.heap.size, 8, none⟩) (Kd.R_far (p := ⟨w.heap.size, 7, none⟩) (Kd.R_far (p := ⟨w.heap.size, 6, none⟩) (Kd.R_far (p := ⟨w.heap.size, 5, none⟩) (Kd.R_far (p := ⟨w.heap.size, 4, none⟩) (Kd.R_far (p := ⟨w.heap.size, 3, none⟩) (Kd.R_far (p := ⟨w.heap.size, 2, none⟩) (Kd.R_far (p := ⟨w.heap.size, 1, none⟩) (Kd.R_far (p := ⟨w.heap.size, 0, none⟩) (Kd.R_types hR9 bx (by decide)) (fun _ hk => hk.2) (.int .i64 0)) (fun _ hk => hk.2) (.int .i64 3)) (fun _ hk => hk.2) (.string (((⟨#[83, 76, 72, 45, 68, 83, 65, 45, 83, 72, 65, 50, 45]⟩ : ByteArray) ++ t) ++ ext))) (fun _ hk => hk.2) (.int .i64 (wrap64 (2 * n)))) (fun _ hk => hk.2) (.int .i64 (wrap64 (4 * n)))) (fun _ hk => hk.2) (.int .i64 0)) (fun _ hk => hk.2) (.int .i64 sz)) (fun _ hk => hk.2) (.slice Ao l.length co)) (fun _ hk => hk.2) (.int .i64 (wrap64 (-44 - a0)))) (fun _ hk => hk.2) (.int .u32 0)) (fun _ _ => trivial), (below_set (below_set (below_set (below_set (below_set (below_set (below_set (below_set (below_set (below_set HB9 (Nat.le_refl _)) (Nat.le_refl _)) (Nat.le_refl _)) (Nat.le_refl _)) (Nat.le_refl _)) (Nat.le_refl _)) (Nat.le_refl _)) (Nat.le_refl _)) (Nat.le_refl _)) (Nat.le_refl _))⟩

def arr6 (j : Int) : Int := [16, 16, 24, 24, 32, 32].getD j.toNat 0
def siz6 (j : Int) : Int := [7856, 17088, 16224, 35664, 29792, 49856].getD j.toNat 0
theorem arr6_in (j : Int) (h0 : 0 ≤ j) (h5 : j ≤ 5) : 16 ≤ arr6 j ∧ arr6 j ≤ 32 := by
  obtain ⟨m, rfl⟩ := Int.eq_ofNat_of_zero_le h0
  have : m = 0 ∨ m = 1 ∨ m = 2 ∨ m = 3 ∨ m = 4 ∨ m = 5 := by omega
  rcases this with rfl | rfl | rfl | rfl | rfl | rfl <;> decide
def slhRow (a0 : Int) : Int × Int × ByteArray × Int × Int × Int × Int × List Int × Int × Int :=
  (0, 3, (if 13 ≤ a0 then (⟨#[83, 76, 72, 45, 68, 83, 65, 45, 83, 72, 65, 75, 69, 45]⟩ : ByteArray) else ⟨#[83, 76, 72, 45, 68, 83, 65, 45, 83, 72, 65, 50, 45]⟩) ++ decB (8 * arr6 ((a0 - 7) % 6)).toNat ++ (⟨#[115, 102]⟩ : ByteArray).extract ((a0 - 7) % 6 % 2).toNat ((a0 - 7) % 6 % 2 + 1).toNat,
   wrap64 (2 * arr6 ((a0 - 7) % 6)), wrap64 (4 * arr6 ((a0 - 7) % 6)), 0, siz6 ((a0 - 7) % 6), [2, 16, 840, 1, 101, 3, 4, 3 % 4294967296, (wrap64 (a0 + 13)) % 4294967296], wrap64 (-44 - a0), 0)
def params_slh.f (a0 : Int) : Option (Int × Int × ByteArray × Int × Int × Int × Int × List Int × Int × Int) := if 7 ≤ a0 ∧ a0 ≤ 18 then some (slhRow a0) else none
theorem params_slh.calls (a0 : Int) (r1 : Int) (r2 : Int) (r3 : ByteArray) (r4 : Int) (r5 : Int) (r6 : Int) (r7 : Int) (r8 : List Int) (r9 : Int) (r10 : Int) (w : World) (HLd : LaidOk w) (h : params_slh.f a0 = some (r1, r2, r3, r4, r5, r6, r7, r8, r9, r10)) :
    Calls Tryd.prog 46 #[.int .i64 a0] w fun e w' => ∃ v7_ : Value, e = .returned (.agg #[.int .i64 r1, .int .i64 r2, .string r3, .int .i64 r4, .int .i64 r5, .int .i64 r6, .int .i64 r7, v7_, .int .i64 r9, .int .u32 r10]) ∧ Kd.R (Kd.int .u32) 27 w' w.heap.size (fun _ => True) v7_ r8 ∧ Below w.heap.size w w' := by
  unfold params_slh.f slhRow at h
  by_cases hp : 7 ≤ a0 ∧ a0 ≤ 18
  · rw [if_pos hp] at h
    obtain ⟨hn0, hn9⟩ := arr6_in ((a0 - 7) % 6) (by omega) (by omega)
    by_cases hb : 13 ≤ a0
    · rw [if_pos hb] at h
      simp only [Option.some.injEq, Prod.mk.injEq] at h
      obtain ⟨rfl, rfl, rfl, rfl, rfl, rfl, rfl, rfl, rfl, rfl⟩ := h
      exact slh_true a0 _ _ w HLd hp.1 hp.2 (decide_eq_true hb) rfl rfl hn0 hn9 _ rfl _ _ rfl rfl
    · rw [if_neg hb] at h
      simp only [Option.some.injEq, Prod.mk.injEq] at h
      obtain ⟨rfl, rfl, rfl, rfl, rfl, rfl, rfl, rfl, rfl, rfl⟩ := h
      exact slh_false a0 _ _ w HLd hp.1 hp.2 (decide_eq_false hb) rfl rfl hn0 hn9 _ rfl _ _ rfl rfl
  · rw [if_neg hp] at h
    cases h

end Go.Proofs.YtjoncjnmhhimhaaDoor.Hand
end

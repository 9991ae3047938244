/- Texts of one proof, one behind the other. -/
import Derived.Test.YtjoncjnmhhimhaaDoorBPS0
import Derived.Test.YtjoncjnmhhimhaaDoorBPS1
import Derived.Test.YtjoncjnmhhimhaaDoorProg
import Derived.Below
import Derived.Deep.Draws
import Derived.Deep.AppendLies
import Derived.Maps.AppendAt
import Derived.OwnWalk
import Derived.Laws.BytesArg
import Derived.Laws.MakeOwn
import Derived.Laws.OwnMore
import Derived.Deep.OwnRows
import Derived.Tactics
import Derived.Lib.ConvBytes
import Derived.Laws.Slices
import Derived.WalkKit
import Derived.KernelRfl
import Derived.RowKit3
import Derived.Deep.LoopGhost
import Derived.Deep.QuietTactic
import Derived.BigQuiet
import Derived.WideLaws
import Derived.Deep.DeepCutAuto
import Derived.Deep.CutBlock
import Derived.Deep.RegionHeld3
import Derived.Laws.Rows
import Derived.Lib.AppendStr
import Derived.ArgAppend
import Derived.Laws.IdiomCopy
import Derived.OrdersHeld
import Derived.Laws.BitsLemmas
import Derived.RowKit
import Derived.Test.YtjoncjnmhhimhaaDoorWMore
import Derived.Test.YtjoncjnmhhimhaaDoorWGuard
import Derived.Test.YtjoncjnmhhimhaaDoorWRepsOne
import Derived.Test.YtjoncjnmhhimhaaDoorWTab
import Derived.Test.YtjoncjnmhhimhaaDoorBPS2
section
-- Written by the kit's print.py, driven by this place's wip/tools/myprint.py. Not trusted: Lean checks it.
namespace Go.Proofs.YtjoncjnmhhimhaaDoor.PLS
open Go.RowKit Go.Proofs.YtjoncjnmhhimhaaDoor.Hand Go.Proofs.YtjoncjnmhhimhaaDoor.PT13s Go.Proofs.YtjoncjnmhhimhaaDoor.PT13r Go.Proofs.YtjoncjnmhhimhaaDoorW.PrintWords Go.Proofs.YtjoncjnmhhimhaaDoorW.PrintLast Go.Proofs.YtjoncjnmhhimhaaDoorW.PrintMore
attribute [local go_sem] max2_int min2_int max_two min_two max_three min_three max_four min_four   -- for this text's walks alone
set_option linter.unusedVariables false
set_option linter.unusedSimpArgs false



def errW : Option Int → Value
  | none => .nilIface
  | some c => .iface 0 (.int .i64 c)
theorem errW_none : errW none = .nilIface := rfl
theorem errW_some (c : Int) : errW (some c) = .iface 0 (.int .i64 c) := rfl

-- the values' own types
def rd_L4 (xs : List (List Int)) (i : Int) : (List Int) := xs.getD i.toNat ([] : List Int)
theorem at_L4 {w : World} {A : Option Addr} {n : Nat} {xs : List (List Int)} (h : Kd.C (Kd.slice 27 (Kd.int .u32)) w A n xs) (i : Int) (h0 : 0 ≤ i) (h1 : i < n) : ∃ ad A0 c0, A = some ad ∧ w.cell? (ad.add i.toNat) = some (.slice A0 (rd_L4 xs i).length c0) ∧ (rd_L4 xs i).length ≤ c0 ∧ (Kd.int .u32).C w A0 (rd_L4 xs i).length (rd_L4 xs i) := by
  obtain ⟨ad, c, e, _, hK, hc0⟩ := Kd.C_get h ([] : List Int) i h0 h1
  have hc : ∀ j u, c[j]? = some u → w.cell? (ad.add (i.toNat * 1 + j)) = some u := hc0
  obtain ⟨A0, c0, rfl, l0, g0⟩ := hK
  exact ⟨ad, A0, c0, e, by have hq := hc 0 _ rfl; rwa [Nat.mul_one, Nat.add_zero] at hq, l0, g0⟩

/-! #### struct type 37 -/
structure S37 where
  f0 : Int
  f1 : Int
  f2 : ByteArray
  f3 : Int
  f4 : Int
  f5 : Int
  f6 : Int
  f7 : (List Int)
  f8 : Int
  f9 : Int
def z37 : S37 := ⟨(0 : Int), (0 : Int), (⟨#[]⟩ : ByteArray), (0 : Int), (0 : Int), (0 : Int), (0 : Int), ([] : List Int), (0 : Int), (0 : Int)⟩
def k37 : Kd S37 := Kd.iso (Kd.pair (Kd.int .i64) (Kd.pair (Kd.int .i64) (Kd.pair Kd.string (Kd.pair (Kd.int .i64) (Kd.pair (Kd.int .i64) (Kd.pair (Kd.int .i64) (Kd.pair (Kd.int .i64) (Kd.pair (Kd.slice 27 (Kd.int .u32)) (Kd.pair (Kd.int .i64) (Kd.int .u32)))))))))) (fun x : S37 => (x.f0, x.f1, x.f2, x.f3, x.f4, x.f5, x.f6, x.f7, x.f8, x.f9))
theorem k37_open {w : World} {x : S37} {cs : List Value} (h : k37.K w x cs) : ∃ A7 c7, cs = [.int .i64 x.f0, .int .i64 x.f1, .string x.f2, .int .i64 x.f3, .int .i64 x.f4, .int .i64 x.f5, .int .i64 x.f6, .slice A7 x.f7.length c7, .int .i64 x.f8, .int .u32 x.f9] ∧ x.f7.length ≤ c7 ∧ (Kd.int .u32).C w A7 x.f7.length x.f7 := by
  obtain ⟨_, _, rfl, rfl, ⟨_, _, rfl, rfl, ⟨_, _, rfl, rfl, ⟨_, _, rfl, rfl, ⟨_, _, rfl, rfl, ⟨_, _, rfl, rfl, ⟨_, _, rfl, rfl, ⟨_, _, rfl, ⟨A7, c7, rfl, l7, g7⟩, ⟨_, _, rfl, rfl, rfl⟩⟩⟩⟩⟩⟩⟩⟩⟩ := h
  exact ⟨A7, c7, rfl, l7, g7⟩
theorem k37_openM {w : World} {base : Nat} {ok : Nat → Prop} {x : S37} {cs : List Value} (h : k37.M w base ok x cs) : ∃ v7, cs = [.int .i64 x.f0, .int .i64 x.f1, .string x.f2, .int .i64 x.f3, .int .i64 x.f4, .int .i64 x.f5, .int .i64 x.f6, v7, .int .i64 x.f8, .int .u32 x.f9] ∧ (Kd.int .u32).R 27 w base ok v7 x.f7 := by
  obtain ⟨_, _, rfl, rfl, ⟨_, _, rfl, rfl, ⟨_, _, rfl, rfl, ⟨_, _, rfl, rfl, ⟨_, _, rfl, rfl, ⟨_, _, rfl, rfl, ⟨_, _, rfl, rfl, ⟨_, _, rfl, ⟨v7, rfl, g7⟩, ⟨_, _, rfl, rfl, rfl⟩⟩⟩⟩⟩⟩⟩⟩⟩ := h
  exact ⟨v7, rfl, g7⟩
theorem k37_mk (w : World) (x : S37) {A7 : Option Addr} {c7 : Nat} (l7 : x.f7.length ≤ c7) (g7 : (Kd.int .u32).C w A7 x.f7.length x.f7) : k37.K w x [.int .i64 x.f0, .int .i64 x.f1, .string x.f2, .int .i64 x.f3, .int .i64 x.f4, .int .i64 x.f5, .int .i64 x.f6, .slice A7 x.f7.length c7, .int .i64 x.f8, .int .u32 x.f9] := ⟨[.int .i64 x.f0], [.int .i64 x.f1, .string x.f2, .int .i64 x.f3, .int .i64 x.f4, .int .i64 x.f5, .int .i64 x.f6, .slice A7 x.f7.length c7, .int .i64 x.f8, .int .u32 x.f9], rfl, rfl, ⟨[.int .i64 x.f1], [.string x.f2, .int .i64 x.f3, .int .i64 x.f4, .int .i64 x.f5, .int .i64 x.f6, .slice A7 x.f7.length c7, .int .i64 x.f8, .int .u32 x.f9], rfl, rfl, ⟨[.string x.f2], [.int .i64 x.f3, .int .i64 x.f4, .int .i64 x.f5, .int .i64 x.f6, .slice A7 x.f7.length c7, .int .i64 x.f8, .int .u32 x.f9], rfl, rfl, ⟨[.int .i64 x.f3], [.int .i64 x.f4, .int .i64 x.f5, .int .i64 x.f6, .slice A7 x.f7.length c7, .int .i64 x.f8, .int .u32 x.f9], rfl, rfl, ⟨[.int .i64 x.f4], [.int .i64 x.f5, .int .i64 x.f6, .slice A7 x.f7.length c7, .int .i64 x.f8, .int .u32 x.f9], rfl, rfl, ⟨[.int .i64 x.f5], [.int .i64 x.f6, .slice A7 x.f7.length c7, .int .i64 x.f8, .int .u32 x.f9], rfl, rfl, ⟨[.int .i64 x.f6], [.slice A7 x.f7.length c7, .int .i64 x.f8, .int .u32 x.f9], rfl, rfl, ⟨[.slice A7 x.f7.length c7], [.int .i64 x.f8, .int .u32 x.f9], rfl, ⟨A7, c7, rfl, l7, g7⟩, ⟨[.int .i64 x.f8], [.int .u32 x.f9], rfl, rfl, rfl⟩⟩⟩⟩⟩⟩⟩⟩⟩
theorem k37_mkM (w : World) (base : Nat) (ok : Nat → Prop) (x : S37) {v7 : Value} (g7 : (Kd.int .u32).R 27 w base ok v7 x.f7) : k37.M w base ok x [.int .i64 x.f0, .int .i64 x.f1, .string x.f2, .int .i64 x.f3, .int .i64 x.f4, .int .i64 x.f5, .int .i64 x.f6, v7, .int .i64 x.f8, .int .u32 x.f9] := ⟨[.int .i64 x.f0], [.int .i64 x.f1, .string x.f2, .int .i64 x.f3, .int .i64 x.f4, .int .i64 x.f5, .int .i64 x.f6, v7, .int .i64 x.f8, .int .u32 x.f9], rfl, rfl, ⟨[.int .i64 x.f1], [.string x.f2, .int .i64 x.f3, .int .i64 x.f4, .int .i64 x.f5, .int .i64 x.f6, v7, .int .i64 x.f8, .int .u32 x.f9], rfl, rfl, ⟨[.string x.f2], [.int .i64 x.f3, .int .i64 x.f4, .int .i64 x.f5, .int .i64 x.f6, v7, .int .i64 x.f8, .int .u32 x.f9], rfl, rfl, ⟨[.int .i64 x.f3], [.int .i64 x.f4, .int .i64 x.f5, .int .i64 x.f6, v7, .int .i64 x.f8, .int .u32 x.f9], rfl, rfl, ⟨[.int .i64 x.f4], [.int .i64 x.f5, .int .i64 x.f6, v7, .int .i64 x.f8, .int .u32 x.f9], rfl, rfl, ⟨[.int .i64 x.f5], [.int .i64 x.f6, v7, .int .i64 x.f8, .int .u32 x.f9], rfl, rfl, ⟨[.int .i64 x.f6], [v7, .int .i64 x.f8, .int .u32 x.f9], rfl, rfl, ⟨[v7], [.int .i64 x.f8, .int .u32 x.f9], rfl, ⟨v7, rfl, g7⟩, ⟨[.int .i64 x.f8], [.int .u32 x.f9], rfl, rfl, rfl⟩⟩⟩⟩⟩⟩⟩⟩⟩
def rd_T37 (xs : List S37) (i : Int) : S37 := xs.getD i.toNat z37
theorem at_T37 {w : World} {A : Option Addr} {n : Nat} {xs : List S37} (h : Kd.C k37 w A n xs) (i : Int) (h0 : 0 ≤ i) (h1 : i < n) : ∃ ad A7 c7, A = some ad ∧ w.cell? (ad.add (i.toNat * 10)) = some (.int .i64 (rd_T37 xs i).f0) ∧ w.cell? ⟨(ad.add (i.toNat * 10)).block, (ad.add (i.toNat * 10)).off + 1, none⟩ = some (.int .i64 (rd_T37 xs i).f1) ∧ w.cell? ⟨(ad.add (i.toNat * 10)).block, (ad.add (i.toNat * 10)).off + 2, none⟩ = some (.string (rd_T37 xs i).f2) ∧ w.cell? ⟨(ad.add (i.toNat * 10)).block, (ad.add (i.toNat * 10)).off + 3, none⟩ = some (.int .i64 (rd_T37 xs i).f3) ∧ w.cell? ⟨(ad.add (i.toNat * 10)).block, (ad.add (i.toNat * 10)).off + 4, none⟩ = some (.int .i64 (rd_T37 xs i).f4) ∧ w.cell? ⟨(ad.add (i.toNat * 10)).block, (ad.add (i.toNat * 10)).off + 5, none⟩ = some (.int .i64 (rd_T37 xs i).f5) ∧ w.cell? ⟨(ad.add (i.toNat * 10)).block, (ad.add (i.toNat * 10)).off + 6, none⟩ = some (.int .i64 (rd_T37 xs i).f6) ∧ w.cell? ⟨(ad.add (i.toNat * 10)).block, (ad.add (i.toNat * 10)).off + 7, none⟩ = some (.slice A7 (rd_T37 xs i).f7.length c7) ∧ w.cell? ⟨(ad.add (i.toNat * 10)).block, (ad.add (i.toNat * 10)).off + 8, none⟩ = some (.int .i64 (rd_T37 xs i).f8) ∧ w.cell? ⟨(ad.add (i.toNat * 10)).block, (ad.add (i.toNat * 10)).off + 9, none⟩ = some (.int .u32 (rd_T37 xs i).f9) ∧ (rd_T37 xs i).f7.length ≤ c7 ∧ (Kd.int .u32).C w A7 (rd_T37 xs i).f7.length (rd_T37 xs i).f7 := by
  obtain ⟨ad, c, e, _, hK, hc0⟩ := Kd.C_get h z37 i h0 h1
  have hc : ∀ j u, c[j]? = some u → w.cell? (ad.add (i.toNat * 10 + j)) = some u := hc0
  obtain ⟨A7, c7, rfl, l7, g7⟩ := k37_open hK
  exact ⟨ad, A7, c7, e, hc 0 _ rfl, by rw [← add_field _ _ 1 (by omega)]; exact hc 1 _ rfl, by rw [← add_field _ _ 2 (by omega)]; exact hc 2 _ rfl, by rw [← add_field _ _ 3 (by omega)]; exact hc 3 _ rfl, by rw [← add_field _ _ 4 (by omega)]; exact hc 4 _ rfl, by rw [← add_field _ _ 5 (by omega)]; exact hc 5 _ rfl, by rw [← add_field _ _ 6 (by omega)]; exact hc 6 _ rfl, by rw [← add_field _ _ 7 (by omega)]; exact hc 7 _ rfl, by rw [← add_field _ _ 8 (by omega)]; exact hc 8 _ rfl, by rw [← add_field _ _ 9 (by omega)]; exact hc 9 _ rfl, l7, g7⟩

end Go.Proofs.YtjoncjnmhhimhaaDoor.PLS
namespace Go.Proofs.YtjoncjnmhhimhaaDoor.PLS
open Go.RowKit Go.Proofs.YtjoncjnmhhimhaaDoor.Hand Go.Proofs.YtjoncjnmhhimhaaDoor.PT13s Go.Proofs.YtjoncjnmhhimhaaDoor.PT13r Go.Proofs.YtjoncjnmhhimhaaDoorW.PrintWords Go.Proofs.YtjoncjnmhhimhaaDoorW.PrintLast Go.Proofs.YtjoncjnmhhimhaaDoorW.PrintMore
attribute [local go_sem] max2_int min2_int max_two min_two max_three min_three max_four min_four   -- for this text's walks alone
set_option linter.unusedVariables false
set_option linter.unusedSimpArgs false

-- BY CONTRACT: function 24 (pyxlaw13_awake)

-- BY CONTRACT: function 25 (params_Get)

/-! ### pyxlaw13_ParamsSizes: function 9 -/
def pyxlaw13_ParamsSizes.f (a0 : Int) : Option (Bool) := (pyxlaw13_awake.f).bind fun t101 => (if t101 = true then ((params_Get.f (wrap64 (1 + (Int.tmod (wrap64 (a0)) 25)))).bind fun bt102 => (if bt102.2.2.2.2.2.2.2.2.2.2 = true then (if bt102.2.1 = 1 then (if bt102.2.2.2.1 = (wrap64 ((wrap64 (384 * (wrap64 ((wrap64 (1 + (Int.tmod (wrap64 (a0)) 25))) + 1)))) + 32)) then (if bt102.2.2.2.2.1 = (wrap64 ((wrap64 (2 * bt102.2.2.2.1)) + 32)) then (some (bt102.2.2.2.2.2.2.1 == 0)) else (none)) else (none)) else (if bt102.2.1 = 3 then (if bt102.2.2.2.2.1 = (wrap64 (2 * bt102.2.2.2.1)) then (if bt102.2.2.2.2.2.1 = 0 then (if (wrap64 (Int.tdiv bt102.2.2.2.1 2)) = 0 then (none) else (some ((Int.tmod bt102.2.2.2.2.2.2.1 (wrap64 (Int.tdiv bt102.2.2.2.1 2))) == 0))) else (none)) else (none)) else (if bt102.2.1 = 5 then (if bt102.2.2.2.1 = (wrap64 (4 + (wrap64 (2 * (wrap64 (Int.tdiv (wrap64 (bt102.2.2.2.1 - 4)) 2)))))) then (if (wrap64 (Int.tdiv (wrap64 (bt102.2.2.2.1 - 4)) 2)) = 0 then (none) else (if (Int.tmod (wrap64 (bt102.2.2.2.2.2.2.1 - 4)) (wrap64 (Int.tdiv (wrap64 (bt102.2.2.2.1 - 4)) 2))) = 0 then (some (bt102.2.2.2.2.1 == 0)) else (none))) else (none)) else (if bt102.2.1 = 2 then (if (Int.tmod (wrap64 (bt102.2.2.2.1 - 32)) 320) = 0 then (some (bt102.2.2.2.2.2.1 == 32)) else (none)) else (if bt102.2.1 = 4 then (some ((wrap64 ((wrap64 ((wrap64 (bt102.2.2.2.1 + bt102.2.2.2.2.1)) + bt102.2.2.2.2.2.1)) + bt102.2.2.2.2.2.2.1)) == 0)) else (none)))))) else (none))) else (none))
set_option maxHeartbeats 8000000 in
set_option maxRecDepth 100000 in
theorem pyxlaw13_ParamsSizes.calls (a0 : Int) (r : Bool) (w : World) (HLd : LaidOk w) (h : pyxlaw13_ParamsSizes.f a0 = some r) :
    Calls Tryd.prog 9 #[.int .u8 a0] w fun e w' => e = .returned (.bool r) ∧ Below w.heap.size w w' := by
  have hu37 := Tryd.underlying37
  have HB := Aside0.mk (Below.refl w.heap.size w)
  have H : ((pyxlaw13_awake.f).bind fun t101 => (if t101 = true then ((params_Get.f (wrap64 (1 + (Int.tmod (wrap64 (a0)) 25)))).bind fun bt102 => (if bt102.2.2.2.2.2.2.2.2.2.2 = true then (if bt102.2.1 = 1 then (if bt102.2.2.2.1 = (wrap64 ((wrap64 (384 * (wrap64 ((wrap64 (1 + (Int.tmod (wrap64 (a0)) 25))) + 1)))) + 32)) then (if bt102.2.2.2.2.1 = (wrap64 ((wrap64 (2 * bt102.2.2.2.1)) + 32)) then (some (bt102.2.2.2.2.2.2.1 == 0)) else (none)) else (none)) else (if bt102.2.1 = 3 then (if bt102.2.2.2.2.1 = (wrap64 (2 * bt102.2.2.2.1)) then (if bt102.2.2.2.2.2.1 = 0 then (if (wrap64 (Int.tdiv bt102.2.2.2.1 2)) = 0 then (none) else (some ((Int.tmod bt102.2.2.2.2.2.2.1 (wrap64 (Int.tdiv bt102.2.2.2.1 2))) == 0))) else (none)) else (none)) else (if bt102.2.1 = 5 then (if bt102.2.2.2.1 = (wrap64 (4 + (wrap64 (2 * (wrap64 (Int.tdiv (wrap64 (bt102.2.2.2.1 - 4)) 2)))))) then (if (wrap64 (Int.tdiv (wrap64 (bt102.2.2.2.1 - 4)) 2)) = 0 then (none) else (if (Int.tmod (wrap64 (bt102.2.2.2.2.2.2.1 - 4)) (wrap64 (Int.tdiv (wrap64 (bt102.2.2.2.1 - 4)) 2))) = 0 then (some (bt102.2.2.2.2.1 == 0)) else (none))) else (none)) else (if bt102.2.1 = 2 then (if (Int.tmod (wrap64 (bt102.2.2.2.1 - 32)) 320) = 0 then (some (bt102.2.2.2.2.2.1 == 32)) else (none)) else (if bt102.2.1 = 4 then (some ((wrap64 ((wrap64 ((wrap64 (bt102.2.2.2.1 + bt102.2.2.2.2.1)) + bt102.2.2.2.2.2.1)) + bt102.2.2.2.2.2.2.1)) == 0)) else (none)))))) else (none))) else (none))) = some r := h
  clear h
  replace H := Option.bind_eq_some_iff.mp H
  obtain ⟨t101, A20, H⟩ := H
  replace H : (if t101 = true then ((params_Get.f (wrap64 (1 + (Int.tmod (wrap64 (a0)) 25)))).bind fun bt102 => (if bt102.2.2.2.2.2.2.2.2.2.2 = true then (if bt102.2.1 = 1 then (if bt102.2.2.2.1 = (wrap64 ((wrap64 (384 * (wrap64 ((wrap64 (1 + (Int.tmod (wrap64 (a0)) 25))) + 1)))) + 32)) then (if bt102.2.2.2.2.1 = (wrap64 ((wrap64 (2 * bt102.2.2.2.1)) + 32)) then (some (bt102.2.2.2.2.2.2.1 == 0)) else (none)) else (none)) else (if bt102.2.1 = 3 then (if bt102.2.2.2.2.1 = (wrap64 (2 * bt102.2.2.2.1)) then (if bt102.2.2.2.2.2.1 = 0 then (if (wrap64 (Int.tdiv bt102.2.2.2.1 2)) = 0 then (none) else (some ((Int.tmod bt102.2.2.2.2.2.2.1 (wrap64 (Int.tdiv bt102.2.2.2.1 2))) == 0))) else (none)) else (none)) else (if bt102.2.1 = 5 then (if bt102.2.2.2.1 = (wrap64 (4 + (wrap64 (2 * (wrap64 (Int.tdiv (wrap64 (bt102.2.2.2.1 - 4)) 2)))))) then (if (wrap64 (Int.tdiv (wrap64 (bt102.2.2.2.1 - 4)) 2)) = 0 then (none) else (if (Int.tmod (wrap64 (bt102.2.2.2.2.2.2.1 - 4)) (wrap64 (Int.tdiv (wrap64 (bt102.2.2.2.1 - 4)) 2))) = 0 then (some (bt102.2.2.2.2.1 == 0)) else (none))) else (none)) else (if bt102.2.1 = 2 then (if (Int.tmod (wrap64 (bt102.2.2.2.1 - 32)) 320) = 0 then (some (bt102.2.2.2.2.2.1 == 32)) else (none)) else (if bt102.2.1 = 4 then (some ((wrap64 ((wrap64 ((wrap64 (bt102.2.2.2.1 + bt102.2.2.2.2.1)) + bt102.2.2.2.2.2.1)) + bt102.2.2.2.2.2.2.1)) == 0)) else (none)))))) else (none))) else (none)) = some r := H
  have A2 := Aside0.mk A20
  clear A20
  by_cases c3 : t101 = true
  · subst c3
    have H1 : ((params_Get.f (wrap64 (1 + (Int.tmod (wrap64 (a0)) 25)))).bind fun bt102 => (if bt102.2.2.2.2.2.2.2.2.2.2 = true then (if bt102.2.1 = 1 then (if bt102.2.2.2.1 = (wrap64 ((wrap64 (384 * (wrap64 ((wrap64 (1 + (Int.tmod (wrap64 (a0)) 25))) + 1)))) + 32)) then (if bt102.2.2.2.2.1 = (wrap64 ((wrap64 (2 * bt102.2.2.2.1)) + 32)) then (some (bt102.2.2.2.2.2.2.1 == 0)) else (none)) else (none)) else (if bt102.2.1 = 3 then (if bt102.2.2.2.2.1 = (wrap64 (2 * bt102.2.2.2.1)) then (if bt102.2.2.2.2.2.1 = 0 then (if (wrap64 (Int.tdiv bt102.2.2.2.1 2)) = 0 then (none) else (some ((Int.tmod bt102.2.2.2.2.2.2.1 (wrap64 (Int.tdiv bt102.2.2.2.1 2))) == 0))) else (none)) else (none)) else (if bt102.2.1 = 5 then (if bt102.2.2.2.1 = (wrap64 (4 + (wrap64 (2 * (wrap64 (Int.tdiv (wrap64 (bt102.2.2.2.1 - 4)) 2)))))) then (if (wrap64 (Int.tdiv (wrap64 (bt102.2.2.2.1 - 4)) 2)) = 0 then (none) else (if (Int.tmod (wrap64 (bt102.2.2.2.2.2.2.1 - 4)) (wrap64 (Int.tdiv (wrap64 (bt102.2.2.2.1 - 4)) 2))) = 0 then (some (bt102.2.2.2.2.1 == 0)) else (none))) else (none)) else (if bt102.2.1 = 2 then (if (Int.tmod (wrap64 (bt102.2.2.2.1 - 32)) 320) = 0 then (some (bt102.2.2.2.2.2.1 == 32)) else (none)) else (if bt102.2.1 = 4 then (some ((wrap64 ((wrap64 ((wrap64 (bt102.2.2.2.1 + bt102.2.2.2.2.1)) + bt102.2.2.2.2.2.1)) + bt102.2.2.2.2.2.2.1)) == 0)) else (none)))))) else (none))) = some r := by rw [if_pos rfl] at H; exact H
    clear H
    have H := H1
    clear H1
    replace H := Option.bind_eq_some_iff.mp H
    obtain ⟨⟨t102, t103, t104, t105, t106, t107, t108, t109, t112, t113, t114⟩, A40, H⟩ := H
    replace H : (if t114 = true then (if t103 = 1 then (if t105 = (wrap64 ((wrap64 (384 * (wrap64 ((wrap64 (1 + (Int.tmod (wrap64 (a0)) 25))) + 1)))) + 32)) then (if t106 = (wrap64 ((wrap64 (2 * t105)) + 32)) then (some (t108 == 0)) else (none)) else (none)) else (if t103 = 3 then (if t106 = (wrap64 (2 * t105)) then (if t107 = 0 then (if (wrap64 (Int.tdiv t105 2)) = 0 then (none) else (some ((Int.tmod t108 (wrap64 (Int.tdiv t105 2))) == 0))) else (none)) else (none)) else (if t103 = 5 then (if t105 = (wrap64 (4 + (wrap64 (2 * (wrap64 (Int.tdiv (wrap64 (t105 - 4)) 2)))))) then (if (wrap64 (Int.tdiv (wrap64 (t105 - 4)) 2)) = 0 then (none) else (if (Int.tmod (wrap64 (t108 - 4)) (wrap64 (Int.tdiv (wrap64 (t105 - 4)) 2))) = 0 then (some (t106 == 0)) else (none))) else (none)) else (if t103 = 2 then (if (Int.tmod (wrap64 (t105 - 32)) 320) = 0 then (some (t107 == 32)) else (none)) else (if t103 = 4 then (some ((wrap64 ((wrap64 ((wrap64 (t105 + t106)) + t107)) + t108)) == 0)) else (none)))))) else (none)) = some r := H
    have A4 := Aside0.mk A40
    clear A40
    by_cases c5 : t114 = true
    · subst c5
      have H1 : (if t103 = 1 then (if t105 = (wrap64 ((wrap64 (384 * (wrap64 ((wrap64 (1 + (Int.tmod (wrap64 (a0)) 25))) + 1)))) + 32)) then (if t106 = (wrap64 ((wrap64 (2 * t105)) + 32)) then (some (t108 == 0)) else (none)) else (none)) else (if t103 = 3 then (if t106 = (wrap64 (2 * t105)) then (if t107 = 0 then (if (wrap64 (Int.tdiv t105 2)) = 0 then (none) else (some ((Int.tmod t108 (wrap64 (Int.tdiv t105 2))) == 0))) else (none)) else (none)) else (if t103 = 5 then (if t105 = (wrap64 (4 + (wrap64 (2 * (wrap64 (Int.tdiv (wrap64 (t105 - 4)) 2)))))) then (if (wrap64 (Int.tdiv (wrap64 (t105 - 4)) 2)) = 0 then (none) else (if (Int.tmod (wrap64 (t108 - 4)) (wrap64 (Int.tdiv (wrap64 (t105 - 4)) 2))) = 0 then (some (t106 == 0)) else (none))) else (none)) else (if t103 = 2 then (if (Int.tmod (wrap64 (t105 - 32)) 320) = 0 then (some (t107 == 32)) else (none)) else (if t103 = 4 then (some ((wrap64 ((wrap64 ((wrap64 (t105 + t106)) + t107)) + t108)) == 0)) else (none)))))) = some r := by rw [if_pos rfl] at H; exact H
      clear H
      have H := H1
      clear H1
      by_cases c6 : t103 = 1
      · rw [if_pos c6] at H
        have c6b0 : (t103 == 1) = true := beq_iff_eq.mpr c6
        have c6b1 : (t103 != 1) = false := bne_eq_false_iff_eq.mpr c6
        clear c6
        by_cases c7 : t105 = (wrap64 ((wrap64 (384 * (wrap64 ((wrap64 (1 + (Int.tmod (wrap64 (a0)) 25))) + 1)))) + 32))
        · rw [if_pos c7] at H
          have c7b0 : (t105 == (wrap64 ((wrap64 (384 * (wrap64 ((wrap64 (1 + (Int.tmod (wrap64 (a0)) 25))) + 1)))) + 32))) = true := beq_iff_eq.mpr c7
          have c7b1 : (t105 != (wrap64 ((wrap64 (384 * (wrap64 ((wrap64 (1 + (Int.tmod (wrap64 (a0)) 25))) + 1)))) + 32))) = false := bne_eq_false_iff_eq.mpr c7
          clear c7
          by_cases c8 : t106 = (wrap64 ((wrap64 (2 * t105)) + 32))
          · rw [if_pos c8] at H
            have c8b0 : (t106 == (wrap64 ((wrap64 (2 * t105)) + 32))) = true := beq_iff_eq.mpr c8
            have c8b1 : (t106 != (wrap64 ((wrap64 (2 * t105)) + 32))) = false := bne_eq_false_iff_eq.mpr c8
            clear c8
            obtain rfl := Option.some.inj H
            go_enter Tryd.func9, Tryd.ntmps9
            go_wp2_with (first | ((with_reducible refine gate_callee (f := 24) rfl ?_); refine goesL_ (some 7) rfl rfl Tryd.func24 (by kernel_rfl) rfl #[] rfl (by (try simp only [List.map_toArray, List.map_cons, List.map_nil]); first | done | rfl | (simp only [List.length_drop, List.length_take]; rfl)) ?_; (with_reducible refine (pyxlaw13_awake.calls  true _ ?side1 A2.out).mono ?_); (case side1 => first | exact HLd | (exact LaidOk.below HLd (by repeat (first | (with_reducible first | exact HB.out | apply below_alloc | apply pw_below_drewN | apply below_drew1) | exact HB.out))) | (repeat (first | exact HLd | apply LaidOk.drewN | apply LaidOk.drew | apply LaidOk.alloc))); rintro e w9 ⟨rfl, hb⟩; refine ⟨_, rfl, ?_⟩; have n0_ := Aside0.mk (below_step (by repeat (first | (with_reducible first | exact HB.out | apply below_alloc | apply pw_below_drewN | apply below_drew1) | exact HB.out)) hb); clear HB; have HB := n0_; clear n0_; (try clear hb); (try clear hb2); (try clear hk); (try clear hi)) | ((with_reducible refine gate_callee (f := 25) rfl ?_); refine goesL_ (some 15) rfl rfl Tryd.func25 (by kernel_rfl) rfl #[.int .i64 (wrap64 (1 + (Int.tmod (wrap64 (a0)) 25)))] rfl (by (try simp only [List.map_toArray, List.map_cons, List.map_nil]); first | done | rfl | (simp only [List.length_drop, List.length_take]; rfl)) ?_; (with_reducible refine (params_Get.calls (wrap64 (1 + (Int.tmod (wrap64 (a0)) 25))) t102 t103 t104 t105 t106 t107 t108 t109 t112 t113 true _ ?side1 A4.out).mono ?_); (case side1 => first | exact HLd | (exact LaidOk.below HLd (by repeat (first | (with_reducible first | exact HB.out | apply below_alloc | apply pw_below_drewN | apply below_drew1) | exact HB.out))) | (repeat (first | exact HLd | apply LaidOk.drewN | apply LaidOk.drew | apply LaidOk.alloc))); rintro e w10 ⟨v110, rfl, ho0, hb⟩; refine ⟨_, rfl, ?_⟩; have n0_ := Aside0.mk (Kd.R_lower ho0 (below_size (by repeat (first | (with_reducible first | exact HB.out | apply below_alloc | apply pw_below_drewN | apply below_drew1) | exact HB.out)))); have n1_ := Aside0.mk (below_step (by repeat (first | (with_reducible first | exact HB.out | apply below_alloc | apply pw_below_drewN | apply below_drew1) | exact HB.out)) hb); clear HB; have HO111 := n0_; have HB := n1_; clear n0_ n1_; (try clear hb); (try clear hb2); (try clear hk); (try clear hi); (try clear ho0)) | ((with_reducible refine gate_dst (N := 4) rfl ?_); refine box_event ?hg (N := 4) ?hd (cs := #[.int .i64 0, .int .i64 0, .string (⟨#[]⟩ : ByteArray), .int .i64 0, .int .i64 0, .int .i64 0, .int .i64 0, .slice none 0 0, .int .i64 0, .int .u32 0]) (t := 37) ?hr ?_; (case hd => rfl); (case hg => rfl); (case hr => first | (go_simp; done) | (go_simp; rfl)); intro gb115 hg w11 hbox hb; have n0_ := Aside0.mk (Kd.R_below (by (with_reducible repeat (first | apply Kd.R_alloc | apply Kd.R_drewN | apply Kd.R_drew)); exact HO111.out) hb); have n1_ := Aside0.mk (below_step (by repeat (first | (with_reducible first | exact HB.out | apply below_alloc | apply pw_below_drewN | apply below_drew1) | exact HB.out)) hb); have n2_ := Aside0.mk (hbox); have n3_ := Aside0.mk ((by rw [hg]; exact (below_size (by repeat (first | (with_reducible first | exact HB.out | apply below_alloc | apply pw_below_drewN | apply below_drew1) | exact HB.out))) : w.heap.size ≤ gb115)); have n4_ := Aside0.mk ((by rw [hg]; exact (below_size (by repeat (first | (with_reducible first | exact HB.out | apply below_alloc | apply pw_below_drewN | apply below_drew1) | exact HB.out))) : w.heap.size ≤ gb115)); clear HO111; clear HB; have HO111 := n0_; have HB := n1_; have BK115 := n2_; have GW115 := n3_; have GE115 := n4_; clear n0_ n1_ n2_ n3_ n4_; clear hb hbox hg; have hcz12_0 : w11.cell? ⟨gb115, 0, none⟩ = some (.int .i64 0) := (blk_cell BK115.out 0).trans rfl; have hcz12_1 : w11.cell? ⟨gb115, 1, none⟩ = some (.int .i64 0) := (blk_cell BK115.out 1).trans rfl; have hcz12_2 : w11.cell? ⟨gb115, 2, none⟩ = some (.string (⟨#[]⟩ : ByteArray)) := (blk_cell BK115.out 2).trans rfl; have hcz12_3 : w11.cell? ⟨gb115, 3, none⟩ = some (.int .i64 0) := (blk_cell BK115.out 3).trans rfl; have hcz12_4 : w11.cell? ⟨gb115, 4, none⟩ = some (.int .i64 0) := (blk_cell BK115.out 4).trans rfl; have hcz12_5 : w11.cell? ⟨gb115, 5, none⟩ = some (.int .i64 0) := (blk_cell BK115.out 5).trans rfl; have hcz12_6 : w11.cell? ⟨gb115, 6, none⟩ = some (.int .i64 0) := (blk_cell BK115.out 6).trans rfl; have hcz12_7 : w11.cell? ⟨gb115, 7, none⟩ = some (.slice none 0 0) := (blk_cell BK115.out 7).trans rfl; have hcz12_8 : w11.cell? ⟨gb115, 8, none⟩ = some (.int .i64 0) := (blk_cell BK115.out 8).trans rfl; have hcz12_9 : w11.cell? ⟨gb115, 9, none⟩ = some (.int .u32 0) := (blk_cell BK115.out 9).trans rfl; have hfz12_0 := blk_frozen BK115.out 0; have hfz12_1 := blk_frozen BK115.out 1; have hfz12_2 := blk_frozen BK115.out 2; have hfz12_3 := blk_frozen BK115.out 3; have hfz12_4 := blk_frozen BK115.out 4; have hfz12_5 := blk_frozen BK115.out 5; have hfz12_6 := blk_frozen BK115.out 6; have hfz12_7 := blk_frozen BK115.out 7; have hfz12_8 := blk_frozen BK115.out 8; have hfz12_9 := blk_frozen BK115.out 9; obtain ⟨Ao13, co13, eo13⟩ := Kd.R_slice HO111.out; subst eo13))
            go_ret
            exact ⟨by first | rfl | (simp [errW_none, errW_some] <;> rfl) | (simp [*, errW_none, errW_some] <;> rfl), by repeat (first | (with_reducible first | exact HB.out | apply below_alloc | apply pw_below_drewN | apply below_drew1 | refine below_set ?_ GE115.out) | exact HB.out)⟩
          · rw [if_neg c8] at H
            exact absurd H (by simp)
        · rw [if_neg c7] at H
          exact absurd H (by simp)
      · rw [if_neg c6] at H
        have c6b0 : (t103 == 1) = false := beq_eq_false_iff_ne.mpr c6
        have c6b1 : (t103 != 1) = true := bne_iff_ne.mpr c6
        by_cases c14 : t103 = 3
        · rw [if_pos c14] at H
          have c14b0 : (t103 == 3) = true := beq_iff_eq.mpr c14
          have c14b1 : (t103 != 3) = false := bne_eq_false_iff_eq.mpr c14
          clear c14
          by_cases c15 : t106 = (wrap64 (2 * t105))
          · rw [if_pos c15] at H
            have c15b0 : (t106 == (wrap64 (2 * t105))) = true := beq_iff_eq.mpr c15
            have c15b1 : (t106 != (wrap64 (2 * t105))) = false := bne_eq_false_iff_eq.mpr c15
            clear c15
            by_cases c16 : t107 = 0
            · rw [if_pos c16] at H
              have c16b0 : (t107 == 0) = true := beq_iff_eq.mpr c16
              have c16b1 : (t107 != 0) = false := bne_eq_false_iff_eq.mpr c16
              clear c16
              by_cases c17 : (wrap64 (Int.tdiv t105 2)) = 0
              · rw [if_pos c17] at H
                exact absurd H (by simp)
              · rw [if_neg c17] at H
                have c17b0 : ((wrap64 (Int.tdiv t105 2)) == 0) = false := beq_eq_false_iff_ne.mpr c17
                have c17b1 : ((wrap64 (Int.tdiv t105 2)) != 0) = true := bne_iff_ne.mpr c17
                obtain rfl := Option.some.inj H
                go_enter Tryd.func9, Tryd.ntmps9
                go_wp2_with (first | ((with_reducible refine gate_callee (f := 24) rfl ?_); refine goesL_ (some 7) rfl rfl Tryd.func24 (by kernel_rfl) rfl #[] rfl (by (try simp only [List.map_toArray, List.map_cons, List.map_nil]); first | done | rfl | (simp only [List.length_drop, List.length_take]; rfl)) ?_; (with_reducible refine (pyxlaw13_awake.calls  true _ ?side1 A2.out).mono ?_); (case side1 => first | exact HLd | (exact LaidOk.below HLd (by repeat (first | (with_reducible first | exact HB.out | apply below_alloc | apply pw_below_drewN | apply below_drew1) | exact HB.out))) | (repeat (first | exact HLd | apply LaidOk.drewN | apply LaidOk.drew | apply LaidOk.alloc))); rintro e w18 ⟨rfl, hb⟩; refine ⟨_, rfl, ?_⟩; have n0_ := Aside0.mk (below_step (by repeat (first | (with_reducible first | exact HB.out | apply below_alloc | apply pw_below_drewN | apply below_drew1) | exact HB.out)) hb); clear HB; have HB := n0_; clear n0_; (try clear hb); (try clear hb2); (try clear hk); (try clear hi)) | ((with_reducible refine gate_callee (f := 25) rfl ?_); refine goesL_ (some 15) rfl rfl Tryd.func25 (by kernel_rfl) rfl #[.int .i64 (wrap64 (1 + (Int.tmod (wrap64 (a0)) 25)))] rfl (by (try simp only [List.map_toArray, List.map_cons, List.map_nil]); first | done | rfl | (simp only [List.length_drop, List.length_take]; rfl)) ?_; (with_reducible refine (params_Get.calls (wrap64 (1 + (Int.tmod (wrap64 (a0)) 25))) t102 t103 t104 t105 t106 t107 t108 t109 t112 t113 true _ ?side1 A4.out).mono ?_); (case side1 => first | exact HLd | (exact LaidOk.below HLd (by repeat (first | (with_reducible first | exact HB.out | apply below_alloc | apply pw_below_drewN | apply below_drew1) | exact HB.out))) | (repeat (first | exact HLd | apply LaidOk.drewN | apply LaidOk.drew | apply LaidOk.alloc))); rintro e w19 ⟨v110, rfl, ho0, hb⟩; refine ⟨_, rfl, ?_⟩; have n0_ := Aside0.mk (Kd.R_lower ho0 (below_size (by repeat (first | (with_reducible first | exact HB.out | apply below_alloc | apply pw_below_drewN | apply below_drew1) | exact HB.out)))); have n1_ := Aside0.mk (below_step (by repeat (first | (with_reducible first | exact HB.out | apply below_alloc | apply pw_below_drewN | apply below_drew1) | exact HB.out)) hb); clear HB; have HO111 := n0_; have HB := n1_; clear n0_ n1_; (try clear hb); (try clear hb2); (try clear hk); (try clear hi); (try clear ho0)) | ((with_reducible refine gate_dst (N := 4) rfl ?_); refine box_event ?hg (N := 4) ?hd (cs := #[.int .i64 0, .int .i64 0, .string (⟨#[]⟩ : ByteArray), .int .i64 0, .int .i64 0, .int .i64 0, .int .i64 0, .slice none 0 0, .int .i64 0, .int .u32 0]) (t := 37) ?hr ?_; (case hd => rfl); (case hg => rfl); (case hr => first | (go_simp; done) | (go_simp; rfl)); intro gb115 hg w20 hbox hb; have n0_ := Aside0.mk (Kd.R_below (by (with_reducible repeat (first | apply Kd.R_alloc | apply Kd.R_drewN | apply Kd.R_drew)); exact HO111.out) hb); have n1_ := Aside0.mk (below_step (by repeat (first | (with_reducible first | exact HB.out | apply below_alloc | apply pw_below_drewN | apply below_drew1) | exact HB.out)) hb); have n2_ := Aside0.mk (hbox); have n3_ := Aside0.mk ((by rw [hg]; exact (below_size (by repeat (first | (with_reducible first | exact HB.out | apply below_alloc | apply pw_below_drewN | apply below_drew1) | exact HB.out))) : w.heap.size ≤ gb115)); have n4_ := Aside0.mk ((by rw [hg]; exact (below_size (by repeat (first | (with_reducible first | exact HB.out | apply below_alloc | apply pw_below_drewN | apply below_drew1) | exact HB.out))) : w.heap.size ≤ gb115)); clear HO111; clear HB; have HO111 := n0_; have HB := n1_; have BK115 := n2_; have GW115 := n3_; have GE115 := n4_; clear n0_ n1_ n2_ n3_ n4_; clear hb hbox hg; have hcz21_0 : w20.cell? ⟨gb115, 0, none⟩ = some (.int .i64 0) := (blk_cell BK115.out 0).trans rfl; have hcz21_1 : w20.cell? ⟨gb115, 1, none⟩ = some (.int .i64 0) := (blk_cell BK115.out 1).trans rfl; have hcz21_2 : w20.cell? ⟨gb115, 2, none⟩ = some (.string (⟨#[]⟩ : ByteArray)) := (blk_cell BK115.out 2).trans rfl; have hcz21_3 : w20.cell? ⟨gb115, 3, none⟩ = some (.int .i64 0) := (blk_cell BK115.out 3).trans rfl; have hcz21_4 : w20.cell? ⟨gb115, 4, none⟩ = some (.int .i64 0) := (blk_cell BK115.out 4).trans rfl; have hcz21_5 : w20.cell? ⟨gb115, 5, none⟩ = some (.int .i64 0) := (blk_cell BK115.out 5).trans rfl; have hcz21_6 : w20.cell? ⟨gb115, 6, none⟩ = some (.int .i64 0) := (blk_cell BK115.out 6).trans rfl; have hcz21_7 : w20.cell? ⟨gb115, 7, none⟩ = some (.slice none 0 0) := (blk_cell BK115.out 7).trans rfl; have hcz21_8 : w20.cell? ⟨gb115, 8, none⟩ = some (.int .i64 0) := (blk_cell BK115.out 8).trans rfl; have hcz21_9 : w20.cell? ⟨gb115, 9, none⟩ = some (.int .u32 0) := (blk_cell BK115.out 9).trans rfl; have hfz21_0 := blk_frozen BK115.out 0; have hfz21_1 := blk_frozen BK115.out 1; have hfz21_2 := blk_frozen BK115.out 2; have hfz21_3 := blk_frozen BK115.out 3; have hfz21_4 := blk_frozen BK115.out 4; have hfz21_5 := blk_frozen BK115.out 5; have hfz21_6 := blk_frozen BK115.out 6; have hfz21_7 := blk_frozen BK115.out 7; have hfz21_8 := blk_frozen BK115.out 8; have hfz21_9 := blk_frozen BK115.out 9; obtain ⟨Ao22, co22, eo22⟩ := Kd.R_slice HO111.out; subst eo22))
                go_ret
                exact ⟨by first | rfl | (simp [errW_none, errW_some] <;> rfl) | (simp [*, errW_none, errW_some] <;> rfl), by repeat (first | (with_reducible first | exact HB.out | apply below_alloc | apply pw_below_drewN | apply below_drew1 | refine below_set ?_ GE115.out) | exact HB.out)⟩
            · rw [if_neg c16] at H
              exact absurd H (by simp)
          · rw [if_neg c15] at H
            exact absurd H (by simp)
        · rw [if_neg c14] at H
          have c14b0 : (t103 == 3) = false := beq_eq_false_iff_ne.mpr c14
          have c14b1 : (t103 != 3) = true := bne_iff_ne.mpr c14
          by_cases c23 : t103 = 5
          · rw [if_pos c23] at H
            have c23b0 : (t103 == 5) = true := beq_iff_eq.mpr c23
            have c23b1 : (t103 != 5) = false := bne_eq_false_iff_eq.mpr c23
            clear c23
            by_cases c24 : t105 = (wrap64 (4 + (wrap64 (2 * (wrap64 (Int.tdiv (wrap64 (t105 - 4)) 2))))))
            · rw [if_pos c24] at H
              have c24b0 : (t105 == (wrap64 (4 + (wrap64 (2 * (wrap64 (Int.tdiv (wrap64 (t105 - 4)) 2))))))) = true := beq_iff_eq.mpr c24
              have c24b1 : (t105 != (wrap64 (4 + (wrap64 (2 * (wrap64 (Int.tdiv (wrap64 (t105 - 4)) 2))))))) = false := bne_eq_false_iff_eq.mpr c24
              clear c24
              by_cases c25 : (wrap64 (Int.tdiv (wrap64 (t105 - 4)) 2)) = 0
              · rw [if_pos c25] at H
                exact absurd H (by simp)
              · rw [if_neg c25] at H
                have c25b0 : ((wrap64 (Int.tdiv (wrap64 (t105 - 4)) 2)) == 0) = false := beq_eq_false_iff_ne.mpr c25
                have c25b1 : ((wrap64 (Int.tdiv (wrap64 (t105 - 4)) 2)) != 0) = true := bne_iff_ne.mpr c25
                by_cases c26 : (Int.tmod (wrap64 (t108 - 4)) (wrap64 (Int.tdiv (wrap64 (t105 - 4)) 2))) = 0
                · rw [if_pos c26] at H
                  have c26b0 : ((Int.tmod (wrap64 (t108 - 4)) (wrap64 (Int.tdiv (wrap64 (t105 - 4)) 2))) == 0) = true := beq_iff_eq.mpr c26
                  have c26b1 : ((Int.tmod (wrap64 (t108 - 4)) (wrap64 (Int.tdiv (wrap64 (t105 - 4)) 2))) != 0) = false := bne_eq_false_iff_eq.mpr c26
                  clear c26
                  obtain rfl := Option.some.inj H
                  go_enter Tryd.func9, Tryd.ntmps9
                  go_wp2_with (first | ((with_reducible refine gate_callee (f := 24) rfl ?_); refine goesL_ (some 7) rfl rfl Tryd.func24 (by kernel_rfl) rfl #[] rfl (by (try simp only [List.map_toArray, List.map_cons, List.map_nil]); first | done | rfl | (simp only [List.length_drop, List.length_take]; rfl)) ?_; (with_reducible refine (pyxlaw13_awake.calls  true _ ?side1 A2.out).mono ?_); (case side1 => first | exact HLd | (exact LaidOk.below HLd (by repeat (first | (with_reducible first | exact HB.out | apply below_alloc | apply pw_below_drewN | apply below_drew1) | exact HB.out))) | (repeat (first | exact HLd | apply LaidOk.drewN | apply LaidOk.drew | apply LaidOk.alloc))); rintro e w27 ⟨rfl, hb⟩; refine ⟨_, rfl, ?_⟩; have n0_ := Aside0.mk (below_step (by repeat (first | (with_reducible first | exact HB.out | apply below_alloc | apply pw_below_drewN | apply below_drew1) | exact HB.out)) hb); clear HB; have HB := n0_; clear n0_; (try clear hb); (try clear hb2); (try clear hk); (try clear hi)) | ((with_reducible refine gate_callee (f := 25) rfl ?_); refine goesL_ (some 15) rfl rfl Tryd.func25 (by kernel_rfl) rfl #[.int .i64 (wrap64 (1 + (Int.tmod (wrap64 (a0)) 25)))] rfl (by (try simp only [List.map_toArray, List.map_cons, List.map_nil]); first | done | rfl | (simp only [List.length_drop, List.length_take]; rfl)) ?_; (with_reducible refine (params_Get.calls (wrap64 (1 + (Int.tmod (wrap64 (a0)) 25))) t102 t103 t104 t105 t106 t107 t108 t109 t112 t113 true _ ?side1 A4.out).mono ?_); (case side1 => first | exact HLd | (exact LaidOk.below HLd (by repeat (first | (with_reducible first | exact HB.out | apply below_alloc | apply pw_below_drewN | apply below_drew1) | exact HB.out))) | (repeat (first | exact HLd | apply LaidOk.drewN | apply LaidOk.drew | apply LaidOk.alloc))); rintro e w28 ⟨v110, rfl, ho0, hb⟩; refine ⟨_, rfl, ?_⟩; have n0_ := Aside0.mk (Kd.R_lower ho0 (below_size (by repeat (first | (with_reducible first | exact HB.out | apply below_alloc | apply pw_below_drewN | apply below_drew1) | exact HB.out)))); have n1_ := Aside0.mk (below_step (by repeat (first | (with_reducible first | exact HB.out | apply below_alloc | apply pw_below_drewN | apply below_drew1) | exact HB.out)) hb); clear HB; have HO111 := n0_; have HB := n1_; clear n0_ n1_; (try clear hb); (try clear hb2); (try clear hk); (try clear hi); (try clear ho0)) | ((with_reducible refine gate_dst (N := 4) rfl ?_); refine box_event ?hg (N := 4) ?hd (cs := #[.int .i64 0, .int .i64 0, .string (⟨#[]⟩ : ByteArray), .int .i64 0, .int .i64 0, .int .i64 0, .int .i64 0, .slice none 0 0, .int .i64 0, .int .u32 0]) (t := 37) ?hr ?_; (case hd => rfl); (case hg => rfl); (case hr => first | (go_simp; done) | (go_simp; rfl)); intro gb115 hg w29 hbox hb; have n0_ := Aside0.mk (Kd.R_below (by (with_reducible repeat (first | apply Kd.R_alloc | apply Kd.R_drewN | apply Kd.R_drew)); exact HO111.out) hb); have n1_ := Aside0.mk (below_step (by repeat (first | (with_reducible first | exact HB.out | apply below_alloc | apply pw_below_drewN | apply below_drew1) | exact HB.out)) hb); have n2_ := Aside0.mk (hbox); have n3_ := Aside0.mk ((by rw [hg]; exact (below_size (by repeat (first | (with_reducible first | exact HB.out | apply below_alloc | apply pw_below_drewN | apply below_drew1) | exact HB.out))) : w.heap.size ≤ gb115)); have n4_ := Aside0.mk ((by rw [hg]; exact (below_size (by repeat (first | (with_reducible first | exact HB.out | apply below_alloc | apply pw_below_drewN | apply below_drew1) | exact HB.out))) : w.heap.size ≤ gb115)); clear HO111; clear HB; have HO111 := n0_; have HB := n1_; have BK115 := n2_; have GW115 := n3_; have GE115 := n4_; clear n0_ n1_ n2_ n3_ n4_; clear hb hbox hg; have hcz30_0 : w29.cell? ⟨gb115, 0, none⟩ = some (.int .i64 0) := (blk_cell BK115.out 0).trans rfl; have hcz30_1 : w29.cell? ⟨gb115, 1, none⟩ = some (.int .i64 0) := (blk_cell BK115.out 1).trans rfl; have hcz30_2 : w29.cell? ⟨gb115, 2, none⟩ = some (.string (⟨#[]⟩ : ByteArray)) := (blk_cell BK115.out 2).trans rfl; have hcz30_3 : w29.cell? ⟨gb115, 3, none⟩ = some (.int .i64 0) := (blk_cell BK115.out 3).trans rfl; have hcz30_4 : w29.cell? ⟨gb115, 4, none⟩ = some (.int .i64 0) := (blk_cell BK115.out 4).trans rfl; have hcz30_5 : w29.cell? ⟨gb115, 5, none⟩ = some (.int .i64 0) := (blk_cell BK115.out 5).trans rfl; have hcz30_6 : w29.cell? ⟨gb115, 6, none⟩ = some (.int .i64 0) := (blk_cell BK115.out 6).trans rfl; have hcz30_7 : w29.cell? ⟨gb115, 7, none⟩ = some (.slice none 0 0) := (blk_cell BK115.out 7).trans rfl; have hcz30_8 : w29.cell? ⟨gb115, 8, none⟩ = some (.int .i64 0) := (blk_cell BK115.out 8).trans rfl; have hcz30_9 : w29.cell? ⟨gb115, 9, none⟩ = some (.int .u32 0) := (blk_cell BK115.out 9).trans rfl; have hfz30_0 := blk_frozen BK115.out 0; have hfz30_1 := blk_frozen BK115.out 1; have hfz30_2 := blk_frozen BK115.out 2; have hfz30_3 := blk_frozen BK115.out 3; have hfz30_4 := blk_frozen BK115.out 4; have hfz30_5 := blk_frozen BK115.out 5; have hfz30_6 := blk_frozen BK115.out 6; have hfz30_7 := blk_frozen BK115.out 7; have hfz30_8 := blk_frozen BK115.out 8; have hfz30_9 := blk_frozen BK115.out 9; obtain ⟨Ao31, co31, eo31⟩ := Kd.R_slice HO111.out; subst eo31))
                  go_ret
                  exact ⟨by first | rfl | (simp [errW_none, errW_some] <;> rfl) | (simp [*, errW_none, errW_some] <;> rfl), by repeat (first | (with_reducible first | exact HB.out | apply below_alloc | apply pw_below_drewN | apply below_drew1 | refine below_set ?_ GE115.out) | exact HB.out)⟩
                · rw [if_neg c26] at H
                  exact absurd H (by simp)
            · rw [if_neg c24] at H
              exact absurd H (by simp)
          · rw [if_neg c23] at H
            have c23b0 : (t103 == 5) = false := beq_eq_false_iff_ne.mpr c23
            have c23b1 : (t103 != 5) = true := bne_iff_ne.mpr c23
            by_cases c32 : t103 = 2
            · rw [if_pos c32] at H
              have c32b0 : (t103 == 2) = true := beq_iff_eq.mpr c32
              have c32b1 : (t103 != 2) = false := bne_eq_false_iff_eq.mpr c32
              clear c32
              by_cases c33 : (Int.tmod (wrap64 (t105 - 32)) 320) = 0
              · rw [if_pos c33] at H
                have c33b0 : ((Int.tmod (wrap64 (t105 - 32)) 320) == 0) = true := beq_iff_eq.mpr c33
                have c33b1 : ((Int.tmod (wrap64 (t105 - 32)) 320) != 0) = false := bne_eq_false_iff_eq.mpr c33
                clear c33
                obtain rfl := Option.some.inj H
                go_enter Tryd.func9, Tryd.ntmps9
                go_wp2_with (first | ((with_reducible refine gate_callee (f := 24) rfl ?_); refine goesL_ (some 7) rfl rfl Tryd.func24 (by kernel_rfl) rfl #[] rfl (by (try simp only [List.map_toArray, List.map_cons, List.map_nil]); first | done | rfl | (simp only [List.length_drop, List.length_take]; rfl)) ?_; (with_reducible refine (pyxlaw13_awake.calls  true _ ?side1 A2.out).mono ?_); (case side1 => first | exact HLd | (exact LaidOk.below HLd (by repeat (first | (with_reducible first | exact HB.out | apply below_alloc | apply pw_below_drewN | apply below_drew1) | exact HB.out))) | (repeat (first | exact HLd | apply LaidOk.drewN | apply LaidOk.drew | apply LaidOk.alloc))); rintro e w34 ⟨rfl, hb⟩; refine ⟨_, rfl, ?_⟩; have n0_ := Aside0.mk (below_step (by repeat (first | (with_reducible first | exact HB.out | apply below_alloc | apply pw_below_drewN | apply below_drew1) | exact HB.out)) hb); clear HB; have HB := n0_; clear n0_; (try clear hb); (try clear hb2); (try clear hk); (try clear hi)) | ((with_reducible refine gate_callee (f := 25) rfl ?_); refine goesL_ (some 15) rfl rfl Tryd.func25 (by kernel_rfl) rfl #[.int .i64 (wrap64 (1 + (Int.tmod (wrap64 (a0)) 25)))] rfl (by (try simp only [List.map_toArray, List.map_cons, List.map_nil]); first | done | rfl | (simp only [List.length_drop, List.length_take]; rfl)) ?_; (with_reducible refine (params_Get.calls (wrap64 (1 + (Int.tmod (wrap64 (a0)) 25))) t102 t103 t104 t105 t106 t107 t108 t109 t112 t113 true _ ?side1 A4.out).mono ?_); (case side1 => first | exact HLd | (exact LaidOk.below HLd (by repeat (first | (with_reducible first | exact HB.out | apply below_alloc | apply pw_below_drewN | apply below_drew1) | exact HB.out))) | (repeat (first | exact HLd | apply LaidOk.drewN | apply LaidOk.drew | apply LaidOk.alloc))); rintro e w35 ⟨v110, rfl, ho0, hb⟩; refine ⟨_, rfl, ?_⟩; have n0_ := Aside0.mk (Kd.R_lower ho0 (below_size (by repeat (first | (with_reducible first | exact HB.out | apply below_alloc | apply pw_below_drewN | apply below_drew1) | exact HB.out)))); have n1_ := Aside0.mk (below_step (by repeat (first | (with_reducible first | exact HB.out | apply below_alloc | apply pw_below_drewN | apply below_drew1) | exact HB.out)) hb); clear HB; have HO111 := n0_; have HB := n1_; clear n0_ n1_; (try clear hb); (try clear hb2); (try clear hk); (try clear hi); (try clear ho0)) | ((with_reducible refine gate_dst (N := 4) rfl ?_); refine box_event ?hg (N := 4) ?hd (cs := #[.int .i64 0, .int .i64 0, .string (⟨#[]⟩ : ByteArray), .int .i64 0, .int .i64 0, .int .i64 0, .int .i64 0, .slice none 0 0, .int .i64 0, .int .u32 0]) (t := 37) ?hr ?_; (case hd => rfl); (case hg => rfl); (case hr => first | (go_simp; done) | (go_simp; rfl)); intro gb115 hg w36 hbox hb; have n0_ := Aside0.mk (Kd.R_below (by (with_reducible repeat (first | apply Kd.R_alloc | apply Kd.R_drewN | apply Kd.R_drew)); exact HO111.out) hb); have n1_ := Aside0.mk (below_step (by repeat (first | (with_reducible first | exact HB.out | apply below_alloc | apply pw_below_drewN | apply below_drew1) | exact HB.out)) hb); have n2_ := Aside0.mk (hbox); have n3_ := Aside0.mk ((by rw [hg]; exact (below_size (by repeat (first | (with_reducible first | exact HB.out | apply below_alloc | apply pw_below_drewN | apply below_drew1) | exact HB.out))) : w.heap.size ≤ gb115)); have n4_ := Aside0.mk ((by rw [hg]; exact (below_size (by repeat (first | (with_reducible first | exact HB.out | apply below_alloc | apply pw_below_drewN | apply below_drew1) | exact HB.out))) : w.heap.size ≤ gb115)); clear HO111; clear HB; have HO111 := n0_; have HB := n1_; have BK115 := n2_; have GW115 := n3_; have GE115 := n4_; clear n0_ n1_ n2_ n3_ n4_; clear hb hbox hg; have hcz37_0 : w36.cell? ⟨gb115, 0, none⟩ = some (.int .i64 0) := (blk_cell BK115.out 0).trans rfl; have hcz37_1 : w36.cell? ⟨gb115, 1, none⟩ = some (.int .i64 0) := (blk_cell BK115.out 1).trans rfl; have hcz37_2 : w36.cell? ⟨gb115, 2, none⟩ = some (.string (⟨#[]⟩ : ByteArray)) := (blk_cell BK115.out 2).trans rfl; have hcz37_3 : w36.cell? ⟨gb115, 3, none⟩ = some (.int .i64 0) := (blk_cell BK115.out 3).trans rfl; have hcz37_4 : w36.cell? ⟨gb115, 4, none⟩ = some (.int .i64 0) := (blk_cell BK115.out 4).trans rfl; have hcz37_5 : w36.cell? ⟨gb115, 5, none⟩ = some (.int .i64 0) := (blk_cell BK115.out 5).trans rfl; have hcz37_6 : w36.cell? ⟨gb115, 6, none⟩ = some (.int .i64 0) := (blk_cell BK115.out 6).trans rfl; have hcz37_7 : w36.cell? ⟨gb115, 7, none⟩ = some (.slice none 0 0) := (blk_cell BK115.out 7).trans rfl; have hcz37_8 : w36.cell? ⟨gb115, 8, none⟩ = some (.int .i64 0) := (blk_cell BK115.out 8).trans rfl; have hcz37_9 : w36.cell? ⟨gb115, 9, none⟩ = some (.int .u32 0) := (blk_cell BK115.out 9).trans rfl; have hfz37_0 := blk_frozen BK115.out 0; have hfz37_1 := blk_frozen BK115.out 1; have hfz37_2 := blk_frozen BK115.out 2; have hfz37_3 := blk_frozen BK115.out 3; have hfz37_4 := blk_frozen BK115.out 4; have hfz37_5 := blk_frozen BK115.out 5; have hfz37_6 := blk_frozen BK115.out 6; have hfz37_7 := blk_frozen BK115.out 7; have hfz37_8 := blk_frozen BK115.out 8; have hfz37_9 := blk_frozen BK115.out 9; obtain ⟨Ao38, co38, eo38⟩ := Kd.R_slice HO111.out; subst eo38))
                go_ret
                exact ⟨by first | rfl | (simp [errW_none, errW_some] <;> rfl) | (simp [*, errW_none, errW_some] <;> rfl), by repeat (first | (with_reducible first | exact HB.out | apply below_alloc | apply pw_below_drewN | apply below_drew1 | refine below_set ?_ GE115.out) | exact HB.out)⟩
              · rw [if_neg c33] at H
                exact absurd H (by simp)
            · rw [if_neg c32] at H
              have c32b0 : (t103 == 2) = false := beq_eq_false_iff_ne.mpr c32
              have c32b1 : (t103 != 2) = true := bne_iff_ne.mpr c32
              by_cases c39 : t103 = 4
              · rw [if_pos c39] at H
                have c39b0 : (t103 == 4) = true := beq_iff_eq.mpr c39
                have c39b1 : (t103 != 4) = false := bne_eq_false_iff_eq.mpr c39
                clear c39
                obtain rfl := Option.some.inj H
                go_enter Tryd.func9, Tryd.ntmps9
                go_wp2_with (first | ((with_reducible refine gate_callee (f := 24) rfl ?_); refine goesL_ (some 7) rfl rfl Tryd.func24 (by kernel_rfl) rfl #[] rfl (by (try simp only [List.map_toArray, List.map_cons, List.map_nil]); first | done | rfl | (simp only [List.length_drop, List.length_take]; rfl)) ?_; (with_reducible refine (pyxlaw13_awake.calls  true _ ?side1 A2.out).mono ?_); (case side1 => first | exact HLd | (exact LaidOk.below HLd (by repeat (first | (with_reducible first | exact HB.out | apply below_alloc | apply pw_below_drewN | apply below_drew1) | exact HB.out))) | (repeat (first | exact HLd | apply LaidOk.drewN | apply LaidOk.drew | apply LaidOk.alloc))); rintro e w40 ⟨rfl, hb⟩; refine ⟨_, rfl, ?_⟩; have n0_ := Aside0.mk (below_step (by repeat (first | (with_reducible first | exact HB.out | apply below_alloc | apply pw_below_drewN | apply below_drew1) | exact HB.out)) hb); clear HB; have HB := n0_; clear n0_; (try clear hb); (try clear hb2); (try clear hk); (try clear hi)) | ((with_reducible refine gate_callee (f := 25) rfl ?_); refine goesL_ (some 15) rfl rfl Tryd.func25 (by kernel_rfl) rfl #[.int .i64 (wrap64 (1 + (Int.tmod (wrap64 (a0)) 25)))] rfl (by (try simp only [List.map_toArray, List.map_cons, List.map_nil]); first | done | rfl | (simp only [List.length_drop, List.length_take]; rfl)) ?_; (with_reducible refine (params_Get.calls (wrap64 (1 + (Int.tmod (wrap64 (a0)) 25))) t102 t103 t104 t105 t106 t107 t108 t109 t112 t113 true _ ?side1 A4.out).mono ?_); (case side1 => first | exact HLd | (exact LaidOk.below HLd (by repeat (first | (with_reducible first | exact HB.out | apply below_alloc | apply pw_below_drewN | apply below_drew1) | exact HB.out))) | (repeat (first | exact HLd | apply LaidOk.drewN | apply LaidOk.drew | apply LaidOk.alloc))); rintro e w41 ⟨v110, rfl, ho0, hb⟩; refine ⟨_, rfl, ?_⟩; have n0_ := Aside0.mk (Kd.R_lower ho0 (below_size (by repeat (first | (with_reducible first | exact HB.out | apply below_alloc | apply pw_below_drewN | apply below_drew1) | exact HB.out)))); have n1_ := Aside0.mk (below_step (by repeat (first | (with_reducible first | exact HB.out | apply below_alloc | apply pw_below_drewN | apply below_drew1) | exact HB.out)) hb); clear HB; have HO111 := n0_; have HB := n1_; clear n0_ n1_; (try clear hb); (try clear hb2); (try clear hk); (try clear hi); (try clear ho0)) | ((with_reducible refine gate_dst (N := 4) rfl ?_); refine box_event ?hg (N := 4) ?hd (cs := #[.int .i64 0, .int .i64 0, .string (⟨#[]⟩ : ByteArray), .int .i64 0, .int .i64 0, .int .i64 0, .int .i64 0, .slice none 0 0, .int .i64 0, .int .u32 0]) (t := 37) ?hr ?_; (case hd => rfl); (case hg => rfl); (case hr => first | (go_simp; done) | (go_simp; rfl)); intro gb115 hg w42 hbox hb; have n0_ := Aside0.mk (Kd.R_below (by (with_reducible repeat (first | apply Kd.R_alloc | apply Kd.R_drewN | apply Kd.R_drew)); exact HO111.out) hb); have n1_ := Aside0.mk (below_step (by repeat (first | (with_reducible first | exact HB.out | apply below_alloc | apply pw_below_drewN | apply below_drew1) | exact HB.out)) hb); have n2_ := Aside0.mk (hbox); have n3_ := Aside0.mk ((by rw [hg]; exact (below_size (by repeat (first | (with_reducible first | exact HB.out | apply below_alloc | apply pw_below_drewN | apply below_drew1) | exact HB.out))) : w.heap.size ≤ gb115)); have n4_ := Aside0.mk ((by rw [hg]; exact (below_size (by repeat (first | (with_reducible first | exact HB.out | apply below_alloc | apply pw_below_drewN | apply below_drew1) | exact HB.out))) : w.heap.size ≤ gb115)); clear HO111; clear HB; have HO111 := n0_; have HB := n1_; have BK115 := n2_; have GW115 := n3_; have GE115 := n4_; clear n0_ n1_ n2_ n3_ n4_; clear hb hbox hg; have hcz43_0 : w42.cell? ⟨gb115, 0, none⟩ = some (.int .i64 0) := (blk_cell BK115.out 0).trans rfl; have hcz43_1 : w42.cell? ⟨gb115, 1, none⟩ = some (.int .i64 0) := (blk_cell BK115.out 1).trans rfl; have hcz43_2 : w42.cell? ⟨gb115, 2, none⟩ = some (.string (⟨#[]⟩ : ByteArray)) := (blk_cell BK115.out 2).trans rfl; have hcz43_3 : w42.cell? ⟨gb115, 3, none⟩ = some (.int .i64 0) := (blk_cell BK115.out 3).trans rfl; have hcz43_4 : w42.cell? ⟨gb115, 4, none⟩ = some (.int .i64 0) := (blk_cell BK115.out 4).trans rfl; have hcz43_5 : w42.cell? ⟨gb115, 5, none⟩ = some (.int .i64 0) := (blk_cell BK115.out 5).trans rfl; have hcz43_6 : w42.cell? ⟨gb115, 6, none⟩ = some (.int .i64 0) := (blk_cell BK115.out 6).trans rfl; have hcz43_7 : w42.cell? ⟨gb115, 7, none⟩ = some (.slice none 0 0) := (blk_cell BK115.out 7).trans rfl; have hcz43_8 : w42.cell? ⟨gb115, 8, none⟩ = some (.int .i64 0) := (blk_cell BK115.out 8).trans rfl; have hcz43_9 : w42.cell? ⟨gb115, 9, none⟩ = some (.int .u32 0) := (blk_cell BK115.out 9).trans rfl; have hfz43_0 := blk_frozen BK115.out 0; have hfz43_1 := blk_frozen BK115.out 1; have hfz43_2 := blk_frozen BK115.out 2; have hfz43_3 := blk_frozen BK115.out 3; have hfz43_4 := blk_frozen BK115.out 4; have hfz43_5 := blk_frozen BK115.out 5; have hfz43_6 := blk_frozen BK115.out 6; have hfz43_7 := blk_frozen BK115.out 7; have hfz43_8 := blk_frozen BK115.out 8; have hfz43_9 := blk_frozen BK115.out 9; obtain ⟨Ao44, co44, eo44⟩ := Kd.R_slice HO111.out; subst eo44))
                go_ret
                exact ⟨by first | rfl | (simp [errW_none, errW_some] <;> rfl) | (simp [*, errW_none, errW_some] <;> rfl), by repeat (first | (with_reducible first | exact HB.out | apply below_alloc | apply pw_below_drewN | apply below_drew1 | refine below_set ?_ GE115.out) | exact HB.out)⟩
              · rw [if_neg c39] at H
                exact absurd H (by simp)
    · replace c5 := Bool.eq_false_iff.mpr c5
      subst c5
      have H1 : (none) = some r := by rw [if_neg (show ¬ (false = true) by decide)] at H; exact H
      clear H
      have H := H1
      clear H1
      exact absurd H (by simp)
  · replace c3 := Bool.eq_false_iff.mpr c3
    subst c3
    have H1 : (none) = some r := by rw [if_neg (show ¬ (false = true) by decide)] at H; exact H
    clear H
    have H := H1
    clear H1
    exact absurd H (by simp)

/-- THE ONE PURE STATEMENT of pyxlaw13_ParamsSizes: yours. -/
def pyxlaw13_ParamsSizes.Pure : Prop := ∀ (a0 : Int), (Lit.int .u8 a0).wf = true → pyxlaw13_ParamsSizes.f a0 = some true
theorem pyxlaw13_ParamsSizes.walk (P : pyxlaw13_ParamsSizes.Pure) (a0 : Int) (w : World) (HLd : LaidOk w) (w0 : (Lit.int .u8 a0).wf = true) :
    Calls Tryd.prog 9 #[.int .u8 a0] w fun e w' => e = .returned (.bool true) ∧ Below w.heap.size w w' := by
  have h := P a0 w0
  refine (pyxlaw13_ParamsSizes.calls a0 true w HLd h).mono ?_
  rintro e w' ⟨rfl, hd⟩
  exact ⟨rfl, hd⟩

end Go.Proofs.YtjoncjnmhhimhaaDoor.PLS
end

section
/- ParamsSizes, in plain numbers: all 256 arguments, by the kernel. -/
namespace Go.Proofs.YtjoncjnmhhimhaaDoor.Hand
set_option linter.unusedVariables false
set_option linter.unusedSimpArgs false
open Go.RowKit
theorem sizes_all : ∀ m : Nat, m < 256 → PLS.pyxlaw13_ParamsSizes.f (m : Int) = some true := by decide +kernel
theorem pureS : PLS.pyxlaw13_ParamsSizes.Pure := by
  intro a0 h
  have h3 : And (IntKind.u8.min ≤ a0) (a0 ≤ IntKind.u8.max) := by simpa [Lit.wf] using h
  have h2 : 0 ≤ a0 ∧ a0 ≤ 255 := h3
  have := sizes_all a0.toNat (by omega)
  rwa [show ((a0.toNat : Nat) : Int) = a0 by omega] at this
end Go.Proofs.YtjoncjnmhhimhaaDoor.Hand
end

/- Texts of one proof, one behind the other. -/
import Derived.Test.YtjoncjnmhhimhaaDoorBPF0
import Derived.Test.YtjoncjnmhhimhaaDoorBPF1
import Derived.Test.YtjoncjnmhhimhaaDoorProg
import Derived.Below
import Derived.Deep.Draws
import Derived.Deep.AppendLies
import Derived.Maps.AppendAt
import Derived.OwnWalk
import Derived.Laws.BytesArg
import Derived.Laws.MakeOwn
import Derived.Laws.OwnMore
import Derived.Deep.OwnRows
import Derived.Tactics
import Derived.Lib.ConvBytes
import Derived.Laws.Slices
import Derived.WalkKit
import Derived.KernelRfl
import Derived.RowKit3
import Derived.Deep.LoopGhost
import Derived.Deep.QuietTactic
import Derived.BigQuiet
import Derived.WideLaws
import Derived.Deep.DeepCutAuto
import Derived.Deep.CutBlock
import Derived.Deep.RegionHeld3
import Derived.Laws.Rows
import Derived.Lib.AppendStr
import Derived.ArgAppend
import Derived.Laws.IdiomCopy
import Derived.OrdersHeld
import Derived.Laws.BitsLemmas
import Derived.RowKit
import Derived.Test.YtjoncjnmhhimhaaDoorWMore
import Derived.Test.YtjoncjnmhhimhaaDoorWGuard
import Derived.Test.YtjoncjnmhhimhaaDoorWRepsOne
import Derived.Test.YtjoncjnmhhimhaaDoorWTab
import Derived.RangeFuncBox
section
-- Written by the kit's print.py, driven by this place's wip/tools/myprint.py. Not trusted: Lean checks it.
namespace Go.Proofs.YtjoncjnmhhimhaaDoor.PParG
open Go.RowKit Go.Proofs.YtjoncjnmhhimhaaDoor.Hand Go.Proofs.YtjoncjnmhhimhaaDoor.PParT Go.Proofs.YtjoncjnmhhimhaaDoor.PParX Go.Proofs.YtjoncjnmhhimhaaDoorW.PrintWords Go.Proofs.YtjoncjnmhhimhaaDoorW.PrintLast Go.Proofs.YtjoncjnmhhimhaaDoorW.PrintMore
attribute [local go_sem] max2_int min2_int max_two min_two max_three min_three max_four min_four   -- for this text's walks alone
set_option linter.unusedVariables false
set_option linter.unusedSimpArgs false



def errW : Option Int → Value
  | none => .nilIface
  | some c => .iface 0 (.int .i64 c)
theorem errW_none : errW none = .nilIface := rfl
theorem errW_some (c : Int) : errW (some c) = .iface 0 (.int .i64 c) := rfl

-- the values' own types
def rd_L3 (xs : List (List Int)) (i : Int) : (List Int) := xs.getD i.toNat ([] : List Int)
theorem at_L3 {w : World} {A : Option Addr} {n : Nat} {xs : List (List Int)} (h : Kd.C (Kd.slice 27 (Kd.int .u32)) w A n xs) (i : Int) (h0 : 0 ≤ i) (h1 : i < n) : ∃ ad A0 c0, A = some ad ∧ w.cell? (ad.add i.toNat) = some (.slice A0 (rd_L3 xs i).length c0) ∧ (rd_L3 xs i).length ≤ c0 ∧ (Kd.int .u32).C w A0 (rd_L3 xs i).length (rd_L3 xs i) := by
  obtain ⟨ad, c, e, _, hK, hc0⟩ := Kd.C_get h ([] : List Int) i h0 h1
  have hc : ∀ j u, c[j]? = some u → w.cell? (ad.add (i.toNat * 1 + j)) = some u := hc0
  obtain ⟨A0, c0, rfl, l0, g0⟩ := hK
  exact ⟨ad, A0, c0, e, by have hq := hc 0 _ rfl; rwa [Nat.mul_one, Nat.add_zero] at hq, l0, g0⟩

/-! #### struct type 37 -/
structure S37 where
  f0 : Int
  f1 : Int
  f2 : ByteArray
  f3 : Int
  f4 : Int
  f5 : Int
  f6 : Int
  f7 : (List Int)
  f8 : Int
  f9 : Int
def z37 : S37 := ⟨(0 : Int), (0 : Int), (⟨#[]⟩ : ByteArray), (0 : Int), (0 : Int), (0 : Int), (0 : Int), ([] : List Int), (0 : Int), (0 : Int)⟩
def k37 : Kd S37 := Kd.iso (Kd.pair (Kd.int .i64) (Kd.pair (Kd.int .i64) (Kd.pair Kd.string (Kd.pair (Kd.int .i64) (Kd.pair (Kd.int .i64) (Kd.pair (Kd.int .i64) (Kd.pair (Kd.int .i64) (Kd.pair (Kd.slice 27 (Kd.int .u32)) (Kd.pair (Kd.int .i64) (Kd.int .u32)))))))))) (fun x : S37 => (x.f0, x.f1, x.f2, x.f3, x.f4, x.f5, x.f6, x.f7, x.f8, x.f9))
theorem k37_open {w : World} {x : S37} {cs : List Value} (h : k37.K w x cs) : ∃ A7 c7, cs = [.int .i64 x.f0, .int .i64 x.f1, .string x.f2, .int .i64 x.f3, .int .i64 x.f4, .int .i64 x.f5, .int .i64 x.f6, .slice A7 x.f7.length c7, .int .i64 x.f8, .int .u32 x.f9] ∧ x.f7.length ≤ c7 ∧ (Kd.int .u32).C w A7 x.f7.length x.f7 := by
  obtain ⟨_, _, rfl, rfl, ⟨_, _, rfl, rfl, ⟨_, _, rfl, rfl, ⟨_, _, rfl, rfl, ⟨_, _, rfl, rfl, ⟨_, _, rfl, rfl, ⟨_, _, rfl, rfl, ⟨_, _, rfl, ⟨A7, c7, rfl, l7, g7⟩, ⟨_, _, rfl, rfl, rfl⟩⟩⟩⟩⟩⟩⟩⟩⟩ := h
  exact ⟨A7, c7, rfl, l7, g7⟩
theorem k37_openM {w : World} {base : Nat} {ok : Nat → Prop} {x : S37} {cs : List Value} (h : k37.M w base ok x cs) : ∃ v7, cs = [.int .i64 x.f0, .int .i64 x.f1, .string x.f2, .int .i64 x.f3, .int .i64 x.f4, .int .i64 x.f5, .int .i64 x.f6, v7, .int .i64 x.f8, .int .u32 x.f9] ∧ (Kd.int .u32).R 27 w base ok v7 x.f7 := by
  obtain ⟨_, _, rfl, rfl, ⟨_, _, rfl, rfl, ⟨_, _, rfl, rfl, ⟨_, _, rfl, rfl, ⟨_, _, rfl, rfl, ⟨_, _, rfl, rfl, ⟨_, _, rfl, rfl, ⟨_, _, rfl, ⟨v7, rfl, g7⟩, ⟨_, _, rfl, rfl, rfl⟩⟩⟩⟩⟩⟩⟩⟩⟩ := h
  exact ⟨v7, rfl, g7⟩
theorem k37_mk (w : World) (x : S37) {A7 : Option Addr} {c7 : Nat} (l7 : x.f7.length ≤ c7) (g7 : (Kd.int .u32).C w A7 x.f7.length x.f7) : k37.K w x [.int .i64 x.f0, .int .i64 x.f1, .string x.f2, .int .i64 x.f3, .int .i64 x.f4, .int .i64 x.f5, .int .i64 x.f6, .slice A7 x.f7.length c7, .int .i64 x.f8, .int .u32 x.f9] := ⟨[.int .i64 x.f0], [.int .i64 x.f1, .string x.f2, .int .i64 x.f3, .int .i64 x.f4, .int .i64 x.f5, .int .i64 x.f6, .slice A7 x.f7.length c7, .int .i64 x.f8, .int .u32 x.f9], rfl, rfl, ⟨[.int .i64 x.f1], [.string x.f2, .int .i64 x.f3, .int .i64 x.f4, .int .i64 x.f5, .int .i64 x.f6, .slice A7 x.f7.length c7, .int .i64 x.f8, .int .u32 x.f9], rfl, rfl, ⟨[.string x.f2], [.int .i64 x.f3, .int .i64 x.f4, .int .i64 x.f5, .int .i64 x.f6, .slice A7 x.f7.length c7, .int .i64 x.f8, .int .u32 x.f9], rfl, rfl, ⟨[.int .i64 x.f3], [.int .i64 x.f4, .int .i64 x.f5, .int .i64 x.f6, .slice A7 x.f7.length c7, .int .i64 x.f8, .int .u32 x.f9], rfl, rfl, ⟨[.int .i64 x.f4], [.int .i64 x.f5, .int .i64 x.f6, .slice A7 x.f7.length c7, .int .i64 x.f8, .int .u32 x.f9], rfl, rfl, ⟨[.int .i64 x.f5], [.int .i64 x.f6, .slice A7 x.f7.length c7, .int .i64 x.f8, .int .u32 x.f9], rfl, rfl, ⟨[.int .i64 x.f6], [.slice A7 x.f7.length c7, .int .i64 x.f8, .int .u32 x.f9], rfl, rfl, ⟨[.slice A7 x.f7.length c7], [.int .i64 x.f8, .int .u32 x.f9], rfl, ⟨A7, c7, rfl, l7, g7⟩, ⟨[.int .i64 x.f8], [.int .u32 x.f9], rfl, rfl, rfl⟩⟩⟩⟩⟩⟩⟩⟩⟩
theorem k37_mkM (w : World) (base : Nat) (ok : Nat → Prop) (x : S37) {v7 : Value} (g7 : (Kd.int .u32).R 27 w base ok v7 x.f7) : k37.M w base ok x [.int .i64 x.f0, .int .i64 x.f1, .string x.f2, .int .i64 x.f3, .int .i64 x.f4, .int .i64 x.f5, .int .i64 x.f6, v7, .int .i64 x.f8, .int .u32 x.f9] := ⟨[.int .i64 x.f0], [.int .i64 x.f1, .string x.f2, .int .i64 x.f3, .int .i64 x.f4, .int .i64 x.f5, .int .i64 x.f6, v7, .int .i64 x.f8, .int .u32 x.f9], rfl, rfl, ⟨[.int .i64 x.f1], [.string x.f2, .int .i64 x.f3, .int .i64 x.f4, .int .i64 x.f5, .int .i64 x.f6, v7, .int .i64 x.f8, .int .u32 x.f9], rfl, rfl, ⟨[.string x.f2], [.int .i64 x.f3, .int .i64 x.f4, .int .i64 x.f5, .int .i64 x.f6, v7, .int .i64 x.f8, .int .u32 x.f9], rfl, rfl, ⟨[.int .i64 x.f3], [.int .i64 x.f4, .int .i64 x.f5, .int .i64 x.f6, v7, .int .i64 x.f8, .int .u32 x.f9], rfl, rfl, ⟨[.int .i64 x.f4], [.int .i64 x.f5, .int .i64 x.f6, v7, .int .i64 x.f8, .int .u32 x.f9], rfl, rfl, ⟨[.int .i64 x.f5], [.int .i64 x.f6, v7, .int .i64 x.f8, .int .u32 x.f9], rfl, rfl, ⟨[.int .i64 x.f6], [v7, .int .i64 x.f8, .int .u32 x.f9], rfl, rfl, ⟨[v7], [.int .i64 x.f8, .int .u32 x.f9], rfl, ⟨v7, rfl, g7⟩, ⟨[.int .i64 x.f8], [.int .u32 x.f9], rfl, rfl, rfl⟩⟩⟩⟩⟩⟩⟩⟩⟩
def rd_T37 (xs : List S37) (i : Int) : S37 := xs.getD i.toNat z37
theorem at_T37 {w : World} {A : Option Addr} {n : Nat} {xs : List S37} (h : Kd.C k37 w A n xs) (i : Int) (h0 : 0 ≤ i) (h1 : i < n) : ∃ ad A7 c7, A = some ad ∧ w.cell? (ad.add (i.toNat * 10)) = some (.int .i64 (rd_T37 xs i).f0) ∧ w.cell? ⟨(ad.add (i.toNat * 10)).block, (ad.add (i.toNat * 10)).off + 1, none⟩ = some (.int .i64 (rd_T37 xs i).f1) ∧ w.cell? ⟨(ad.add (i.toNat * 10)).block, (ad.add (i.toNat * 10)).off + 2, none⟩ = some (.string (rd_T37 xs i).f2) ∧ w.cell? ⟨(ad.add (i.toNat * 10)).block, (ad.add (i.toNat * 10)).off + 3, none⟩ = some (.int .i64 (rd_T37 xs i).f3) ∧ w.cell? ⟨(ad.add (i.toNat * 10)).block, (ad.add (i.toNat * 10)).off + 4, none⟩ = some (.int .i64 (rd_T37 xs i).f4) ∧ w.cell? ⟨(ad.add (i.toNat * 10)).block, (ad.add (i.toNat * 10)).off + 5, none⟩ = some (.int .i64 (rd_T37 xs i).f5) ∧ w.cell? ⟨(ad.add (i.toNat * 10)).block, (ad.add (i.toNat * 10)).off + 6, none⟩ = some (.int .i64 (rd_T37 xs i).f6) ∧ w.cell? ⟨(ad.add (i.toNat * 10)).block, (ad.add (i.toNat * 10)).off + 7, none⟩ = some (.slice A7 (rd_T37 xs i).f7.length c7) ∧ w.cell? ⟨(ad.add (i.toNat * 10)).block, (ad.add (i.toNat * 10)).off + 8, none⟩ = some (.int .i64 (rd_T37 xs i).f8) ∧ w.cell? ⟨(ad.add (i.toNat * 10)).block, (ad.add (i.toNat * 10)).off + 9, none⟩ = some (.int .u32 (rd_T37 xs i).f9) ∧ (rd_T37 xs i).f7.length ≤ c7 ∧ (Kd.int .u32).C w A7 (rd_T37 xs i).f7.length (rd_T37 xs i).f7 := by
  obtain ⟨ad, c, e, _, hK, hc0⟩ := Kd.C_get h z37 i h0 h1
  have hc : ∀ j u, c[j]? = some u → w.cell? (ad.add (i.toNat * 10 + j)) = some u := hc0
  obtain ⟨A7, c7, rfl, l7, g7⟩ := k37_open hK
  exact ⟨ad, A7, c7, e, hc 0 _ rfl, by rw [← add_field _ _ 1 (by omega)]; exact hc 1 _ rfl, by rw [← add_field _ _ 2 (by omega)]; exact hc 2 _ rfl, by rw [← add_field _ _ 3 (by omega)]; exact hc 3 _ rfl, by rw [← add_field _ _ 4 (by omega)]; exact hc 4 _ rfl, by rw [← add_field _ _ 5 (by omega)]; exact hc 5 _ rfl, by rw [← add_field _ _ 6 (by omega)]; exact hc 6 _ rfl, by rw [← add_field _ _ 7 (by omega)]; exact hc 7 _ rfl, by rw [← add_field _ _ 8 (by omega)]; exact hc 8 _ rfl, by rw [← add_field _ _ 9 (by omega)]; exact hc 9 _ rfl, l7, g7⟩

end Go.Proofs.YtjoncjnmhhimhaaDoor.PParG
namespace Go.Proofs.YtjoncjnmhhimhaaDoor.PParG
open Go.RowKit Go.Proofs.YtjoncjnmhhimhaaDoor.Hand Go.Proofs.YtjoncjnmhhimhaaDoor.PParT Go.Proofs.YtjoncjnmhhimhaaDoor.PParX Go.Proofs.YtjoncjnmhhimhaaDoorW.PrintWords Go.Proofs.YtjoncjnmhhimhaaDoorW.PrintLast Go.Proofs.YtjoncjnmhhimhaaDoorW.PrintMore
attribute [local go_sem] max2_int min2_int max_two min_two max_three min_three max_four min_four   -- for this text's walks alone
set_option linter.unusedVariables false
set_option linter.unusedSimpArgs false

-- BY CONTRACT: function 45 (params_kem)

-- BY CONTRACT: function 46 (params_slh)

-- BY CONTRACT: function 47 (params_of)

-- BY CONTRACT: function 48 (params_xmss)

-- BY CONTRACT: function 49 (params_nist)

/-! ### params_Get: function 25 -/
mutual
def params_Get.j1 : Nat → Int → Int → Int → ByteArray → Int → Int → Int → Int → List Int → Int → Int → Option (Int × Int × ByteArray × Int × Int × Int × Int × List Int × Int × Int × Bool)
  | 0, _, _, _, _, _, _, _, _, _, _, _ => none
  | k + 1, x0, x103000, x103001, x103002, x103003, x103004, x103005, x103006, x103007, x103008, x103009 => if x0 = 4 then ((params_nist.f 3 (wrap64 (x0 + 13))).bind fun t142 => (some (x0, 2, x103002, x103003, x103004, 32, x103006, t142, wrap64 ((-44) - x0), x103009, true))) else (if x0 = 5 then ((params_nist.f 3 (wrap64 (x0 + 13))).bind fun t145 => (some (x0, 2, x103002, x103003, x103004, 32, x103006, t145, wrap64 ((-44) - x0), x103009, true))) else (if x0 = 6 then ((params_nist.f 3 (wrap64 (x0 + 13))).bind fun t148 => (some (x0, 2, x103002, x103003, x103004, 32, x103006, t148, wrap64 ((-44) - x0), x103009, true))) else (some (x0, x103001, x103002, x103003, x103004, x103005, x103006, x103007, x103008, x103009, true))))
def params_Get.j0 : Nat → Int → Bool → Int → Int → ByteArray → Int → Int → Int → Int → Int → Int → Option (Int × Int × ByteArray × Int × Int × Int × Int × List Int × Int × Int × Bool)
  | 0, _, _, _, _, _, _, _, _, _, _, _ => none
  | k + 1, x0, x7, x103000, x103001, x103002, x103003, x103004, x103005, x103006, x103008, x103009 => if x7 = true then (some (x103000, x103001, x103002, x103003, x103004, x103005, x103006, ([] : List Int), x103008, x103009, false)) else (if x0 ≤ 3 then ((params_kem.f x0).bind fun bt103 => (params_Get.j1 k x0 bt103.1 bt103.2.1 bt103.2.2.1 bt103.2.2.2.1 bt103.2.2.2.2.1 bt103.2.2.2.2.2.1 bt103.2.2.2.2.2.2.1 bt103.2.2.2.2.2.2.2.1 bt103.2.2.2.2.2.2.2.2.1 bt103.2.2.2.2.2.2.2.2.2)) else (if x0 = 4 then (params_Get.j1 k x0 0 0 (⟨#[77, 76, 45, 68, 83, 65, 45, 52, 52]⟩ : ByteArray) 1312 2560 0 2420 ([] : List Int) 0 0) else (if x0 = 5 then (params_Get.j1 k x0 0 0 (⟨#[77, 76, 45, 68, 83, 65, 45, 54, 53]⟩ : ByteArray) 1952 4032 0 3309 ([] : List Int) 0 0) else (if x0 = 6 then (params_Get.j1 k x0 0 0 (⟨#[77, 76, 45, 68, 83, 65, 45, 56, 55]⟩ : ByteArray) 2592 4896 0 4627 ([] : List Int) 0 0) else (if x0 < 19 then ((params_slh.f x0).bind fun bt115 => (params_Get.j1 k x0 bt115.1 bt115.2.1 bt115.2.2.1 bt115.2.2.2.1 bt115.2.2.2.2.1 bt115.2.2.2.2.2.1 bt115.2.2.2.2.2.2.1 bt115.2.2.2.2.2.2.2.1 bt115.2.2.2.2.2.2.2.2.1 bt115.2.2.2.2.2.2.2.2.2)) else (if x0 = 19 then ((params_of.f (⟨#[49, 46, 50, 46, 56, 52, 48, 46, 49, 49, 51, 53, 52, 57, 46, 49, 46, 57, 46, 49, 54, 46, 51, 46, 49, 55]⟩ : ByteArray)).bind fun t127 => (params_Get.j1 k x0 0 4 (⟨#[72, 83, 83, 47, 76, 77, 83]⟩ : ByteArray) 0 0 0 0 t127 0 0)) else ((params_xmss.f x0).bind fun bt130 => (params_Get.j1 k x0 bt130.1 bt130.2.1 bt130.2.2.1 bt130.2.2.2.1 bt130.2.2.2.2.1 bt130.2.2.2.2.2.1 bt130.2.2.2.2.2.2.1 bt130.2.2.2.2.2.2.2.1 bt130.2.2.2.2.2.2.2.2.1 bt130.2.2.2.2.2.2.2.2.2))))))))
end
def params_Get.f (k : Nat) (a0 : Int) : Option (Int × Int × ByteArray × Int × Int × Int × Int × List Int × Int × Int × Bool) := if a0 < 1 then (params_Get.j0 k a0 true 0 0 (⟨#[]⟩ : ByteArray) 0 0 0 0 0 0) else (params_Get.j0 k a0 (decide (a0 > 25)) 0 0 (⟨#[]⟩ : ByteArray) 0 0 0 0 0 0)
theorem params_Get.mono_l : ∀ k, (∀ y0 y1 y2 y3 y4 y5 y6 y7 y8 y9 y10, LeO (params_Get.j1 k y0 y1 y2 y3 y4 y5 y6 y7 y8 y9 y10) (params_Get.j1 (k + 1) y0 y1 y2 y3 y4 y5 y6 y7 y8 y9 y10)) ∧ (∀ y0 y1 y2 y3 y4 y5 y6 y7 y8 y9 y10, LeO (params_Get.j0 k y0 y1 y2 y3 y4 y5 y6 y7 y8 y9 y10) (params_Get.j0 (k + 1) y0 y1 y2 y3 y4 y5 y6 y7 y8 y9 y10))
  | 0 => ⟨fun _ _ _ _ _ _ _ _ _ _ _ r h => by simp [params_Get.j1] at h, fun _ _ _ _ _ _ _ _ _ _ _ r h => by simp [params_Get.j0] at h⟩
  | k + 1 => by
    obtain ⟨ih0, ih1⟩ := params_Get.mono_l k
    refine ⟨?_, ?_⟩
    · intro y0 y1 y2 y3 y4 y5 y6 y7 y8 y9 y10
      unfold params_Get.j1
      repeat' first
      | (with_reducible exact ih0 _ _ _ _ _ _ _ _ _ _ _)
      | (with_reducible exact ih1 _ _ _ _ _ _ _ _ _ _ _)
      | (with_reducible exact LeO.refl _)
      | (with_reducible exact LeO.none _)
      | (with_reducible refine LeO.ite ?_ ?_)
      | (with_reducible refine LeO.bind ?_ (fun _ => ?_))
      | exact ih0 _ _ _ _ _ _ _ _ _ _ _
      | exact ih1 _ _ _ _ _ _ _ _ _ _ _
      | exact LeO.none _
      | refine LeO.ite ?_ ?_
      | refine LeO.bind ?_ (fun _ => ?_)
    · intro y0 y1 y2 y3 y4 y5 y6 y7 y8 y9 y10
      unfold params_Get.j0
      repeat' first
      | (with_reducible exact ih0 _ _ _ _ _ _ _ _ _ _ _)
      | (with_reducible exact ih1 _ _ _ _ _ _ _ _ _ _ _)
      | (with_reducible exact LeO.refl _)
      | (with_reducible exact LeO.none _)
      | (with_reducible refine LeO.ite ?_ ?_)
      | (with_reducible refine LeO.bind ?_ (fun _ => ?_))
      | exact ih0 _ _ _ _ _ _ _ _ _ _ _
      | exact ih1 _ _ _ _ _ _ _ _ _ _ _
      | exact LeO.none _
      | refine LeO.ite ?_ ?_
      | refine LeO.bind ?_ (fun _ => ?_)
theorem params_Get.mono : ∀ a0 k, LeO (params_Get.f k a0) (params_Get.f (k + 1) a0) := by
  intro a0 k
  obtain ⟨ih0, ih1⟩ := params_Get.mono_l k
  unfold params_Get.f
  repeat' first
      | (with_reducible exact ih0 _ _ _ _ _ _ _ _ _ _ _)
      | (with_reducible exact ih1 _ _ _ _ _ _ _ _ _ _ _)
      | (with_reducible exact LeO.refl _)
      | (with_reducible exact LeO.none _)
      | (with_reducible refine LeO.ite ?_ ?_)
      | (with_reducible refine LeO.bind ?_ (fun _ => ?_))
      | exact ih0 _ _ _ _ _ _ _ _ _ _ _
      | exact ih1 _ _ _ _ _ _ _ _ _ _ _
      | exact LeO.none _
      | refine LeO.ite ?_ ?_
      | refine LeO.bind ?_ (fun _ => ?_)
set_option maxHeartbeats 8000000 in
set_option maxRecDepth 100000 in
theorem params_Get.calls (k : Nat) (a0 : Int) (r1 : Int) (r2 : Int) (r3 : ByteArray) (r4 : Int) (r5 : Int) (r6 : Int) (r7 : Int) (r8 : List Int) (r9 : Int) (r10 : Int) (r11 : Bool) (w : World) (HLd : LaidOk w) (h : params_Get.f k a0 = some (r1, r2, r3, r4, r5, r6, r7, r8, r9, r10, r11)) :
    Calls Tryd.prog 25 #[.int .i64 a0] w fun e w' => ∃ v7_ : Value, e = .returned (.tuple #[.agg #[.int .i64 r1, .int .i64 r2, .string r3, .int .i64 r4, .int .i64 r5, .int .i64 r6, .int .i64 r7, v7_, .int .i64 r9, .int .u32 r10], .bool r11]) ∧ Kd.R (Kd.int .u32) 27 w' w.heap.size (fun _ => True) v7_ r8 ∧ Below w.heap.size w w' := by
  have hu37 := Tryd.underlying37
  have HB := Aside0.mk (Below.refl w.heap.size w)
  have H : (if a0 < 1 then (params_Get.j0 k a0 true 0 0 (⟨#[]⟩ : ByteArray) 0 0 0 0 0 0) else (params_Get.j0 k a0 (decide (a0 > 25)) 0 0 (⟨#[]⟩ : ByteArray) 0 0 0 0 0 0)) = some (r1, r2, r3, r4, r5, r6, r7, r8, r9, r10, r11) := h
  clear h
  have HC2 := Aside0.mk H
  clear H
  go_enter Tryd.func25, Tryd.ntmps25
  go_upto_block 0 with (first | ((with_reducible refine gate_dst (N := 2) rfl ?_); refine box_event ?hg (N := 2) ?hd (cs := #[.int .i64 0, .int .i64 0, .string (⟨#[]⟩ : ByteArray), .int .i64 0, .int .i64 0, .int .i64 0, .int .i64 0, .slice none 0 0, .int .i64 0, .int .u32 0]) (t := 37) ?hr ?_; (case hd => rfl); (case hg => rfl); (case hr => first | (go_simp; done) | (go_simp; rfl)); intro gb101 hg w3 hbox hb; have n0_ := Aside0.mk (below_step (by repeat (first | (with_reducible first | exact HB.out | apply below_alloc | apply pw_below_drewN | apply below_drew1) | exact HB.out)) hb); have n1_ := Aside0.mk (hbox); have n2_ := Aside0.mk ((by rw [hg]; exact (below_size (by repeat (first | (with_reducible first | exact HB.out | apply below_alloc | apply pw_below_drewN | apply below_drew1) | exact HB.out))) : w.heap.size ≤ gb101)); have n3_ := Aside0.mk ((by rw [hg]; exact (below_size (by repeat (first | (with_reducible first | exact HB.out | apply below_alloc | apply pw_below_drewN | apply below_drew1) | exact HB.out))) : w.heap.size ≤ gb101)); clear HB; have HB := n0_; have BK101 := n1_; have GW101 := n2_; have GE101 := n3_; clear n0_ n1_ n2_ n3_; clear hb hbox hg) | ((with_reducible refine gate_dst (N := 4) rfl ?_); refine box_event ?hg (N := 4) ?hd (cs := #[.int .i64 0, .int .i64 0, .string (⟨#[]⟩ : ByteArray), .int .i64 0, .int .i64 0, .int .i64 0, .int .i64 0, .slice none 0 0, .int .i64 0, .int .u32 0]) (t := 37) ?hr ?_; (case hd => rfl); (case hg => rfl); (case hr => first | (go_simp; done) | (go_simp; rfl)); intro gb102 hg w4 hbox hb; have n0_ := Aside0.mk (blk_below (g := gb101) (o := .cells #[.int .i64 0, .int .i64 0, .string (⟨#[]⟩ : ByteArray), .int .i64 0, .int .i64 0, .int .i64 0, .int .i64 0, .slice none 0 0, .int .i64 0, .int .u32 0] 37 (0, 0)) (by (with_reducible repeat (first | refine blk_drewN ?_ _ | refine blk_drew ?_ | refine blk_alloc ?_ _)); exact BK101.out) hb); have n1_ := Aside0.mk (below_step (by repeat (first | (with_reducible first | exact HB.out | apply below_alloc | apply pw_below_drewN | apply below_drew1 | refine below_set ?_ GE101.out) | exact HB.out)) hb); have n2_ := Aside0.mk (hbox); have n3_ := Aside0.mk ((by rw [hg]; exact (below_size (by repeat (first | (with_reducible first | exact HB.out | apply below_alloc | apply pw_below_drewN | apply below_drew1 | refine below_set ?_ GE101.out) | exact HB.out))) : w.heap.size ≤ gb102)); have n4_ := Aside0.mk ((by rw [hg]; exact (below_size (by repeat (first | (with_reducible first | exact HB.out | apply below_alloc | apply pw_below_drewN | apply below_drew1 | refine below_set ?_ GE101.out) | exact HB.out))) : w.heap.size ≤ gb102)); have n5_ := Aside0.mk ((by rw [hg]; exact Nat.ne_of_lt (blk_lt (g := gb101) (o := .cells #[.int .i64 0, .int .i64 0, .string (⟨#[]⟩ : ByteArray), .int .i64 0, .int .i64 0, .int .i64 0, .int .i64 0, .slice none 0 0, .int .i64 0, .int .u32 0] 37 (0, 0)) (by (with_reducible repeat (first | refine blk_drewN ?_ _ | refine blk_drew ?_ | refine blk_alloc ?_ _)); exact BK101.out)) : gb101 ≠ gb102)); have n6_ := Aside0.mk ((by rw [hg]; exact Nat.ne_of_gt (blk_lt (g := gb101) (o := .cells #[.int .i64 0, .int .i64 0, .string (⟨#[]⟩ : ByteArray), .int .i64 0, .int .i64 0, .int .i64 0, .int .i64 0, .slice none 0 0, .int .i64 0, .int .u32 0] 37 (0, 0)) (by (with_reducible repeat (first | refine blk_drewN ?_ _ | refine blk_drew ?_ | refine blk_alloc ?_ _)); exact BK101.out)) : gb102 ≠ gb101)); clear BK101; clear HB; have BK101 := n0_; have HB := n1_; have BK102 := n2_; have GW102 := n3_; have GE102 := n4_; have NB101_102 := n5_; have NB102_101 := n6_; clear n0_ n1_ n2_ n3_ n4_ n5_ n6_; clear hb hbox hg))
  (try simp only [Act.put, List.setIfInBounds_toArray, List.set_cons_zero, List.set_cons_succ])
  go_cut [] (fun wc => ∃ (kq : Nat) (x102000_1 : Int) (x102001_1 : Int) (x102002_1 : ByteArray) (x102003_1 : Int) (x102004_1 : Int) (x102005_1 : Int) (x102006_1 : Int) (x102008_1 : Int) (x102009_1 : Int) (x103000_1 : Int) (x103001_1 : Int) (x103002_1 : ByteArray) (x103003_1 : Int) (x103004_1 : Int) (x103005_1 : Int) (x103006_1 : Int) (x103007_1 : List Int) (x103008_1 : Int) (x103009_1 : Int) (u103007 : Value), Aside0 (params_Get.j1 kq a0 x103000_1 x103001_1 x103002_1 x103003_1 x103004_1 x103005_1 x103006_1 x103007_1 x103008_1 x103009_1 = some (r1, r2, r3, r4, r5, r6, r7, r8, r9, r10, r11)) ∧ Aside0 (kq ≤ k) ∧ Aside0 (Kd.R (Kd.int .u32) 27 wc w.heap.size (fun _ => True) u103007 x103007_1) ∧ Aside0 (wc.heap[gb101]? = some (.cells #[.int .i64 x102000_1, .int .i64 x102001_1, .string x102002_1, .int .i64 x102003_1, .int .i64 x102004_1, .int .i64 x102005_1, .int .i64 x102006_1, (.slice none 0 0), .int .i64 x102008_1, .int .u32 x102009_1] 37 (0, 0))) ∧ Aside0 (wc.heap[gb102]? = some (.cells #[.int .i64 x103000_1, .int .i64 x103001_1, .string x103002_1, .int .i64 x103003_1, .int .i64 x103004_1, .int .i64 x103005_1, .int .i64 x103006_1, u103007, .int .i64 x103008_1, .int .u32 x103009_1] 37 (0, 0))) ∧ Aside0 (Below w.heap.size w wc))
  case first =>
    have H := HC2.out
    clear HC2
    have HC5 := Aside0.mk H
    clear H
    go_upto_region 3 with (fail)
    go_cut [7] (fun v7 wc => ∃ (kq : Nat) (x7_4 : Bool), v7 = .bool x7_4 ∧ Aside0 (params_Get.j0 kq a0 x7_4 0 0 (⟨#[]⟩ : ByteArray) 0 0 0 0 0 0 = some (r1, r2, r3, r4, r5, r6, r7, r8, r9, r10, r11)) ∧ Aside0 (kq ≤ k) ∧ Aside0 (wc.heap[gb101]? = some (.cells #[.int .i64 0, .int .i64 0, .string (⟨#[]⟩ : ByteArray), .int .i64 0, .int .i64 0, .int .i64 0, .int .i64 0, (.slice none 0 0), .int .i64 0, .int .u32 0] 37 (0, 0))) ∧ Aside0 (wc.heap[gb102]? = some (.cells #[.int .i64 0, .int .i64 0, .string (⟨#[]⟩ : ByteArray), .int .i64 0, .int .i64 0, .int .i64 0, .int .i64 0, (.slice none 0 0), .int .i64 0, .int .u32 0] 37 (0, 0))) ∧ Aside0 (Below w.heap.size w wc))
    case first =>
      have H := HC5.out
      clear HC5
      by_cases c6 : a0 < 1
      · rw [if_pos c6] at H
        have c6b0 : decide (a0 < 1) = true := decide_eq_true c6
        clear c6
        (first | rw [c6b0] | (simp only [i64_w, i32_w]; rw [c6b0]) | skip)
        have H' := Aside0.mk H
        clear H
        go_wp2
        go_meet
        case rel => exact ⟨_, (true), (by first | rfl | (simp; done) | (simp [*]; done)), H', ⟨by first | omega | exact Nat.le_refl _⟩, ⟨by (with_reducible repeat (first | refine blk_drewN ?_ _ | refine blk_drew ?_ | refine blk_alloc ?_ _)); exact BK101.out⟩, ⟨by (with_reducible repeat (first | refine blk_drewN ?_ _ | refine blk_drew ?_ | refine blk_alloc ?_ _)); exact BK102.out⟩, ⟨by repeat (first | (with_reducible first | exact HB.out | apply below_alloc | apply pw_below_drewN | apply below_drew1 | refine below_set ?_ GE101.out | refine below_set ?_ GE102.out) | exact HB.out)⟩⟩
      · rw [if_neg c6] at H
        have c6b0 : decide (a0 < 1) = false := decide_eq_false c6
        clear c6
        (first | rw [c6b0] | (simp only [i64_w, i32_w]; rw [c6b0]) | skip)
        have H' := Aside0.mk H
        clear H
        go_wp2
        go_meet
        case rel => exact ⟨_, (decide (a0 > 25)), (by first | rfl | (simp; done) | (simp [*]; done)), H', ⟨by first | omega | exact Nat.le_refl _⟩, ⟨by (with_reducible repeat (first | refine blk_drewN ?_ _ | refine blk_drew ?_ | refine blk_alloc ?_ _)); exact BK101.out⟩, ⟨by (with_reducible repeat (first | refine blk_drewN ?_ _ | refine blk_drew ?_ | refine blk_alloc ?_ _)); exact BK102.out⟩, ⟨by repeat (first | (with_reducible first | exact HB.out | apply below_alloc | apply pw_below_drewN | apply below_drew1 | refine below_set ?_ GE101.out | refine below_set ?_ GE102.out) | exact HB.out)⟩⟩
    case rest =>
      clear HC5
      try clear c2
      try clear p2
      try clear c6
      try clear c6b0
      obtain ⟨kq, x7_4, rfl, HA, HJ4, BK101, BK102, HB⟩ := hcut
      cases kq with
      | zero => exact absurd HA.out (by simp [params_Get.j0])
      | succ kj4 =>
        have H := HA.out
        clear HA
        simp only [params_Get.j0] at H
        by_cases c7 : x7_4 = true
        · subst c7
          have H1 : (some (0, 0, (⟨#[]⟩ : ByteArray), 0, 0, 0, 0, ([] : List Int), 0, 0, false)) = some (r1, r2, r3, r4, r5, r6, r7, r8, r9, r10, r11) := by rw [if_pos rfl] at H; exact H
          clear H
          have H := H1
          clear H1
          simp only [Option.some.injEq, Prod.mk.injEq] at H
          obtain ⟨rfl, rfl, rfl, rfl, rfl, rfl, rfl, rfl, rfl, rfl, rfl⟩ := H
          have hnb8 := NB102_101.out
          have hnc8 := NB101_102.out
          have hcz9_0 : wc.cell? ⟨gb102, 0, none⟩ = some (.int .i64 0) := (blk_cell BK102.out 0).trans rfl
          have hcz9_1 : wc.cell? ⟨gb102, 1, none⟩ = some (.int .i64 0) := (blk_cell BK102.out 1).trans rfl
          have hcz9_2 : wc.cell? ⟨gb102, 2, none⟩ = some (.string (⟨#[]⟩ : ByteArray)) := (blk_cell BK102.out 2).trans rfl
          have hcz9_3 : wc.cell? ⟨gb102, 3, none⟩ = some (.int .i64 0) := (blk_cell BK102.out 3).trans rfl
          have hcz9_4 : wc.cell? ⟨gb102, 4, none⟩ = some (.int .i64 0) := (blk_cell BK102.out 4).trans rfl
          have hcz9_5 : wc.cell? ⟨gb102, 5, none⟩ = some (.int .i64 0) := (blk_cell BK102.out 5).trans rfl
          have hcz9_6 : wc.cell? ⟨gb102, 6, none⟩ = some (.int .i64 0) := (blk_cell BK102.out 6).trans rfl
          have hcz9_7 : wc.cell? ⟨gb102, 7, none⟩ = some (.slice none 0 0) := (blk_cell BK102.out 7).trans rfl
          have hcz9_8 : wc.cell? ⟨gb102, 8, none⟩ = some (.int .i64 0) := (blk_cell BK102.out 8).trans rfl
          have hcz9_9 : wc.cell? ⟨gb102, 9, none⟩ = some (.int .u32 0) := (blk_cell BK102.out 9).trans rfl
          have hfz9_0 := blk_frozen BK102.out 0
          have hfz9_1 := blk_frozen BK102.out 1
          have hfz9_2 := blk_frozen BK102.out 2
          have hfz9_3 := blk_frozen BK102.out 3
          have hfz9_4 := blk_frozen BK102.out 4
          have hfz9_5 := blk_frozen BK102.out 5
          have hfz9_6 := blk_frozen BK102.out 6
          have hfz9_7 := blk_frozen BK102.out 7
          have hfz9_8 := blk_frozen BK102.out 8
          have hfz9_9 := blk_frozen BK102.out 9
          have hcz10_0 : wc.cell? ⟨gb101, 0, none⟩ = some (.int .i64 0) := (blk_cell BK101.out 0).trans rfl
          have hcz10_1 : wc.cell? ⟨gb101, 1, none⟩ = some (.int .i64 0) := (blk_cell BK101.out 1).trans rfl
          have hcz10_2 : wc.cell? ⟨gb101, 2, none⟩ = some (.string (⟨#[]⟩ : ByteArray)) := (blk_cell BK101.out 2).trans rfl
          have hcz10_3 : wc.cell? ⟨gb101, 3, none⟩ = some (.int .i64 0) := (blk_cell BK101.out 3).trans rfl
          have hcz10_4 : wc.cell? ⟨gb101, 4, none⟩ = some (.int .i64 0) := (blk_cell BK101.out 4).trans rfl
          have hcz10_5 : wc.cell? ⟨gb101, 5, none⟩ = some (.int .i64 0) := (blk_cell BK101.out 5).trans rfl
          have hcz10_6 : wc.cell? ⟨gb101, 6, none⟩ = some (.int .i64 0) := (blk_cell BK101.out 6).trans rfl
          have hcz10_7 : wc.cell? ⟨gb101, 7, none⟩ = some (.slice none 0 0) := (blk_cell BK101.out 7).trans rfl
          have hcz10_8 : wc.cell? ⟨gb101, 8, none⟩ = some (.int .i64 0) := (blk_cell BK101.out 8).trans rfl
          have hcz10_9 : wc.cell? ⟨gb101, 9, none⟩ = some (.int .u32 0) := (blk_cell BK101.out 9).trans rfl
          have hfz10_0 := blk_frozen BK101.out 0
          have hfz10_1 := blk_frozen BK101.out 1
          have hfz10_2 := blk_frozen BK101.out 2
          have hfz10_3 := blk_frozen BK101.out 3
          have hfz10_4 := blk_frozen BK101.out 4
          have hfz10_5 := blk_frozen BK101.out 5
          have hfz10_6 := blk_frozen BK101.out 6
          have hfz10_7 := blk_frozen BK101.out 7
          have hfz10_8 := blk_frozen BK101.out 8
          have hfz10_9 := blk_frozen BK101.out 9
          go_wp2
          refine bodyPost_ret (results_ct rfl _ _ gb101 37 #[.int .i64 0, .int .i64 0, .string (⟨#[]⟩ : ByteArray), .int .i64 0, .int .i64 0, .int .i64 0, .int .i64 0, .slice none 0 0, .int .i64 0, .int .u32 0] (0, 0) _ rfl (by (with_reducible repeat (first | refine blk_drewN ?_ _ | refine blk_drew ?_ | refine blk_alloc ?_ _)); refine blk_put (cs := #[.int .i64 0, .int .i64 0, .string (⟨#[]⟩ : ByteArray), .int .i64 0, .int .i64 0, .int .i64 0, .int .i64 0, .slice none 0 0, .int .i64 0, .int .u32 0]) ?_ 9 _ rfl; (with_reducible repeat (first | refine blk_drewN ?_ _ | refine blk_drew ?_ | refine blk_alloc ?_ _)); refine blk_put (cs := #[.int .i64 0, .int .i64 0, .string (⟨#[]⟩ : ByteArray), .int .i64 0, .int .i64 0, .int .i64 0, .int .i64 0, .slice none 0 0, .int .i64 0, .int .u32 0]) ?_ 8 _ rfl; (with_reducible repeat (first | refine blk_drewN ?_ _ | refine blk_drew ?_ | refine blk_alloc ?_ _)); refine blk_put (cs := #[.int .i64 0, .int .i64 0, .string (⟨#[]⟩ : ByteArray), .int .i64 0, .int .i64 0, .int .i64 0, .int .i64 0, .slice none 0 0, .int .i64 0, .int .u32 0]) ?_ 7 _ rfl; (with_reducible repeat (first | refine blk_drewN ?_ _ | refine blk_drew ?_ | refine blk_alloc ?_ _)); refine blk_put (cs := #[.int .i64 0, .int .i64 0, .string (⟨#[]⟩ : ByteArray), .int .i64 0, .int .i64 0, .int .i64 0, .int .i64 0, .slice none 0 0, .int .i64 0, .int .u32 0]) ?_ 6 _ rfl; (with_reducible repeat (first | refine blk_drewN ?_ _ | refine blk_drew ?_ | refine blk_alloc ?_ _)); refine blk_put (cs := #[.int .i64 0, .int .i64 0, .string (⟨#[]⟩ : ByteArray), .int .i64 0, .int .i64 0, .int .i64 0, .int .i64 0, .slice none 0 0, .int .i64 0, .int .u32 0]) ?_ 5 _ rfl; (with_reducible repeat (first | refine blk_drewN ?_ _ | refine blk_drew ?_ | refine blk_alloc ?_ _)); refine blk_put (cs := #[.int .i64 0, .int .i64 0, .string (⟨#[]⟩ : ByteArray), .int .i64 0, .int .i64 0, .int .i64 0, .int .i64 0, .slice none 0 0, .int .i64 0, .int .u32 0]) ?_ 4 _ rfl; (with_reducible repeat (first | refine blk_drewN ?_ _ | refine blk_drew ?_ | refine blk_alloc ?_ _)); refine blk_put (cs := #[.int .i64 0, .int .i64 0, .string (⟨#[]⟩ : ByteArray), .int .i64 0, .int .i64 0, .int .i64 0, .int .i64 0, .slice none 0 0, .int .i64 0, .int .u32 0]) ?_ 3 _ rfl; (with_reducible repeat (first | refine blk_drewN ?_ _ | refine blk_drew ?_ | refine blk_alloc ?_ _)); refine blk_put (cs := #[.int .i64 0, .int .i64 0, .string (⟨#[]⟩ : ByteArray), .int .i64 0, .int .i64 0, .int .i64 0, .int .i64 0, .slice none 0 0, .int .i64 0, .int .u32 0]) ?_ 2 _ rfl; (with_reducible repeat (first | refine blk_drewN ?_ _ | refine blk_drew ?_ | refine blk_alloc ?_ _)); refine blk_put (cs := #[.int .i64 0, .int .i64 0, .string (⟨#[]⟩ : ByteArray), .int .i64 0, .int .i64 0, .int .i64 0, .int .i64 0, .slice none 0 0, .int .i64 0, .int .u32 0]) ?_ 1 _ rfl; (with_reducible repeat (first | refine blk_drewN ?_ _ | refine blk_drew ?_ | refine blk_alloc ?_ _)); refine blk_put (cs := #[.int .i64 0, .int .i64 0, .string (⟨#[]⟩ : ByteArray), .int .i64 0, .int .i64 0, .int .i64 0, .int .i64 0, .slice none 0 0, .int .i64 0, .int .u32 0]) ?_ 0 _ rfl; (with_reducible repeat (first | refine blk_drewN ?_ _ | refine blk_drew ?_ | refine blk_alloc ?_ _)); exact BK101.out) Tryd.underlying37 rfl (by kernel_rfl)) rfl ?_
          exact ⟨_, by first | rfl | (simp [errW_none, errW_some] <;> rfl) | (simp [*, errW_none, errW_some] <;> rfl), by first | exact Kd.R_nil _ _ _ _ _ | exact Kd.N_nil _ _ _ _ _ | exact Kd.V_nil _ _ _ _ _ | exact Kd.Q_nil _ _ _ _ _ | exact Kd.S_nil _ _ _ _ _, by repeat (first | (with_reducible first | exact HB.out | apply below_alloc | apply pw_below_drewN | apply below_drew1 | refine below_set ?_ GE101.out | refine below_set ?_ GE102.out) | exact HB.out)⟩
        · replace c7 := Bool.eq_false_iff.mpr c7
          subst c7
          have H1 : (if a0 ≤ 3 then ((params_kem.f a0).bind fun bt103 => (params_Get.j1 kj4 a0 bt103.1 bt103.2.1 bt103.2.2.1 bt103.2.2.2.1 bt103.2.2.2.2.1 bt103.2.2.2.2.2.1 bt103.2.2.2.2.2.2.1 bt103.2.2.2.2.2.2.2.1 bt103.2.2.2.2.2.2.2.2.1 bt103.2.2.2.2.2.2.2.2.2)) else (if a0 = 4 then (params_Get.j1 kj4 a0 0 0 (⟨#[77, 76, 45, 68, 83, 65, 45, 52, 52]⟩ : ByteArray) 1312 2560 0 2420 ([] : List Int) 0 0) else (if a0 = 5 then (params_Get.j1 kj4 a0 0 0 (⟨#[77, 76, 45, 68, 83, 65, 45, 54, 53]⟩ : ByteArray) 1952 4032 0 3309 ([] : List Int) 0 0) else (if a0 = 6 then (params_Get.j1 kj4 a0 0 0 (⟨#[77, 76, 45, 68, 83, 65, 45, 56, 55]⟩ : ByteArray) 2592 4896 0 4627 ([] : List Int) 0 0) else (if a0 < 19 then ((params_slh.f a0).bind fun bt115 => (params_Get.j1 kj4 a0 bt115.1 bt115.2.1 bt115.2.2.1 bt115.2.2.2.1 bt115.2.2.2.2.1 bt115.2.2.2.2.2.1 bt115.2.2.2.2.2.2.1 bt115.2.2.2.2.2.2.2.1 bt115.2.2.2.2.2.2.2.2.1 bt115.2.2.2.2.2.2.2.2.2)) else (if a0 = 19 then ((params_of.f (⟨#[49, 46, 50, 46, 56, 52, 48, 46, 49, 49, 51, 53, 52, 57, 46, 49, 46, 57, 46, 49, 54, 46, 51, 46, 49, 55]⟩ : ByteArray)).bind fun t127 => (params_Get.j1 kj4 a0 0 4 (⟨#[72, 83, 83, 47, 76, 77, 83]⟩ : ByteArray) 0 0 0 0 t127 0 0)) else ((params_xmss.f a0).bind fun bt130 => (params_Get.j1 kj4 a0 bt130.1 bt130.2.1 bt130.2.2.1 bt130.2.2.2.1 bt130.2.2.2.2.1 bt130.2.2.2.2.2.1 bt130.2.2.2.2.2.2.1 bt130.2.2.2.2.2.2.2.1 bt130.2.2.2.2.2.2.2.2.1 bt130.2.2.2.2.2.2.2.2.2)))))))) = some (r1, r2, r3, r4, r5, r6, r7, r8, r9, r10, r11) := by rw [if_neg (show ¬ (false = true) by decide)] at H; exact H
          clear H
          have H := H1
          clear H1
          by_cases c11 : a0 ≤ 3
          · rw [if_pos c11] at H
            have c11b0 : decide (a0 ≤ 3) = true := decide_eq_true c11
            clear c11
            replace H := Option.bind_eq_some_iff.mp H
            obtain ⟨⟨t103, t104, t105, t106, t107, t108, t109, t110, t113, t114⟩, A120, H⟩ := H
            replace H : (params_Get.j1 kj4 a0 t103 t104 t105 t106 t107 t108 t109 t110 t113 t114) = some (r1, r2, r3, r4, r5, r6, r7, r8, r9, r10, r11) := H
            have A12 := Aside0.mk A120
            clear A120
            have H' := Aside0.mk H
            clear H
            go_wp2_with (first | ((with_reducible refine gate_callee (f := 45) rfl ?_); refine goesL_ (some 19) rfl rfl Tryd.func45 (by kernel_rfl) rfl #[.int .i64 a0] rfl (by (try simp only [List.map_toArray, List.map_cons, List.map_nil]); first | done | rfl | (simp only [List.length_drop, List.length_take]; rfl)) ?_; (with_reducible refine (params_kem.calls a0 t103 t104 t105 t106 t107 t108 t109 t110 t113 t114 _ ?side1 A12.out).mono ?_); (case side1 => first | exact HLd | (exact LaidOk.below HLd (by repeat (first | (with_reducible first | exact HB.out | apply below_alloc | apply pw_below_drewN | apply below_drew1) | exact HB.out))) | (repeat (first | exact HLd | apply LaidOk.drewN | apply LaidOk.drew | apply LaidOk.alloc))); rintro e w13 ⟨v111, rfl, ho0, hb⟩; refine ⟨_, rfl, ?_⟩; have n0_ := Aside0.mk (Kd.R_lower ho0 (below_size (by repeat (first | (with_reducible first | exact HB.out | apply below_alloc | apply pw_below_drewN | apply below_drew1 | refine below_set ?_ GE101.out | refine below_set ?_ GE102.out) | exact HB.out)))); have n1_ := Aside0.mk (blk_below (g := gb101) (o := .cells #[.int .i64 0, .int .i64 0, .string (⟨#[]⟩ : ByteArray), .int .i64 0, .int .i64 0, .int .i64 0, .int .i64 0, .slice none 0 0, .int .i64 0, .int .u32 0] 37 (0, 0)) (by (with_reducible repeat (first | refine blk_drewN ?_ _ | refine blk_drew ?_ | refine blk_alloc ?_ _)); exact BK101.out) hb); have n2_ := Aside0.mk (blk_below (g := gb102) (o := .cells #[.int .i64 0, .int .i64 0, .string (⟨#[]⟩ : ByteArray), .int .i64 0, .int .i64 0, .int .i64 0, .int .i64 0, .slice none 0 0, .int .i64 0, .int .u32 0] 37 (0, 0)) (by (with_reducible repeat (first | refine blk_drewN ?_ _ | refine blk_drew ?_ | refine blk_alloc ?_ _)); exact BK102.out) hb); have n3_ := Aside0.mk (below_step (by repeat (first | (with_reducible first | exact HB.out | apply below_alloc | apply pw_below_drewN | apply below_drew1 | refine below_set ?_ GE101.out | refine below_set ?_ GE102.out) | exact HB.out)) hb); clear BK101; clear BK102; clear HB; have HO112 := n0_; have BK101 := n1_; have BK102 := n2_; have HB := n3_; clear n0_ n1_ n2_ n3_; (try clear hb); (try clear hb2); (try clear hk); (try clear hi); (try clear ho0); have hnb14 := NB102_101.out; have hnc14 := NB101_102.out; have hcz15_0 : w13.cell? ⟨gb102, 0, none⟩ = some (.int .i64 0) := (blk_cell BK102.out 0).trans rfl; have hcz15_1 : w13.cell? ⟨gb102, 1, none⟩ = some (.int .i64 0) := (blk_cell BK102.out 1).trans rfl; have hcz15_2 : w13.cell? ⟨gb102, 2, none⟩ = some (.string (⟨#[]⟩ : ByteArray)) := (blk_cell BK102.out 2).trans rfl; have hcz15_3 : w13.cell? ⟨gb102, 3, none⟩ = some (.int .i64 0) := (blk_cell BK102.out 3).trans rfl; have hcz15_4 : w13.cell? ⟨gb102, 4, none⟩ = some (.int .i64 0) := (blk_cell BK102.out 4).trans rfl; have hcz15_5 : w13.cell? ⟨gb102, 5, none⟩ = some (.int .i64 0) := (blk_cell BK102.out 5).trans rfl; have hcz15_6 : w13.cell? ⟨gb102, 6, none⟩ = some (.int .i64 0) := (blk_cell BK102.out 6).trans rfl; have hcz15_7 : w13.cell? ⟨gb102, 7, none⟩ = some (.slice none 0 0) := (blk_cell BK102.out 7).trans rfl; have hcz15_8 : w13.cell? ⟨gb102, 8, none⟩ = some (.int .i64 0) := (blk_cell BK102.out 8).trans rfl; have hcz15_9 : w13.cell? ⟨gb102, 9, none⟩ = some (.int .u32 0) := (blk_cell BK102.out 9).trans rfl; have hfz15_0 := blk_frozen BK102.out 0; have hfz15_1 := blk_frozen BK102.out 1; have hfz15_2 := blk_frozen BK102.out 2; have hfz15_3 := blk_frozen BK102.out 3; have hfz15_4 := blk_frozen BK102.out 4; have hfz15_5 := blk_frozen BK102.out 5; have hfz15_6 := blk_frozen BK102.out 6; have hfz15_7 := blk_frozen BK102.out 7; have hfz15_8 := blk_frozen BK102.out 8; have hfz15_9 := blk_frozen BK102.out 9; obtain ⟨Ao16, co16, eo16⟩ := Kd.R_slice HO112.out; subst eo16))
            go_meet
            case rel => exact ⟨_, (0), (0), ((⟨#[]⟩ : ByteArray)), (0), (0), (0), (0), (0), (0), (t103), (t104), (t105), (t106), (t107), (t108), (t109), (t110), (t113), (t114), (.slice Ao16 t110.length co16), H', ⟨by have := HJ4.out; first | omega | exact Nat.le_refl _⟩, ⟨by (with_reducible repeat (first | apply Kd.R_alloc | apply Kd.R_drewN | apply Kd.R_drew)); exact Kd.R_mono (Kd.R_far (p := ⟨gb102, 9, none⟩) (Kd.R_far (p := ⟨gb102, 8, none⟩) (Kd.R_far (p := ⟨gb102, 7, none⟩) (Kd.R_far (p := ⟨gb102, 6, none⟩) (Kd.R_far (p := ⟨gb102, 5, none⟩) (Kd.R_far (p := ⟨gb102, 4, none⟩) (Kd.R_far (p := ⟨gb102, 3, none⟩) (Kd.R_far (p := ⟨gb102, 2, none⟩) (Kd.R_far (p := ⟨gb102, 1, none⟩) (Kd.R_far (p := ⟨gb102, 0, none⟩) (Kd.R_types HO112.out BK102.out (by decide)) (fun _ hk => hk.2) (.int .i64 t103)) (fun _ hk => hk.2) (.int .i64 t104)) (fun _ hk => hk.2) (.string t105)) (fun _ hk => hk.2) (.int .i64 t106)) (fun _ hk => hk.2) (.int .i64 t107)) (fun _ hk => hk.2) (.int .i64 t108)) (fun _ hk => hk.2) (.int .i64 t109)) (fun _ hk => hk.2) (.slice Ao16 t110.length co16)) (fun _ hk => hk.2) (.int .i64 t113)) (fun _ hk => hk.2) (.int .u32 t114)) (fun _ hk => trivial)⟩, ⟨by (with_reducible repeat (first | refine blk_drewN ?_ _ | refine blk_drew ?_ | refine blk_alloc ?_ _)); refine blk_far ?_ NB101_102.out _; (with_reducible repeat (first | refine blk_drewN ?_ _ | refine blk_drew ?_ | refine blk_alloc ?_ _)); refine blk_far ?_ NB101_102.out _; (with_reducible repeat (first | refine blk_drewN ?_ _ | refine blk_drew ?_ | refine blk_alloc ?_ _)); refine blk_far ?_ NB101_102.out _; (with_reducible repeat (first | refine blk_drewN ?_ _ | refine blk_drew ?_ | refine blk_alloc ?_ _)); refine blk_far ?_ NB101_102.out _; (with_reducible repeat (first | refine blk_drewN ?_ _ | refine blk_drew ?_ | refine blk_alloc ?_ _)); refine blk_far ?_ NB101_102.out _; (with_reducible repeat (first | refine blk_drewN ?_ _ | refine blk_drew ?_ | refine blk_alloc ?_ _)); refine blk_far ?_ NB101_102.out _; (with_reducible repeat (first | refine blk_drewN ?_ _ | refine blk_drew ?_ | refine blk_alloc ?_ _)); refine blk_far ?_ NB101_102.out _; (with_reducible repeat (first | refine blk_drewN ?_ _ | refine blk_drew ?_ | refine blk_alloc ?_ _)); refine blk_far ?_ NB101_102.out _; (with_reducible repeat (first | refine blk_drewN ?_ _ | refine blk_drew ?_ | refine blk_alloc ?_ _)); refine blk_far ?_ NB101_102.out _; (with_reducible repeat (first | refine blk_drewN ?_ _ | refine blk_drew ?_ | refine blk_alloc ?_ _)); refine blk_far ?_ NB101_102.out _; (with_reducible repeat (first | refine blk_drewN ?_ _ | refine blk_drew ?_ | refine blk_alloc ?_ _)); exact BK101.out⟩, ⟨by (with_reducible repeat (first | refine blk_drewN ?_ _ | refine blk_drew ?_ | refine blk_alloc ?_ _)); refine blk_put (cs := #[.int .i64 t103, .int .i64 t104, .string t105, .int .i64 t106, .int .i64 t107, .int .i64 t108, .int .i64 t109, .slice Ao16 t110.length co16, .int .i64 t113, .int .u32 0]) ?_ 9 _ rfl; (with_reducible repeat (first | refine blk_drewN ?_ _ | refine blk_drew ?_ | refine blk_alloc ?_ _)); refine blk_put (cs := #[.int .i64 t103, .int .i64 t104, .string t105, .int .i64 t106, .int .i64 t107, .int .i64 t108, .int .i64 t109, .slice Ao16 t110.length co16, .int .i64 0, .int .u32 0]) ?_ 8 _ rfl; (with_reducible repeat (first | refine blk_drewN ?_ _ | refine blk_drew ?_ | refine blk_alloc ?_ _)); refine blk_put (cs := #[.int .i64 t103, .int .i64 t104, .string t105, .int .i64 t106, .int .i64 t107, .int .i64 t108, .int .i64 t109, .slice none 0 0, .int .i64 0, .int .u32 0]) ?_ 7 _ rfl; (with_reducible repeat (first | refine blk_drewN ?_ _ | refine blk_drew ?_ | refine blk_alloc ?_ _)); refine blk_put (cs := #[.int .i64 t103, .int .i64 t104, .string t105, .int .i64 t106, .int .i64 t107, .int .i64 t108, .int .i64 0, .slice none 0 0, .int .i64 0, .int .u32 0]) ?_ 6 _ rfl; (with_reducible repeat (first | refine blk_drewN ?_ _ | refine blk_drew ?_ | refine blk_alloc ?_ _)); refine blk_put (cs := #[.int .i64 t103, .int .i64 t104, .string t105, .int .i64 t106, .int .i64 t107, .int .i64 0, .int .i64 0, .slice none 0 0, .int .i64 0, .int .u32 0]) ?_ 5 _ rfl; (with_reducible repeat (first | refine blk_drewN ?_ _ | refine blk_drew ?_ | refine blk_alloc ?_ _)); refine blk_put (cs := #[.int .i64 t103, .int .i64 t104, .string t105, .int .i64 t106, .int .i64 0, .int .i64 0, .int .i64 0, .slice none 0 0, .int .i64 0, .int .u32 0]) ?_ 4 _ rfl; (with_reducible repeat (first | refine blk_drewN ?_ _ | refine blk_drew ?_ | refine blk_alloc ?_ _)); refine blk_put (cs := #[.int .i64 t103, .int .i64 t104, .string t105, .int .i64 0, .int .i64 0, .int .i64 0, .int .i64 0, .slice none 0 0, .int .i64 0, .int .u32 0]) ?_ 3 _ rfl; (with_reducible repeat (first | refine blk_drewN ?_ _ | refine blk_drew ?_ | refine blk_alloc ?_ _)); refine blk_put (cs := #[.int .i64 t103, .int .i64 t104, .string (⟨#[]⟩ : ByteArray), .int .i64 0, .int .i64 0, .int .i64 0, .int .i64 0, .slice none 0 0, .int .i64 0, .int .u32 0]) ?_ 2 _ rfl; (with_reducible repeat (first | refine blk_drewN ?_ _ | refine blk_drew ?_ | refine blk_alloc ?_ _)); refine blk_put (cs := #[.int .i64 t103, .int .i64 0, .string (⟨#[]⟩ : ByteArray), .int .i64 0, .int .i64 0, .int .i64 0, .int .i64 0, .slice none 0 0, .int .i64 0, .int .u32 0]) ?_ 1 _ rfl; (with_reducible repeat (first | refine blk_drewN ?_ _ | refine blk_drew ?_ | refine blk_alloc ?_ _)); refine blk_put (cs := #[.int .i64 0, .int .i64 0, .string (⟨#[]⟩ : ByteArray), .int .i64 0, .int .i64 0, .int .i64 0, .int .i64 0, .slice none 0 0, .int .i64 0, .int .u32 0]) ?_ 0 _ rfl; (with_reducible repeat (first | refine blk_drewN ?_ _ | refine blk_drew ?_ | refine blk_alloc ?_ _)); exact BK102.out⟩, ⟨by repeat (first | (with_reducible first | exact HB.out | apply below_alloc | apply pw_below_drewN | apply below_drew1 | refine below_set ?_ GE101.out | refine below_set ?_ GE102.out) | exact HB.out)⟩⟩
          · rw [if_neg c11] at H
            have c11b0 : decide (a0 ≤ 3) = false := decide_eq_false c11
            clear c11
            by_cases c17 : a0 = 4
            · rw [if_pos c17] at H
              have c17b0 : (a0 == 4) = true := beq_iff_eq.mpr c17
              have c17b1 : (a0 != 4) = false := bne_eq_false_iff_eq.mpr c17
              clear c17
              have H' := Aside0.mk H
              clear H
              have hnb18 := NB102_101.out
              have hnc18 := NB101_102.out
              have hcz19_0 : wc.cell? ⟨gb102, 0, none⟩ = some (.int .i64 0) := (blk_cell BK102.out 0).trans rfl
              have hcz19_1 : wc.cell? ⟨gb102, 1, none⟩ = some (.int .i64 0) := (blk_cell BK102.out 1).trans rfl
              have hcz19_2 : wc.cell? ⟨gb102, 2, none⟩ = some (.string (⟨#[]⟩ : ByteArray)) := (blk_cell BK102.out 2).trans rfl
              have hcz19_3 : wc.cell? ⟨gb102, 3, none⟩ = some (.int .i64 0) := (blk_cell BK102.out 3).trans rfl
              have hcz19_4 : wc.cell? ⟨gb102, 4, none⟩ = some (.int .i64 0) := (blk_cell BK102.out 4).trans rfl
              have hcz19_5 : wc.cell? ⟨gb102, 5, none⟩ = some (.int .i64 0) := (blk_cell BK102.out 5).trans rfl
              have hcz19_6 : wc.cell? ⟨gb102, 6, none⟩ = some (.int .i64 0) := (blk_cell BK102.out 6).trans rfl
              have hcz19_7 : wc.cell? ⟨gb102, 7, none⟩ = some (.slice none 0 0) := (blk_cell BK102.out 7).trans rfl
              have hcz19_8 : wc.cell? ⟨gb102, 8, none⟩ = some (.int .i64 0) := (blk_cell BK102.out 8).trans rfl
              have hcz19_9 : wc.cell? ⟨gb102, 9, none⟩ = some (.int .u32 0) := (blk_cell BK102.out 9).trans rfl
              have hfz19_0 := blk_frozen BK102.out 0
              have hfz19_1 := blk_frozen BK102.out 1
              have hfz19_2 := blk_frozen BK102.out 2
              have hfz19_3 := blk_frozen BK102.out 3
              have hfz19_4 := blk_frozen BK102.out 4
              have hfz19_5 := blk_frozen BK102.out 5
              have hfz19_6 := blk_frozen BK102.out 6
              have hfz19_7 := blk_frozen BK102.out 7
              have hfz19_8 := blk_frozen BK102.out 8
              have hfz19_9 := blk_frozen BK102.out 9
              go_wp2
              go_meet
              case rel => exact ⟨_, (0), (0), ((⟨#[]⟩ : ByteArray)), (0), (0), (0), (0), (0), (0), (0), (0), ((⟨#[77, 76, 45, 68, 83, 65, 45, 52, 52]⟩ : ByteArray)), (1312), (2560), (0), (2420), (([] : List Int)), (0), (0), (.slice none 0 0), H', ⟨by have := HJ4.out; first | omega | exact Nat.le_refl _⟩, ⟨by first | exact Kd.R_nil _ _ _ _ _ | exact Kd.N_nil _ _ _ _ _ | exact Kd.V_nil _ _ _ _ _ | exact Kd.Q_nil _ _ _ _ _ | exact Kd.S_nil _ _ _ _ _⟩, ⟨by (with_reducible repeat (first | refine blk_drewN ?_ _ | refine blk_drew ?_ | refine blk_alloc ?_ _)); refine blk_far ?_ NB101_102.out _; (with_reducible repeat (first | refine blk_drewN ?_ _ | refine blk_drew ?_ | refine blk_alloc ?_ _)); refine blk_far ?_ NB101_102.out _; (with_reducible repeat (first | refine blk_drewN ?_ _ | refine blk_drew ?_ | refine blk_alloc ?_ _)); refine blk_far ?_ NB101_102.out _; (with_reducible repeat (first | refine blk_drewN ?_ _ | refine blk_drew ?_ | refine blk_alloc ?_ _)); refine blk_far ?_ NB101_102.out _; (with_reducible repeat (first | refine blk_drewN ?_ _ | refine blk_drew ?_ | refine blk_alloc ?_ _)); refine blk_far ?_ NB101_102.out _; (with_reducible repeat (first | refine blk_drewN ?_ _ | refine blk_drew ?_ | refine blk_alloc ?_ _)); refine blk_far ?_ NB101_102.out _; (with_reducible repeat (first | refine blk_drewN ?_ _ | refine blk_drew ?_ | refine blk_alloc ?_ _)); refine blk_far ?_ NB101_102.out _; (with_reducible repeat (first | refine blk_drewN ?_ _ | refine blk_drew ?_ | refine blk_alloc ?_ _)); refine blk_far ?_ NB101_102.out _; (with_reducible repeat (first | refine blk_drewN ?_ _ | refine blk_drew ?_ | refine blk_alloc ?_ _)); refine blk_far ?_ NB101_102.out _; (with_reducible repeat (first | refine blk_drewN ?_ _ | refine blk_drew ?_ | refine blk_alloc ?_ _)); refine blk_far ?_ NB101_102.out _; (with_reducible repeat (first | refine blk_drewN ?_ _ | refine blk_drew ?_ | refine blk_alloc ?_ _)); exact BK101.out⟩, ⟨by (with_reducible repeat (first | refine blk_drewN ?_ _ | refine blk_drew ?_ | refine blk_alloc ?_ _)); refine blk_put (cs := #[.int .i64 0, .int .i64 0, .string (⟨#[77, 76, 45, 68, 83, 65, 45, 52, 52]⟩ : ByteArray), .int .i64 1312, .int .i64 2560, .int .i64 0, .int .i64 2420, .slice none 0 0, .int .i64 0, .int .u32 0]) ?_ 9 _ rfl; (with_reducible repeat (first | refine blk_drewN ?_ _ | refine blk_drew ?_ | refine blk_alloc ?_ _)); refine blk_put (cs := #[.int .i64 0, .int .i64 0, .string (⟨#[77, 76, 45, 68, 83, 65, 45, 52, 52]⟩ : ByteArray), .int .i64 1312, .int .i64 2560, .int .i64 0, .int .i64 2420, .slice none 0 0, .int .i64 0, .int .u32 0]) ?_ 8 _ rfl; (with_reducible repeat (first | refine blk_drewN ?_ _ | refine blk_drew ?_ | refine blk_alloc ?_ _)); refine blk_put (cs := #[.int .i64 0, .int .i64 0, .string (⟨#[77, 76, 45, 68, 83, 65, 45, 52, 52]⟩ : ByteArray), .int .i64 1312, .int .i64 2560, .int .i64 0, .int .i64 2420, .slice none 0 0, .int .i64 0, .int .u32 0]) ?_ 7 _ rfl; (with_reducible repeat (first | refine blk_drewN ?_ _ | refine blk_drew ?_ | refine blk_alloc ?_ _)); refine blk_put (cs := #[.int .i64 0, .int .i64 0, .string (⟨#[77, 76, 45, 68, 83, 65, 45, 52, 52]⟩ : ByteArray), .int .i64 1312, .int .i64 2560, .int .i64 0, .int .i64 0, .slice none 0 0, .int .i64 0, .int .u32 0]) ?_ 6 _ rfl; (with_reducible repeat (first | refine blk_drewN ?_ _ | refine blk_drew ?_ | refine blk_alloc ?_ _)); refine blk_put (cs := #[.int .i64 0, .int .i64 0, .string (⟨#[77, 76, 45, 68, 83, 65, 45, 52, 52]⟩ : ByteArray), .int .i64 1312, .int .i64 2560, .int .i64 0, .int .i64 0, .slice none 0 0, .int .i64 0, .int .u32 0]) ?_ 5 _ rfl; (with_reducible repeat (first | refine blk_drewN ?_ _ | refine blk_drew ?_ | refine blk_alloc ?_ _)); refine blk_put (cs := #[.int .i64 0, .int .i64 0, .string (⟨#[77, 76, 45, 68, 83, 65, 45, 52, 52]⟩ : ByteArray), .int .i64 1312, .int .i64 0, .int .i64 0, .int .i64 0, .slice none 0 0, .int .i64 0, .int .u32 0]) ?_ 4 _ rfl; (with_reducible repeat (first | refine blk_drewN ?_ _ | refine blk_drew ?_ | refine blk_alloc ?_ _)); refine blk_put (cs := #[.int .i64 0, .int .i64 0, .string (⟨#[77, 76, 45, 68, 83, 65, 45, 52, 52]⟩ : ByteArray), .int .i64 0, .int .i64 0, .int .i64 0, .int .i64 0, .slice none 0 0, .int .i64 0, .int .u32 0]) ?_ 3 _ rfl; (with_reducible repeat (first | refine blk_drewN ?_ _ | refine blk_drew ?_ | refine blk_alloc ?_ _)); refine blk_put (cs := #[.int .i64 0, .int .i64 0, .string (⟨#[]⟩ : ByteArray), .int .i64 0, .int .i64 0, .int .i64 0, .int .i64 0, .slice none 0 0, .int .i64 0, .int .u32 0]) ?_ 2 _ rfl; (with_reducible repeat (first | refine blk_drewN ?_ _ | refine blk_drew ?_ | refine blk_alloc ?_ _)); refine blk_put (cs := #[.int .i64 0, .int .i64 0, .string (⟨#[]⟩ : ByteArray), .int .i64 0, .int .i64 0, .int .i64 0, .int .i64 0, .slice none 0 0, .int .i64 0, .int .u32 0]) ?_ 1 _ rfl; (with_reducible repeat (first | refine blk_drewN ?_ _ | refine blk_drew ?_ | refine blk_alloc ?_ _)); refine blk_put (cs := #[.int .i64 0, .int .i64 0, .string (⟨#[]⟩ : ByteArray), .int .i64 0, .int .i64 0, .int .i64 0, .int .i64 0, .slice none 0 0, .int .i64 0, .int .u32 0]) ?_ 0 _ rfl; (with_reducible repeat (first | refine blk_drewN ?_ _ | refine blk_drew ?_ | refine blk_alloc ?_ _)); exact BK102.out⟩, ⟨by repeat (first | (with_reducible first | exact HB.out | apply below_alloc | apply pw_below_drewN | apply below_drew1 | refine below_set ?_ GE101.out | refine below_set ?_ GE102.out) | exact HB.out)⟩⟩
            · rw [if_neg c17] at H
              have c17b0 : (a0 == 4) = false := beq_eq_false_iff_ne.mpr c17
              have c17b1 : (a0 != 4) = true := bne_iff_ne.mpr c17
              by_cases c20 : a0 = 5
              · rw [if_pos c20] at H
                have c20b0 : (a0 == 5) = true := beq_iff_eq.mpr c20
                have c20b1 : (a0 != 5) = false := bne_eq_false_iff_eq.mpr c20
                clear c20
                have H' := Aside0.mk H
                clear H
                have hnb21 := NB102_101.out
                have hnc21 := NB101_102.out
                have hcz22_0 : wc.cell? ⟨gb102, 0, none⟩ = some (.int .i64 0) := (blk_cell BK102.out 0).trans rfl
                have hcz22_1 : wc.cell? ⟨gb102, 1, none⟩ = some (.int .i64 0) := (blk_cell BK102.out 1).trans rfl
                have hcz22_2 : wc.cell? ⟨gb102, 2, none⟩ = some (.string (⟨#[]⟩ : ByteArray)) := (blk_cell BK102.out 2).trans rfl
                have hcz22_3 : wc.cell? ⟨gb102, 3, none⟩ = some (.int .i64 0) := (blk_cell BK102.out 3).trans rfl
                have hcz22_4 : wc.cell? ⟨gb102, 4, none⟩ = some (.int .i64 0) := (blk_cell BK102.out 4).trans rfl
                have hcz22_5 : wc.cell? ⟨gb102, 5, none⟩ = some (.int .i64 0) := (blk_cell BK102.out 5).trans rfl
                have hcz22_6 : wc.cell? ⟨gb102, 6, none⟩ = some (.int .i64 0) := (blk_cell BK102.out 6).trans rfl
                have hcz22_7 : wc.cell? ⟨gb102, 7, none⟩ = some (.slice none 0 0) := (blk_cell BK102.out 7).trans rfl
                have hcz22_8 : wc.cell? ⟨gb102, 8, none⟩ = some (.int .i64 0) := (blk_cell BK102.out 8).trans rfl
                have hcz22_9 : wc.cell? ⟨gb102, 9, none⟩ = some (.int .u32 0) := (blk_cell BK102.out 9).trans rfl
                have hfz22_0 := blk_frozen BK102.out 0
                have hfz22_1 := blk_frozen BK102.out 1
                have hfz22_2 := blk_frozen BK102.out 2
                have hfz22_3 := blk_frozen BK102.out 3
                have hfz22_4 := blk_frozen BK102.out 4
                have hfz22_5 := blk_frozen BK102.out 5
                have hfz22_6 := blk_frozen BK102.out 6
                have hfz22_7 := blk_frozen BK102.out 7
                have hfz22_8 := blk_frozen BK102.out 8
                have hfz22_9 := blk_frozen BK102.out 9
                go_wp2
                go_meet
                case rel => exact ⟨_, (0), (0), ((⟨#[]⟩ : ByteArray)), (0), (0), (0), (0), (0), (0), (0), (0), ((⟨#[77, 76, 45, 68, 83, 65, 45, 54, 53]⟩ : ByteArray)), (1952), (4032), (0), (3309), (([] : List Int)), (0), (0), (.slice none 0 0), H', ⟨by have := HJ4.out; first | omega | exact Nat.le_refl _⟩, ⟨by first | exact Kd.R_nil _ _ _ _ _ | exact Kd.N_nil _ _ _ _ _ | exact Kd.V_nil _ _ _ _ _ | exact Kd.Q_nil _ _ _ _ _ | exact Kd.S_nil _ _ _ _ _⟩, ⟨by (with_reducible repeat (first | refine blk_drewN ?_ _ | refine blk_drew ?_ | refine blk_alloc ?_ _)); refine blk_far ?_ NB101_102.out _; (with_reducible repeat (first | refine blk_drewN ?_ _ | refine blk_drew ?_ | refine blk_alloc ?_ _)); refine blk_far ?_ NB101_102.out _; (with_reducible repeat (first | refine blk_drewN ?_ _ | refine blk_drew ?_ | refine blk_alloc ?_ _)); refine blk_far ?_ NB101_102.out _; (with_reducible repeat (first | refine blk_drewN ?_ _ | refine blk_drew ?_ | refine blk_alloc ?_ _)); refine blk_far ?_ NB101_102.out _; (with_reducible repeat (first | refine blk_drewN ?_ _ | refine blk_drew ?_ | refine blk_alloc ?_ _)); refine blk_far ?_ NB101_102.out _; (with_reducible repeat (first | refine blk_drewN ?_ _ | refine blk_drew ?_ | refine blk_alloc ?_ _)); refine blk_far ?_ NB101_102.out _; (with_reducible repeat (first | refine blk_drewN ?_ _ | refine blk_drew ?_ | refine blk_alloc ?_ _)); refine blk_far ?_ NB101_102.out _; (with_reducible repeat (first | refine blk_drewN ?_ _ | refine blk_drew ?_ | refine blk_alloc ?_ _)); refine blk_far ?_ NB101_102.out _; (with_reducible repeat (first | refine blk_drewN ?_ _ | refine blk_drew ?_ | refine blk_alloc ?_ _)); refine blk_far ?_ NB101_102.out _; (with_reducible repeat (first | refine blk_drewN ?_ _ | refine blk_drew ?_ | refine blk_alloc ?_ _)); refine blk_far ?_ NB101_102.out _; (with_reducible repeat (first | refine blk_drewN ?_ _ | refine blk_drew ?_ | refine blk_alloc ?_ _)); exact BK101.out⟩, ⟨by (with_reducible repeat (first | refine blk_drewN ?_ _ | refine blk_drew ?_ | refine blk_alloc ?_ _)); refine blk_put (cs := #[.int .i64 0, .int .i64 0, .string (⟨#[77, 76, 45, 68, 83, 65, 45, 54, 53]⟩ : ByteArray), .int .i64 1952, .int .i64 4032, .int .i64 0, .int .i64 3309, .slice none 0 0, .int .i64 0, .int .u32 0]) ?_ 9 _ rfl; (with_reducible repeat (first | refine blk_drewN ?_ _ | refine blk_drew ?_ | refine blk_alloc ?_ _)); refine blk_put (cs := #[.int .i64 0, .int .i64 0, .string (⟨#[77, 76, 45, 68, 83, 65, 45, 54, 53]⟩ : ByteArray), .int .i64 1952, .int .i64 4032, .int .i64 0, .int .i64 3309, .slice none 0 0, .int .i64 0, .int .u32 0]) ?_ 8 _ rfl; (with_reducible repeat (first | refine blk_drewN ?_ _ | refine blk_drew ?_ | refine blk_alloc ?_ _)); refine blk_put (cs := #[.int .i64 0, .int .i64 0, .string (⟨#[77, 76, 45, 68, 83, 65, 45, 54, 53]⟩ : ByteArray), .int .i64 1952, .int .i64 4032, .int .i64 0, .int .i64 3309, .slice none 0 0, .int .i64 0, .int .u32 0]) ?_ 7 _ rfl; (with_reducible repeat (first | refine blk_drewN ?_ _ | refine blk_drew ?_ | refine blk_alloc ?_ _)); refine blk_put (cs := #[.int .i64 0, .int .i64 0, .string (⟨#[77, 76, 45, 68, 83, 65, 45, 54, 53]⟩ : ByteArray), .int .i64 1952, .int .i64 4032, .int .i64 0, .int .i64 0, .slice none 0 0, .int .i64 0, .int .u32 0]) ?_ 6 _ rfl; (with_reducible repeat (first | refine blk_drewN ?_ _ | refine blk_drew ?_ | refine blk_alloc ?_ _)); refine blk_put (cs := #[.int .i64 0, .int .i64 0, .string (⟨#[77, 76, 45, 68, 83, 65, 45, 54, 53]⟩ : ByteArray), .int .i64 1952, .int .i64 4032, .int .i64 0, .int .i64 0, .slice none 0 0, .int .i64 0, .int .u32 0]) ?_ 5 _ rfl; (with_reducible repeat (first | refine blk_drewN ?_ _ | refine blk_drew ?_ | refine blk_alloc ?_ _)); refine blk_put (cs := #[.int .i64 0, .int .i64 0, .string (⟨#[77, 76, 45, 68, 83, 65, 45, 54, 53]⟩ : ByteArray), .int .i64 1952, .int .i64 0, .int .i64 0, .int .i64 0, .slice none 0 0, .int .i64 0, .int .u32 0]) ?_ 4 _ rfl; (with_reducible repeat (first | refine blk_drewN ?_ _ | refine blk_drew ?_ | refine blk_alloc ?_ _)); refine blk_put (cs := #[.int .i64 0, .int .i64 0, .string (⟨#[77, 76, 45, 68, 83, 65, 45, 54, 53]⟩ : ByteArray), .int .i64 0, .int .i64 0, .int .i64 0, .int .i64 0, .slice none 0 0, .int .i64 0, .int .u32 0]) ?_ 3 _ rfl; (with_reducible repeat (first | refine blk_drewN ?_ _ | refine blk_drew ?_ | refine blk_alloc ?_ _)); refine blk_put (cs := #[.int .i64 0, .int .i64 0, .string (⟨#[]⟩ : ByteArray), .int .i64 0, .int .i64 0, .int .i64 0, .int .i64 0, .slice none 0 0, .int .i64 0, .int .u32 0]) ?_ 2 _ rfl; (with_reducible repeat (first | refine blk_drewN ?_ _ | refine blk_drew ?_ | refine blk_alloc ?_ _)); refine blk_put (cs := #[.int .i64 0, .int .i64 0, .string (⟨#[]⟩ : ByteArray), .int .i64 0, .int .i64 0, .int .i64 0, .int .i64 0, .slice none 0 0, .int .i64 0, .int .u32 0]) ?_ 1 _ rfl; (with_reducible repeat (first | refine blk_drewN ?_ _ | refine blk_drew ?_ | refine blk_alloc ?_ _)); refine blk_put (cs := #[.int .i64 0, .int .i64 0, .string (⟨#[]⟩ : ByteArray), .int .i64 0, .int .i64 0, .int .i64 0, .int .i64 0, .slice none 0 0, .int .i64 0, .int .u32 0]) ?_ 0 _ rfl; (with_reducible repeat (first | refine blk_drewN ?_ _ | refine blk_drew ?_ | refine blk_alloc ?_ _)); exact BK102.out⟩, ⟨by repeat (first | (with_reducible first | exact HB.out | apply below_alloc | apply pw_below_drewN | apply below_drew1 | refine below_set ?_ GE101.out | refine below_set ?_ GE102.out) | exact HB.out)⟩⟩
              · rw [if_neg c20] at H
                have c20b0 : (a0 == 5) = false := beq_eq_false_iff_ne.mpr c20
                have c20b1 : (a0 != 5) = true := bne_iff_ne.mpr c20
                by_cases c23 : a0 = 6
                · rw [if_pos c23] at H
                  have c23b0 : (a0 == 6) = true := beq_iff_eq.mpr c23
                  have c23b1 : (a0 != 6) = false := bne_eq_false_iff_eq.mpr c23
                  clear c23
                  have H' := Aside0.mk H
                  clear H
                  have hnb24 := NB102_101.out
                  have hnc24 := NB101_102.out
                  have hcz25_0 : wc.cell? ⟨gb102, 0, none⟩ = some (.int .i64 0) := (blk_cell BK102.out 0).trans rfl
                  have hcz25_1 : wc.cell? ⟨gb102, 1, none⟩ = some (.int .i64 0) := (blk_cell BK102.out 1).trans rfl
                  have hcz25_2 : wc.cell? ⟨gb102, 2, none⟩ = some (.string (⟨#[]⟩ : ByteArray)) := (blk_cell BK102.out 2).trans rfl
                  have hcz25_3 : wc.cell? ⟨gb102, 3, none⟩ = some (.int .i64 0) := (blk_cell BK102.out 3).trans rfl
                  have hcz25_4 : wc.cell? ⟨gb102, 4, none⟩ = some (.int .i64 0) := (blk_cell BK102.out 4).trans rfl
                  have hcz25_5 : wc.cell? ⟨gb102, 5, none⟩ = some (.int .i64 0) := (blk_cell BK102.out 5).trans rfl
                  have hcz25_6 : wc.cell? ⟨gb102, 6, none⟩ = some (.int .i64 0) := (blk_cell BK102.out 6).trans rfl
                  have hcz25_7 : wc.cell? ⟨gb102, 7, none⟩ = some (.slice none 0 0) := (blk_cell BK102.out 7).trans rfl
                  have hcz25_8 : wc.cell? ⟨gb102, 8, none⟩ = some (.int .i64 0) := (blk_cell BK102.out 8).trans rfl
                  have hcz25_9 : wc.cell? ⟨gb102, 9, none⟩ = some (.int .u32 0) := (blk_cell BK102.out 9).trans rfl
                  have hfz25_0 := blk_frozen BK102.out 0
                  have hfz25_1 := blk_frozen BK102.out 1
                  have hfz25_2 := blk_frozen BK102.out 2
                  have hfz25_3 := blk_frozen BK102.out 3
                  have hfz25_4 := blk_frozen BK102.out 4
                  have hfz25_5 := blk_frozen BK102.out 5
                  have hfz25_6 := blk_frozen BK102.out 6
                  have hfz25_7 := blk_frozen BK102.out 7
                  have hfz25_8 := blk_frozen BK102.out 8
                  have hfz25_9 := blk_frozen BK102.out 9
                  go_wp2
                  go_meet
                  case rel => exact ⟨_, (0), (0), ((⟨#[]⟩ : ByteArray)), (0), (0), (0), (0), (0), (0), (0), (0), ((⟨#[77, 76, 45, 68, 83, 65, 45, 56, 55]⟩ : ByteArray)), (2592), (4896), (0), (4627), (([] : List Int)), (0), (0), (.slice none 0 0), H', ⟨by have := HJ4.out; first | omega | exact Nat.le_refl _⟩, ⟨by first | exact Kd.R_nil _ _ _ _ _ | exact Kd.N_nil _ _ _ _ _ | exact Kd.V_nil _ _ _ _ _ | exact Kd.Q_nil _ _ _ _ _ | exact Kd.S_nil _ _ _ _ _⟩, ⟨by (with_reducible repeat (first | refine blk_drewN ?_ _ | refine blk_drew ?_ | refine blk_alloc ?_ _)); refine blk_far ?_ NB101_102.out _; (with_reducible repeat (first | refine blk_drewN ?_ _ | refine blk_drew ?_ | refine blk_alloc ?_ _)); refine blk_far ?_ NB101_102.out _; (with_reducible repeat (first | refine blk_drewN ?_ _ | refine blk_drew ?_ | refine blk_alloc ?_ _)); refine blk_far ?_ NB101_102.out _; (with_reducible repeat (first | refine blk_drewN ?_ _ | refine blk_drew ?_ | refine blk_alloc ?_ _)); refine blk_far ?_ NB101_102.out _; (with_reducible repeat (first | refine blk_drewN ?_ _ | refine blk_drew ?_ | refine blk_alloc ?_ _)); refine blk_far ?_ NB101_102.out _; (with_reducible repeat (first | refine blk_drewN ?_ _ | refine blk_drew ?_ | refine blk_alloc ?_ _)); refine blk_far ?_ NB101_102.out _; (with_reducible repeat (first | refine blk_drewN ?_ _ | refine blk_drew ?_ | refine blk_alloc ?_ _)); refine blk_far ?_ NB101_102.out _; (with_reducible repeat (first | refine blk_drewN ?_ _ | refine blk_drew ?_ | refine blk_alloc ?_ _)); refine blk_far ?_ NB101_102.out _; (with_reducible repeat (first | refine blk_drewN ?_ _ | refine blk_drew ?_ | refine blk_alloc ?_ _)); refine blk_far ?_ NB101_102.out _; (with_reducible repeat (first | refine blk_drewN ?_ _ | refine blk_drew ?_ | refine blk_alloc ?_ _)); refine blk_far ?_ NB101_102.out _; (with_reducible repeat (first | refine blk_drewN ?_ _ | refine blk_drew ?_ | refine blk_alloc ?_ _)); exact BK101.out⟩, ⟨by (with_reducible repeat (first | refine blk_drewN ?_ _ | refine blk_drew ?_ | refine blk_alloc ?_ _)); refine blk_put (cs := #[.int .i64 0, .int .i64 0, .string (⟨#[77, 76, 45, 68, 83, 65, 45, 56, 55]⟩ : ByteArray), .int .i64 2592, .int .i64 4896, .int .i64 0, .int .i64 4627, .slice none 0 0, .int .i64 0, .int .u32 0]) ?_ 9 _ rfl; (with_reducible repeat (first | refine blk_drewN ?_ _ | refine blk_drew ?_ | refine blk_alloc ?_ _)); refine blk_put (cs := #[.int .i64 0, .int .i64 0, .string (⟨#[77, 76, 45, 68, 83, 65, 45, 56, 55]⟩ : ByteArray), .int .i64 2592, .int .i64 4896, .int .i64 0, .int .i64 4627, .slice none 0 0, .int .i64 0, .int .u32 0]) ?_ 8 _ rfl; (with_reducible repeat (first | refine blk_drewN ?_ _ | refine blk_drew ?_ | refine blk_alloc ?_ _)); refine blk_put (cs := #[.int .i64 0, .int .i64 0, .string (⟨#[77, 76, 45, 68, 83, 65, 45, 56, 55]⟩ : ByteArray), .int .i64 2592, .int .i64 4896, .int .i64 0, .int .i64 4627, .slice none 0 0, .int .i64 0, .int .u32 0]) ?_ 7 _ rfl; (with_reducible repeat (first | refine blk_drewN ?_ _ | refine blk_drew ?_ | refine blk_alloc ?_ _)); refine blk_put (cs := #[.int .i64 0, .int .i64 0, .string (⟨#[77, 76, 45, 68, 83, 65, 45, 56, 55]⟩ : ByteArray), .int .i64 2592, .int .i64 4896, .int .i64 0, .int .i64 0, .slice none 0 0, .int .i64 0, .int .u32 0]) ?_ 6 _ rfl; (with_reducible repeat (first | refine blk_drewN ?_ _ | refine blk_drew ?_ | refine blk_alloc ?_ _)); refine blk_put (cs := #[.int .i64 0, .int .i64 0, .string (⟨#[77, 76, 45, 68, 83, 65, 45, 56, 55]⟩ : ByteArray), .int .i64 2592, .int .i64 4896, .int .i64 0, .int .i64 0, .slice none 0 0, .int .i64 0, .int .u32 0]) ?_ 5 _ rfl; (with_reducible repeat (first | refine blk_drewN ?_ _ | refine blk_drew ?_ | refine blk_alloc ?_ _)); refine blk_put (cs := #[.int .i64 0, .int .i64 0, .string (⟨#[77, 76, 45, 68, 83, 65, 45, 56, 55]⟩ : ByteArray), .int .i64 2592, .int .i64 0, .int .i64 0, .int .i64 0, .slice none 0 0, .int .i64 0, .int .u32 0]) ?_ 4 _ rfl; (with_reducible repeat (first | refine blk_drewN ?_ _ | refine blk_drew ?_ | refine blk_alloc ?_ _)); refine blk_put (cs := #[.int .i64 0, .int .i64 0, .string (⟨#[77, 76, 45, 68, 83, 65, 45, 56, 55]⟩ : ByteArray), .int .i64 0, .int .i64 0, .int .i64 0, .int .i64 0, .slice none 0 0, .int .i64 0, .int .u32 0]) ?_ 3 _ rfl; (with_reducible repeat (first | refine blk_drewN ?_ _ | refine blk_drew ?_ | refine blk_alloc ?_ _)); refine blk_put (cs := #[.int .i64 0, .int .i64 0, .string (⟨#[]⟩ : ByteArray), .int .i64 0, .int .i64 0, .int .i64 0, .int .i64 0, .slice none 0 0, .int .i64 0, .int .u32 0]) ?_ 2 _ rfl; (with_reducible repeat (first | refine blk_drewN ?_ _ | refine blk_drew ?_ | refine blk_alloc ?_ _)); refine blk_put (cs := #[.int .i64 0, .int .i64 0, .string (⟨#[]⟩ : ByteArray), .int .i64 0, .int .i64 0, .int .i64 0, .int .i64 0, .slice none 0 0, .int .i64 0, .int .u32 0]) ?_ 1 _ rfl; (with_reducible repeat (first | refine blk_drewN ?_ _ | refine blk_drew ?_ | refine blk_alloc ?_ _)); refine blk_put (cs := #[.int .i64 0, .int .i64 0, .string (⟨#[]⟩ : ByteArray), .int .i64 0, .int .i64 0, .int .i64 0, .int .i64 0, .slice none 0 0, .int .i64 0, .int .u32 0]) ?_ 0 _ rfl; (with_reducible repeat (first | refine blk_drewN ?_ _ | refine blk_drew ?_ | refine blk_alloc ?_ _)); exact BK102.out⟩, ⟨by repeat (first | (with_reducible first | exact HB.out | apply below_alloc | apply pw_below_drewN | apply below_drew1 | refine below_set ?_ GE101.out | refine below_set ?_ GE102.out) | exact HB.out)⟩⟩
                · rw [if_neg c23] at H
                  have c23b0 : (a0 == 6) = false := beq_eq_false_iff_ne.mpr c23
                  have c23b1 : (a0 != 6) = true := bne_iff_ne.mpr c23
                  by_cases c26 : a0 < 19
                  · rw [if_pos c26] at H
                    have c26b0 : decide (a0 < 19) = true := decide_eq_true c26
                    clear c26
                    replace H := Option.bind_eq_some_iff.mp H
                    obtain ⟨⟨t115, t116, t117, t118, t119, t120, t121, t122, t125, t126⟩, A270, H⟩ := H
                    replace H : (params_Get.j1 kj4 a0 t115 t116 t117 t118 t119 t120 t121 t122 t125 t126) = some (r1, r2, r3, r4, r5, r6, r7, r8, r9, r10, r11) := H
                    have A27 := Aside0.mk A270
                    clear A270
                    have H' := Aside0.mk H
                    clear H
                    go_wp2_with (first | ((with_reducible refine gate_callee (f := 46) rfl ?_); refine goesL_ (some 36) rfl rfl Tryd.func46 (by kernel_rfl) rfl #[.int .i64 a0] rfl (by (try simp only [List.map_toArray, List.map_cons, List.map_nil]); first | done | rfl | (simp only [List.length_drop, List.length_take]; rfl)) ?_; (with_reducible refine (params_slh.calls a0 t115 t116 t117 t118 t119 t120 t121 t122 t125 t126 _ ?side1 A27.out).mono ?_); (case side1 => first | exact HLd | (exact LaidOk.below HLd (by repeat (first | (with_reducible first | exact HB.out | apply below_alloc | apply pw_below_drewN | apply below_drew1) | exact HB.out))) | (repeat (first | exact HLd | apply LaidOk.drewN | apply LaidOk.drew | apply LaidOk.alloc))); rintro e w28 ⟨v123, rfl, ho0, hb⟩; refine ⟨_, rfl, ?_⟩; have n0_ := Aside0.mk (Kd.R_lower ho0 (below_size (by repeat (first | (with_reducible first | exact HB.out | apply below_alloc | apply pw_below_drewN | apply below_drew1 | refine below_set ?_ GE101.out | refine below_set ?_ GE102.out) | exact HB.out)))); have n1_ := Aside0.mk (blk_below (g := gb101) (o := .cells #[.int .i64 0, .int .i64 0, .string (⟨#[]⟩ : ByteArray), .int .i64 0, .int .i64 0, .int .i64 0, .int .i64 0, .slice none 0 0, .int .i64 0, .int .u32 0] 37 (0, 0)) (by (with_reducible repeat (first | refine blk_drewN ?_ _ | refine blk_drew ?_ | refine blk_alloc ?_ _)); exact BK101.out) hb); have n2_ := Aside0.mk (blk_below (g := gb102) (o := .cells #[.int .i64 0, .int .i64 0, .string (⟨#[]⟩ : ByteArray), .int .i64 0, .int .i64 0, .int .i64 0, .int .i64 0, .slice none 0 0, .int .i64 0, .int .u32 0] 37 (0, 0)) (by (with_reducible repeat (first | refine blk_drewN ?_ _ | refine blk_drew ?_ | refine blk_alloc ?_ _)); exact BK102.out) hb); have n3_ := Aside0.mk (below_step (by repeat (first | (with_reducible first | exact HB.out | apply below_alloc | apply pw_below_drewN | apply below_drew1 | refine below_set ?_ GE101.out | refine below_set ?_ GE102.out) | exact HB.out)) hb); clear BK101; clear BK102; clear HB; have HO124 := n0_; have BK101 := n1_; have BK102 := n2_; have HB := n3_; clear n0_ n1_ n2_ n3_; (try clear hb); (try clear hb2); (try clear hk); (try clear hi); (try clear ho0); have hnb29 := NB102_101.out; have hnc29 := NB101_102.out; have hcz30_0 : w28.cell? ⟨gb102, 0, none⟩ = some (.int .i64 0) := (blk_cell BK102.out 0).trans rfl; have hcz30_1 : w28.cell? ⟨gb102, 1, none⟩ = some (.int .i64 0) := (blk_cell BK102.out 1).trans rfl; have hcz30_2 : w28.cell? ⟨gb102, 2, none⟩ = some (.string (⟨#[]⟩ : ByteArray)) := (blk_cell BK102.out 2).trans rfl; have hcz30_3 : w28.cell? ⟨gb102, 3, none⟩ = some (.int .i64 0) := (blk_cell BK102.out 3).trans rfl; have hcz30_4 : w28.cell? ⟨gb102, 4, none⟩ = some (.int .i64 0) := (blk_cell BK102.out 4).trans rfl; have hcz30_5 : w28.cell? ⟨gb102, 5, none⟩ = some (.int .i64 0) := (blk_cell BK102.out 5).trans rfl; have hcz30_6 : w28.cell? ⟨gb102, 6, none⟩ = some (.int .i64 0) := (blk_cell BK102.out 6).trans rfl; have hcz30_7 : w28.cell? ⟨gb102, 7, none⟩ = some (.slice none 0 0) := (blk_cell BK102.out 7).trans rfl; have hcz30_8 : w28.cell? ⟨gb102, 8, none⟩ = some (.int .i64 0) := (blk_cell BK102.out 8).trans rfl; have hcz30_9 : w28.cell? ⟨gb102, 9, none⟩ = some (.int .u32 0) := (blk_cell BK102.out 9).trans rfl; have hfz30_0 := blk_frozen BK102.out 0; have hfz30_1 := blk_frozen BK102.out 1; have hfz30_2 := blk_frozen BK102.out 2; have hfz30_3 := blk_frozen BK102.out 3; have hfz30_4 := blk_frozen BK102.out 4; have hfz30_5 := blk_frozen BK102.out 5; have hfz30_6 := blk_frozen BK102.out 6; have hfz30_7 := blk_frozen BK102.out 7; have hfz30_8 := blk_frozen BK102.out 8; have hfz30_9 := blk_frozen BK102.out 9; obtain ⟨Ao31, co31, eo31⟩ := Kd.R_slice HO124.out; subst eo31))
                    go_meet
                    case rel => exact ⟨_, (0), (0), ((⟨#[]⟩ : ByteArray)), (0), (0), (0), (0), (0), (0), (t115), (t116), (t117), (t118), (t119), (t120), (t121), (t122), (t125), (t126), (.slice Ao31 t122.length co31), H', ⟨by have := HJ4.out; first | omega | exact Nat.le_refl _⟩, ⟨by (with_reducible repeat (first | apply Kd.R_alloc | apply Kd.R_drewN | apply Kd.R_drew)); exact Kd.R_mono (Kd.R_far (p := ⟨gb102, 9, none⟩) (Kd.R_far (p := ⟨gb102, 8, none⟩) (Kd.R_far (p := ⟨gb102, 7, none⟩) (Kd.R_far (p := ⟨gb102, 6, none⟩) (Kd.R_far (p := ⟨gb102, 5, none⟩) (Kd.R_far (p := ⟨gb102, 4, none⟩) (Kd.R_far (p := ⟨gb102, 3, none⟩) (Kd.R_far (p := ⟨gb102, 2, none⟩) (Kd.R_far (p := ⟨gb102, 1, none⟩) (Kd.R_far (p := ⟨gb102, 0, none⟩) (Kd.R_types HO124.out BK102.out (by decide)) (fun _ hk => hk.2) (.int .i64 t115)) (fun _ hk => hk.2) (.int .i64 t116)) (fun _ hk => hk.2) (.string t117)) (fun _ hk => hk.2) (.int .i64 t118)) (fun _ hk => hk.2) (.int .i64 t119)) (fun _ hk => hk.2) (.int .i64 t120)) (fun _ hk => hk.2) (.int .i64 t121)) (fun _ hk => hk.2) (.slice Ao31 t122.length co31)) (fun _ hk => hk.2) (.int .i64 t125)) (fun _ hk => hk.2) (.int .u32 t126)) (fun _ hk => trivial)⟩, ⟨by (with_reducible repeat (first | refine blk_drewN ?_ _ | refine blk_drew ?_ | refine blk_alloc ?_ _)); refine blk_far ?_ NB101_102.out _; (with_reducible repeat (first | refine blk_drewN ?_ _ | refine blk_drew ?_ | refine blk_alloc ?_ _)); refine blk_far ?_ NB101_102.out _; (with_reducible repeat (first | refine blk_drewN ?_ _ | refine blk_drew ?_ | refine blk_alloc ?_ _)); refine blk_far ?_ NB101_102.out _; (with_reducible repeat (first | refine blk_drewN ?_ _ | refine blk_drew ?_ | refine blk_alloc ?_ _)); refine blk_far ?_ NB101_102.out _; (with_reducible repeat (first | refine blk_drewN ?_ _ | refine blk_drew ?_ | refine blk_alloc ?_ _)); refine blk_far ?_ NB101_102.out _; (with_reducible repeat (first | refine blk_drewN ?_ _ | refine blk_drew ?_ | refine blk_alloc ?_ _)); refine blk_far ?_ NB101_102.out _; (with_reducible repeat (first | refine blk_drewN ?_ _ | refine blk_drew ?_ | refine blk_alloc ?_ _)); refine blk_far ?_ NB101_102.out _; (with_reducible repeat (first | refine blk_drewN ?_ _ | refine blk_drew ?_ | refine blk_alloc ?_ _)); refine blk_far ?_ NB101_102.out _; (with_reducible repeat (first | refine blk_drewN ?_ _ | refine blk_drew ?_ | refine blk_alloc ?_ _)); refine blk_far ?_ NB101_102.out _; (with_reducible repeat (first | refine blk_drewN ?_ _ | refine blk_drew ?_ | refine blk_alloc ?_ _)); refine blk_far ?_ NB101_102.out _; (with_reducible repeat (first | refine blk_drewN ?_ _ | refine blk_drew ?_ | refine blk_alloc ?_ _)); exact BK101.out⟩, ⟨by (with_reducible repeat (first | refine blk_drewN ?_ _ | refine blk_drew ?_ | refine blk_alloc ?_ _)); refine blk_put (cs := #[.int .i64 t115, .int .i64 t116, .string t117, .int .i64 t118, .int .i64 t119, .int .i64 t120, .int .i64 t121, .slice Ao31 t122.length co31, .int .i64 t125, .int .u32 0]) ?_ 9 _ rfl; (with_reducible repeat (first | refine blk_drewN ?_ _ | refine blk_drew ?_ | refine blk_alloc ?_ _)); refine blk_put (cs := #[.int .i64 t115, .int .i64 t116, .string t117, .int .i64 t118, .int .i64 t119, .int .i64 t120, .int .i64 t121, .slice Ao31 t122.length co31, .int .i64 0, .int .u32 0]) ?_ 8 _ rfl; (with_reducible repeat (first | refine blk_drewN ?_ _ | refine blk_drew ?_ | refine blk_alloc ?_ _)); refine blk_put (cs := #[.int .i64 t115, .int .i64 t116, .string t117, .int .i64 t118, .int .i64 t119, .int .i64 t120, .int .i64 t121, .slice none 0 0, .int .i64 0, .int .u32 0]) ?_ 7 _ rfl; (with_reducible repeat (first | refine blk_drewN ?_ _ | refine blk_drew ?_ | refine blk_alloc ?_ _)); refine blk_put (cs := #[.int .i64 t115, .int .i64 t116, .string t117, .int .i64 t118, .int .i64 t119, .int .i64 t120, .int .i64 0, .slice none 0 0, .int .i64 0, .int .u32 0]) ?_ 6 _ rfl; (with_reducible repeat (first | refine blk_drewN ?_ _ | refine blk_drew ?_ | refine blk_alloc ?_ _)); refine blk_put (cs := #[.int .i64 t115, .int .i64 t116, .string t117, .int .i64 t118, .int .i64 t119, .int .i64 0, .int .i64 0, .slice none 0 0, .int .i64 0, .int .u32 0]) ?_ 5 _ rfl; (with_reducible repeat (first | refine blk_drewN ?_ _ | refine blk_drew ?_ | refine blk_alloc ?_ _)); refine blk_put (cs := #[.int .i64 t115, .int .i64 t116, .string t117, .int .i64 t118, .int .i64 0, .int .i64 0, .int .i64 0, .slice none 0 0, .int .i64 0, .int .u32 0]) ?_ 4 _ rfl; (with_reducible repeat (first | refine blk_drewN ?_ _ | refine blk_drew ?_ | refine blk_alloc ?_ _)); refine blk_put (cs := #[.int .i64 t115, .int .i64 t116, .string t117, .int .i64 0, .int .i64 0, .int .i64 0, .int .i64 0, .slice none 0 0, .int .i64 0, .int .u32 0]) ?_ 3 _ rfl; (with_reducible repeat (first | refine blk_drewN ?_ _ | refine blk_drew ?_ | refine blk_alloc ?_ _)); refine blk_put (cs := #[.int .i64 t115, .int .i64 t116, .string (⟨#[]⟩ : ByteArray), .int .i64 0, .int .i64 0, .int .i64 0, .int .i64 0, .slice none 0 0, .int .i64 0, .int .u32 0]) ?_ 2 _ rfl; (with_reducible repeat (first | refine blk_drewN ?_ _ | refine blk_drew ?_ | refine blk_alloc ?_ _)); refine blk_put (cs := #[.int .i64 t115, .int .i64 0, .string (⟨#[]⟩ : ByteArray), .int .i64 0, .int .i64 0, .int .i64 0, .int .i64 0, .slice none 0 0, .int .i64 0, .int .u32 0]) ?_ 1 _ rfl; (with_reducible repeat (first | refine blk_drewN ?_ _ | refine blk_drew ?_ | refine blk_alloc ?_ _)); refine blk_put (cs := #[.int .i64 0, .int .i64 0, .string (⟨#[]⟩ : ByteArray), .int .i64 0, .int .i64 0, .int .i64 0, .int .i64 0, .slice none 0 0, .int .i64 0, .int .u32 0]) ?_ 0 _ rfl; (with_reducible repeat (first | refine blk_drewN ?_ _ | refine blk_drew ?_ | refine blk_alloc ?_ _)); exact BK102.out⟩, ⟨by repeat (first | (with_reducible first | exact HB.out | apply below_alloc | apply pw_below_drewN | apply below_drew1 | refine below_set ?_ GE101.out | refine below_set ?_ GE102.out) | exact HB.out)⟩⟩
                  · rw [if_neg c26] at H
                    have c26b0 : decide (a0 < 19) = false := decide_eq_false c26
                    clear c26
                    by_cases c32 : a0 = 19
                    · rw [if_pos c32] at H
                      have c32b0 : (a0 == 19) = true := beq_iff_eq.mpr c32
                      have c32b1 : (a0 != 19) = false := bne_eq_false_iff_eq.mpr c32
                      clear c32
                      replace H := Option.bind_eq_some_iff.mp H
                      obtain ⟨t127, A330, H⟩ := H
                      replace H : (params_Get.j1 kj4 a0 0 4 (⟨#[72, 83, 83, 47, 76, 77, 83]⟩ : ByteArray) 0 0 0 0 t127 0 0) = some (r1, r2, r3, r4, r5, r6, r7, r8, r9, r10, r11) := H
                      have A33 := Aside0.mk A330
                      clear A330
                      have H' := Aside0.mk H
                      clear H
                      go_wp2_with (first | ((with_reducible refine gate_callee (f := 47) rfl ?_); refine goesL_ (some 40) rfl rfl Tryd.func47 (by kernel_rfl) rfl #[.string (⟨#[49, 46, 50, 46, 56, 52, 48, 46, 49, 49, 51, 53, 52, 57, 46, 49, 46, 57, 46, 49, 54, 46, 51, 46, 49, 55]⟩ : ByteArray)] rfl (by (try simp only [List.map_toArray, List.map_cons, List.map_nil]); first | done | rfl | (simp only [List.length_drop, List.length_take]; rfl)) ?_; (with_reducible refine (params_of.calls (⟨#[49, 46, 50, 46, 56, 52, 48, 46, 49, 49, 51, 53, 52, 57, 46, 49, 46, 57, 46, 49, 54, 46, 51, 46, 49, 55]⟩ : ByteArray) t127 _ ?side1 A33.out).mono ?_); (case side1 => first | exact HLd | (exact LaidOk.below HLd (by repeat (first | (with_reducible first | exact HB.out | apply below_alloc | apply pw_below_drewN | apply below_drew1) | exact HB.out))) | (repeat (first | exact HLd | apply LaidOk.drewN | apply LaidOk.drew | apply LaidOk.alloc))); rintro e w34 ⟨v128, rfl, ho0, hb⟩; refine ⟨_, rfl, ?_⟩; have n0_ := Aside0.mk (Kd.R_lower ho0 (below_size (by repeat (first | (with_reducible first | exact HB.out | apply below_alloc | apply pw_below_drewN | apply below_drew1 | refine below_set ?_ GE101.out | refine below_set ?_ GE102.out) | exact HB.out)))); have n1_ := Aside0.mk (blk_below (g := gb101) (o := .cells #[.int .i64 0, .int .i64 0, .string (⟨#[]⟩ : ByteArray), .int .i64 0, .int .i64 0, .int .i64 0, .int .i64 0, .slice none 0 0, .int .i64 0, .int .u32 0] 37 (0, 0)) (by (with_reducible repeat (first | refine blk_drewN ?_ _ | refine blk_drew ?_ | refine blk_alloc ?_ _)); exact BK101.out) hb); have n2_ := Aside0.mk (blk_below (g := gb102) (o := .cells #[.int .i64 0, .int .i64 0, .string (⟨#[]⟩ : ByteArray), .int .i64 0, .int .i64 0, .int .i64 0, .int .i64 0, .slice none 0 0, .int .i64 0, .int .u32 0] 37 (0, 0)) (by (with_reducible repeat (first | refine blk_drewN ?_ _ | refine blk_drew ?_ | refine blk_alloc ?_ _)); exact BK102.out) hb); have n3_ := Aside0.mk (below_step (by repeat (first | (with_reducible first | exact HB.out | apply below_alloc | apply pw_below_drewN | apply below_drew1 | refine below_set ?_ GE101.out | refine below_set ?_ GE102.out) | exact HB.out)) hb); clear BK101; clear BK102; clear HB; have HO129 := n0_; have BK101 := n1_; have BK102 := n2_; have HB := n3_; clear n0_ n1_ n2_ n3_; (try clear hb); (try clear hb2); (try clear hk); (try clear hi); (try clear ho0); obtain ⟨Ao35, co35, eo35⟩ := Kd.R_slice HO129.out; subst eo35; have hnb36 := NB102_101.out; have hnc36 := NB101_102.out; have hcz37_0 : w34.cell? ⟨gb102, 0, none⟩ = some (.int .i64 0) := (blk_cell BK102.out 0).trans rfl; have hcz37_1 : w34.cell? ⟨gb102, 1, none⟩ = some (.int .i64 0) := (blk_cell BK102.out 1).trans rfl; have hcz37_2 : w34.cell? ⟨gb102, 2, none⟩ = some (.string (⟨#[]⟩ : ByteArray)) := (blk_cell BK102.out 2).trans rfl; have hcz37_3 : w34.cell? ⟨gb102, 3, none⟩ = some (.int .i64 0) := (blk_cell BK102.out 3).trans rfl; have hcz37_4 : w34.cell? ⟨gb102, 4, none⟩ = some (.int .i64 0) := (blk_cell BK102.out 4).trans rfl; have hcz37_5 : w34.cell? ⟨gb102, 5, none⟩ = some (.int .i64 0) := (blk_cell BK102.out 5).trans rfl; have hcz37_6 : w34.cell? ⟨gb102, 6, none⟩ = some (.int .i64 0) := (blk_cell BK102.out 6).trans rfl; have hcz37_7 : w34.cell? ⟨gb102, 7, none⟩ = some (.slice none 0 0) := (blk_cell BK102.out 7).trans rfl; have hcz37_8 : w34.cell? ⟨gb102, 8, none⟩ = some (.int .i64 0) := (blk_cell BK102.out 8).trans rfl; have hcz37_9 : w34.cell? ⟨gb102, 9, none⟩ = some (.int .u32 0) := (blk_cell BK102.out 9).trans rfl; have hfz37_0 := blk_frozen BK102.out 0; have hfz37_1 := blk_frozen BK102.out 1; have hfz37_2 := blk_frozen BK102.out 2; have hfz37_3 := blk_frozen BK102.out 3; have hfz37_4 := blk_frozen BK102.out 4; have hfz37_5 := blk_frozen BK102.out 5; have hfz37_6 := blk_frozen BK102.out 6; have hfz37_7 := blk_frozen BK102.out 7; have hfz37_8 := blk_frozen BK102.out 8; have hfz37_9 := blk_frozen BK102.out 9))
                      go_meet
                      case rel => exact ⟨_, (0), (0), ((⟨#[]⟩ : ByteArray)), (0), (0), (0), (0), (0), (0), (0), (4), ((⟨#[72, 83, 83, 47, 76, 77, 83]⟩ : ByteArray)), (0), (0), (0), (0), (t127), (0), (0), (.slice Ao35 t127.length co35), H', ⟨by have := HJ4.out; first | omega | exact Nat.le_refl _⟩, ⟨by (with_reducible repeat (first | apply Kd.R_alloc | apply Kd.R_drewN | apply Kd.R_drew)); exact Kd.R_mono (Kd.R_far (p := ⟨gb102, 9, none⟩) (Kd.R_far (p := ⟨gb102, 8, none⟩) (Kd.R_far (p := ⟨gb102, 7, none⟩) (Kd.R_far (p := ⟨gb102, 6, none⟩) (Kd.R_far (p := ⟨gb102, 5, none⟩) (Kd.R_far (p := ⟨gb102, 4, none⟩) (Kd.R_far (p := ⟨gb102, 3, none⟩) (Kd.R_far (p := ⟨gb102, 2, none⟩) (Kd.R_far (p := ⟨gb102, 1, none⟩) (Kd.R_far (p := ⟨gb102, 0, none⟩) (Kd.R_types HO129.out BK102.out (by decide)) (fun _ hk => hk.2) (.int .i64 0)) (fun _ hk => hk.2) (.int .i64 4)) (fun _ hk => hk.2) (.string (⟨#[72, 83, 83, 47, 76, 77, 83]⟩ : ByteArray))) (fun _ hk => hk.2) (.int .i64 0)) (fun _ hk => hk.2) (.int .i64 0)) (fun _ hk => hk.2) (.int .i64 0)) (fun _ hk => hk.2) (.int .i64 0)) (fun _ hk => hk.2) (.slice Ao35 t127.length co35)) (fun _ hk => hk.2) (.int .i64 0)) (fun _ hk => hk.2) (.int .u32 0)) (fun _ hk => trivial)⟩, ⟨by (with_reducible repeat (first | refine blk_drewN ?_ _ | refine blk_drew ?_ | refine blk_alloc ?_ _)); refine blk_far ?_ NB101_102.out _; (with_reducible repeat (first | refine blk_drewN ?_ _ | refine blk_drew ?_ | refine blk_alloc ?_ _)); refine blk_far ?_ NB101_102.out _; (with_reducible repeat (first | refine blk_drewN ?_ _ | refine blk_drew ?_ | refine blk_alloc ?_ _)); refine blk_far ?_ NB101_102.out _; (with_reducible repeat (first | refine blk_drewN ?_ _ | refine blk_drew ?_ | refine blk_alloc ?_ _)); refine blk_far ?_ NB101_102.out _; (with_reducible repeat (first | refine blk_drewN ?_ _ | refine blk_drew ?_ | refine blk_alloc ?_ _)); refine blk_far ?_ NB101_102.out _; (with_reducible repeat (first | refine blk_drewN ?_ _ | refine blk_drew ?_ | refine blk_alloc ?_ _)); refine blk_far ?_ NB101_102.out _; (with_reducible repeat (first | refine blk_drewN ?_ _ | refine blk_drew ?_ | refine blk_alloc ?_ _)); refine blk_far ?_ NB101_102.out _; (with_reducible repeat (first | refine blk_drewN ?_ _ | refine blk_drew ?_ | refine blk_alloc ?_ _)); refine blk_far ?_ NB101_102.out _; (with_reducible repeat (first | refine blk_drewN ?_ _ | refine blk_drew ?_ | refine blk_alloc ?_ _)); refine blk_far ?_ NB101_102.out _; (with_reducible repeat (first | refine blk_drewN ?_ _ | refine blk_drew ?_ | refine blk_alloc ?_ _)); refine blk_far ?_ NB101_102.out _; (with_reducible repeat (first | refine blk_drewN ?_ _ | refine blk_drew ?_ | refine blk_alloc ?_ _)); exact BK101.out⟩, ⟨by (with_reducible repeat (first | refine blk_drewN ?_ _ | refine blk_drew ?_ | refine blk_alloc ?_ _)); refine blk_put (cs := #[.int .i64 0, .int .i64 4, .string (⟨#[72, 83, 83, 47, 76, 77, 83]⟩ : ByteArray), .int .i64 0, .int .i64 0, .int .i64 0, .int .i64 0, .slice Ao35 t127.length co35, .int .i64 0, .int .u32 0]) ?_ 9 _ rfl; (with_reducible repeat (first | refine blk_drewN ?_ _ | refine blk_drew ?_ | refine blk_alloc ?_ _)); refine blk_put (cs := #[.int .i64 0, .int .i64 4, .string (⟨#[72, 83, 83, 47, 76, 77, 83]⟩ : ByteArray), .int .i64 0, .int .i64 0, .int .i64 0, .int .i64 0, .slice Ao35 t127.length co35, .int .i64 0, .int .u32 0]) ?_ 8 _ rfl; (with_reducible repeat (first | refine blk_drewN ?_ _ | refine blk_drew ?_ | refine blk_alloc ?_ _)); refine blk_put (cs := #[.int .i64 0, .int .i64 4, .string (⟨#[72, 83, 83, 47, 76, 77, 83]⟩ : ByteArray), .int .i64 0, .int .i64 0, .int .i64 0, .int .i64 0, .slice none 0 0, .int .i64 0, .int .u32 0]) ?_ 7 _ rfl; (with_reducible repeat (first | refine blk_drewN ?_ _ | refine blk_drew ?_ | refine blk_alloc ?_ _)); refine blk_put (cs := #[.int .i64 0, .int .i64 4, .string (⟨#[72, 83, 83, 47, 76, 77, 83]⟩ : ByteArray), .int .i64 0, .int .i64 0, .int .i64 0, .int .i64 0, .slice none 0 0, .int .i64 0, .int .u32 0]) ?_ 6 _ rfl; (with_reducible repeat (first | refine blk_drewN ?_ _ | refine blk_drew ?_ | refine blk_alloc ?_ _)); refine blk_put (cs := #[.int .i64 0, .int .i64 4, .string (⟨#[72, 83, 83, 47, 76, 77, 83]⟩ : ByteArray), .int .i64 0, .int .i64 0, .int .i64 0, .int .i64 0, .slice none 0 0, .int .i64 0, .int .u32 0]) ?_ 5 _ rfl; (with_reducible repeat (first | refine blk_drewN ?_ _ | refine blk_drew ?_ | refine blk_alloc ?_ _)); refine blk_put (cs := #[.int .i64 0, .int .i64 4, .string (⟨#[72, 83, 83, 47, 76, 77, 83]⟩ : ByteArray), .int .i64 0, .int .i64 0, .int .i64 0, .int .i64 0, .slice none 0 0, .int .i64 0, .int .u32 0]) ?_ 4 _ rfl; (with_reducible repeat (first | refine blk_drewN ?_ _ | refine blk_drew ?_ | refine blk_alloc ?_ _)); refine blk_put (cs := #[.int .i64 0, .int .i64 4, .string (⟨#[72, 83, 83, 47, 76, 77, 83]⟩ : ByteArray), .int .i64 0, .int .i64 0, .int .i64 0, .int .i64 0, .slice none 0 0, .int .i64 0, .int .u32 0]) ?_ 3 _ rfl; (with_reducible repeat (first | refine blk_drewN ?_ _ | refine blk_drew ?_ | refine blk_alloc ?_ _)); refine blk_put (cs := #[.int .i64 0, .int .i64 4, .string (⟨#[]⟩ : ByteArray), .int .i64 0, .int .i64 0, .int .i64 0, .int .i64 0, .slice none 0 0, .int .i64 0, .int .u32 0]) ?_ 2 _ rfl; (with_reducible repeat (first | refine blk_drewN ?_ _ | refine blk_drew ?_ | refine blk_alloc ?_ _)); refine blk_put (cs := #[.int .i64 0, .int .i64 0, .string (⟨#[]⟩ : ByteArray), .int .i64 0, .int .i64 0, .int .i64 0, .int .i64 0, .slice none 0 0, .int .i64 0, .int .u32 0]) ?_ 1 _ rfl; (with_reducible repeat (first | refine blk_drewN ?_ _ | refine blk_drew ?_ | refine blk_alloc ?_ _)); refine blk_put (cs := #[.int .i64 0, .int .i64 0, .string (⟨#[]⟩ : ByteArray), .int .i64 0, .int .i64 0, .int .i64 0, .int .i64 0, .slice none 0 0, .int .i64 0, .int .u32 0]) ?_ 0 _ rfl; (with_reducible repeat (first | refine blk_drewN ?_ _ | refine blk_drew ?_ | refine blk_alloc ?_ _)); exact BK102.out⟩, ⟨by repeat (first | (with_reducible first | exact HB.out | apply below_alloc | apply pw_below_drewN | apply below_drew1 | refine below_set ?_ GE101.out | refine below_set ?_ GE102.out) | exact HB.out)⟩⟩
                    · rw [if_neg c32] at H
                      have c32b0 : (a0 == 19) = false := beq_eq_false_iff_ne.mpr c32
                      have c32b1 : (a0 != 19) = true := bne_iff_ne.mpr c32
                      replace H := Option.bind_eq_some_iff.mp H
                      obtain ⟨⟨t130, t131, t132, t133, t134, t135, t136, t137, t140, t141⟩, A380, H⟩ := H
                      replace H : (params_Get.j1 kj4 a0 t130 t131 t132 t133 t134 t135 t136 t137 t140 t141) = some (r1, r2, r3, r4, r5, r6, r7, r8, r9, r10, r11) := H
                      have A38 := Aside0.mk A380
                      clear A380
                      have H' := Aside0.mk H
                      clear H
                      go_wp2_with (first | ((with_reducible refine gate_callee (f := 48) rfl ?_); refine goesL_ (some 6) rfl rfl Tryd.func48 (by kernel_rfl) rfl #[.int .i64 a0] rfl (by (try simp only [List.map_toArray, List.map_cons, List.map_nil]); first | done | rfl | (simp only [List.length_drop, List.length_take]; rfl)) ?_; (with_reducible refine (params_xmss.calls a0 t130 t131 t132 t133 t134 t135 t136 t137 t140 t141 _ ?side1 A38.out).mono ?_); (case side1 => first | exact HLd | (exact LaidOk.below HLd (by repeat (first | (with_reducible first | exact HB.out | apply below_alloc | apply pw_below_drewN | apply below_drew1) | exact HB.out))) | (repeat (first | exact HLd | apply LaidOk.drewN | apply LaidOk.drew | apply LaidOk.alloc))); rintro e w39 ⟨v138, rfl, ho0, hb⟩; refine ⟨_, rfl, ?_⟩; have n0_ := Aside0.mk (Kd.R_lower ho0 (below_size (by repeat (first | (with_reducible first | exact HB.out | apply below_alloc | apply pw_below_drewN | apply below_drew1 | refine below_set ?_ GE101.out | refine below_set ?_ GE102.out) | exact HB.out)))); have n1_ := Aside0.mk (blk_below (g := gb101) (o := .cells #[.int .i64 0, .int .i64 0, .string (⟨#[]⟩ : ByteArray), .int .i64 0, .int .i64 0, .int .i64 0, .int .i64 0, .slice none 0 0, .int .i64 0, .int .u32 0] 37 (0, 0)) (by (with_reducible repeat (first | refine blk_drewN ?_ _ | refine blk_drew ?_ | refine blk_alloc ?_ _)); exact BK101.out) hb); have n2_ := Aside0.mk (blk_below (g := gb102) (o := .cells #[.int .i64 0, .int .i64 0, .string (⟨#[]⟩ : ByteArray), .int .i64 0, .int .i64 0, .int .i64 0, .int .i64 0, .slice none 0 0, .int .i64 0, .int .u32 0] 37 (0, 0)) (by (with_reducible repeat (first | refine blk_drewN ?_ _ | refine blk_drew ?_ | refine blk_alloc ?_ _)); exact BK102.out) hb); have n3_ := Aside0.mk (below_step (by repeat (first | (with_reducible first | exact HB.out | apply below_alloc | apply pw_below_drewN | apply below_drew1 | refine below_set ?_ GE101.out | refine below_set ?_ GE102.out) | exact HB.out)) hb); clear BK101; clear BK102; clear HB; have HO139 := n0_; have BK101 := n1_; have BK102 := n2_; have HB := n3_; clear n0_ n1_ n2_ n3_; (try clear hb); (try clear hb2); (try clear hk); (try clear hi); (try clear ho0); have hnb40 := NB102_101.out; have hnc40 := NB101_102.out; have hcz41_0 : w39.cell? ⟨gb102, 0, none⟩ = some (.int .i64 0) := (blk_cell BK102.out 0).trans rfl; have hcz41_1 : w39.cell? ⟨gb102, 1, none⟩ = some (.int .i64 0) := (blk_cell BK102.out 1).trans rfl; have hcz41_2 : w39.cell? ⟨gb102, 2, none⟩ = some (.string (⟨#[]⟩ : ByteArray)) := (blk_cell BK102.out 2).trans rfl; have hcz41_3 : w39.cell? ⟨gb102, 3, none⟩ = some (.int .i64 0) := (blk_cell BK102.out 3).trans rfl; have hcz41_4 : w39.cell? ⟨gb102, 4, none⟩ = some (.int .i64 0) := (blk_cell BK102.out 4).trans rfl; have hcz41_5 : w39.cell? ⟨gb102, 5, none⟩ = some (.int .i64 0) := (blk_cell BK102.out 5).trans rfl; have hcz41_6 : w39.cell? ⟨gb102, 6, none⟩ = some (.int .i64 0) := (blk_cell BK102.out 6).trans rfl; have hcz41_7 : w39.cell? ⟨gb102, 7, none⟩ = some (.slice none 0 0) := (blk_cell BK102.out 7).trans rfl; have hcz41_8 : w39.cell? ⟨gb102, 8, none⟩ = some (.int .i64 0) := (blk_cell BK102.out 8).trans rfl; have hcz41_9 : w39.cell? ⟨gb102, 9, none⟩ = some (.int .u32 0) := (blk_cell BK102.out 9).trans rfl; have hfz41_0 := blk_frozen BK102.out 0; have hfz41_1 := blk_frozen BK102.out 1; have hfz41_2 := blk_frozen BK102.out 2; have hfz41_3 := blk_frozen BK102.out 3; have hfz41_4 := blk_frozen BK102.out 4; have hfz41_5 := blk_frozen BK102.out 5; have hfz41_6 := blk_frozen BK102.out 6; have hfz41_7 := blk_frozen BK102.out 7; have hfz41_8 := blk_frozen BK102.out 8; have hfz41_9 := blk_frozen BK102.out 9; obtain ⟨Ao42, co42, eo42⟩ := Kd.R_slice HO139.out; subst eo42))
                      go_meet
                      case rel => exact ⟨_, (0), (0), ((⟨#[]⟩ : ByteArray)), (0), (0), (0), (0), (0), (0), (t130), (t131), (t132), (t133), (t134), (t135), (t136), (t137), (t140), (t141), (.slice Ao42 t137.length co42), H', ⟨by have := HJ4.out; first | omega | exact Nat.le_refl _⟩, ⟨by (with_reducible repeat (first | apply Kd.R_alloc | apply Kd.R_drewN | apply Kd.R_drew)); exact Kd.R_mono (Kd.R_far (p := ⟨gb102, 9, none⟩) (Kd.R_far (p := ⟨gb102, 8, none⟩) (Kd.R_far (p := ⟨gb102, 7, none⟩) (Kd.R_far (p := ⟨gb102, 6, none⟩) (Kd.R_far (p := ⟨gb102, 5, none⟩) (Kd.R_far (p := ⟨gb102, 4, none⟩) (Kd.R_far (p := ⟨gb102, 3, none⟩) (Kd.R_far (p := ⟨gb102, 2, none⟩) (Kd.R_far (p := ⟨gb102, 1, none⟩) (Kd.R_far (p := ⟨gb102, 0, none⟩) (Kd.R_types HO139.out BK102.out (by decide)) (fun _ hk => hk.2) (.int .i64 t130)) (fun _ hk => hk.2) (.int .i64 t131)) (fun _ hk => hk.2) (.string t132)) (fun _ hk => hk.2) (.int .i64 t133)) (fun _ hk => hk.2) (.int .i64 t134)) (fun _ hk => hk.2) (.int .i64 t135)) (fun _ hk => hk.2) (.int .i64 t136)) (fun _ hk => hk.2) (.slice Ao42 t137.length co42)) (fun _ hk => hk.2) (.int .i64 t140)) (fun _ hk => hk.2) (.int .u32 t141)) (fun _ hk => trivial)⟩, ⟨by (with_reducible repeat (first | refine blk_drewN ?_ _ | refine blk_drew ?_ | refine blk_alloc ?_ _)); refine blk_far ?_ NB101_102.out _; (with_reducible repeat (first | refine blk_drewN ?_ _ | refine blk_drew ?_ | refine blk_alloc ?_ _)); refine blk_far ?_ NB101_102.out _; (with_reducible repeat (first | refine blk_drewN ?_ _ | refine blk_drew ?_ | refine blk_alloc ?_ _)); refine blk_far ?_ NB101_102.out _; (with_reducible repeat (first | refine blk_drewN ?_ _ | refine blk_drew ?_ | refine blk_alloc ?_ _)); refine blk_far ?_ NB101_102.out _; (with_reducible repeat (first | refine blk_drewN ?_ _ | refine blk_drew ?_ | refine blk_alloc ?_ _)); refine blk_far ?_ NB101_102.out _; (with_reducible repeat (first | refine blk_drewN ?_ _ | refine blk_drew ?_ | refine blk_alloc ?_ _)); refine blk_far ?_ NB101_102.out _; (with_reducible repeat (first | refine blk_drewN ?_ _ | refine blk_drew ?_ | refine blk_alloc ?_ _)); refine blk_far ?_ NB101_102.out _; (with_reducible repeat (first | refine blk_drewN ?_ _ | refine blk_drew ?_ | refine blk_alloc ?_ _)); refine blk_far ?_ NB101_102.out _; (with_reducible repeat (first | refine blk_drewN ?_ _ | refine blk_drew ?_ | refine blk_alloc ?_ _)); refine blk_far ?_ NB101_102.out _; (with_reducible repeat (first | refine blk_drewN ?_ _ | refine blk_drew ?_ | refine blk_alloc ?_ _)); refine blk_far ?_ NB101_102.out _; (with_reducible repeat (first | refine blk_drewN ?_ _ | refine blk_drew ?_ | refine blk_alloc ?_ _)); exact BK101.out⟩, ⟨by (with_reducible repeat (first | refine blk_drewN ?_ _ | refine blk_drew ?_ | refine blk_alloc ?_ _)); refine blk_put (cs := #[.int .i64 t130, .int .i64 t131, .string t132, .int .i64 t133, .int .i64 t134, .int .i64 t135, .int .i64 t136, .slice Ao42 t137.length co42, .int .i64 t140, .int .u32 0]) ?_ 9 _ rfl; (with_reducible repeat (first | refine blk_drewN ?_ _ | refine blk_drew ?_ | refine blk_alloc ?_ _)); refine blk_put (cs := #[.int .i64 t130, .int .i64 t131, .string t132, .int .i64 t133, .int .i64 t134, .int .i64 t135, .int .i64 t136, .slice Ao42 t137.length co42, .int .i64 0, .int .u32 0]) ?_ 8 _ rfl; (with_reducible repeat (first | refine blk_drewN ?_ _ | refine blk_drew ?_ | refine blk_alloc ?_ _)); refine blk_put (cs := #[.int .i64 t130, .int .i64 t131, .string t132, .int .i64 t133, .int .i64 t134, .int .i64 t135, .int .i64 t136, .slice none 0 0, .int .i64 0, .int .u32 0]) ?_ 7 _ rfl; (with_reducible repeat (first | refine blk_drewN ?_ _ | refine blk_drew ?_ | refine blk_alloc ?_ _)); refine blk_put (cs := #[.int .i64 t130, .int .i64 t131, .string t132, .int .i64 t133, .int .i64 t134, .int .i64 t135, .int .i64 0, .slice none 0 0, .int .i64 0, .int .u32 0]) ?_ 6 _ rfl; (with_reducible repeat (first | refine blk_drewN ?_ _ | refine blk_drew ?_ | refine blk_alloc ?_ _)); refine blk_put (cs := #[.int .i64 t130, .int .i64 t131, .string t132, .int .i64 t133, .int .i64 t134, .int .i64 0, .int .i64 0, .slice none 0 0, .int .i64 0, .int .u32 0]) ?_ 5 _ rfl; (with_reducible repeat (first | refine blk_drewN ?_ _ | refine blk_drew ?_ | refine blk_alloc ?_ _)); refine blk_put (cs := #[.int .i64 t130, .int .i64 t131, .string t132, .int .i64 t133, .int .i64 0, .int .i64 0, .int .i64 0, .slice none 0 0, .int .i64 0, .int .u32 0]) ?_ 4 _ rfl; (with_reducible repeat (first | refine blk_drewN ?_ _ | refine blk_drew ?_ | refine blk_alloc ?_ _)); refine blk_put (cs := #[.int .i64 t130, .int .i64 t131, .string t132, .int .i64 0, .int .i64 0, .int .i64 0, .int .i64 0, .slice none 0 0, .int .i64 0, .int .u32 0]) ?_ 3 _ rfl; (with_reducible repeat (first | refine blk_drewN ?_ _ | refine blk_drew ?_ | refine blk_alloc ?_ _)); refine blk_put (cs := #[.int .i64 t130, .int .i64 t131, .string (⟨#[]⟩ : ByteArray), .int .i64 0, .int .i64 0, .int .i64 0, .int .i64 0, .slice none 0 0, .int .i64 0, .int .u32 0]) ?_ 2 _ rfl; (with_reducible repeat (first | refine blk_drewN ?_ _ | refine blk_drew ?_ | refine blk_alloc ?_ _)); refine blk_put (cs := #[.int .i64 t130, .int .i64 0, .string (⟨#[]⟩ : ByteArray), .int .i64 0, .int .i64 0, .int .i64 0, .int .i64 0, .slice none 0 0, .int .i64 0, .int .u32 0]) ?_ 1 _ rfl; (with_reducible repeat (first | refine blk_drewN ?_ _ | refine blk_drew ?_ | refine blk_alloc ?_ _)); refine blk_put (cs := #[.int .i64 0, .int .i64 0, .string (⟨#[]⟩ : ByteArray), .int .i64 0, .int .i64 0, .int .i64 0, .int .i64 0, .slice none 0 0, .int .i64 0, .int .u32 0]) ?_ 0 _ rfl; (with_reducible repeat (first | refine blk_drewN ?_ _ | refine blk_drew ?_ | refine blk_alloc ?_ _)); exact BK102.out⟩, ⟨by repeat (first | (with_reducible first | exact HB.out | apply below_alloc | apply pw_below_drewN | apply below_drew1 | refine below_set ?_ GE101.out | refine below_set ?_ GE102.out) | exact HB.out)⟩⟩
  case rest =>
    clear HC2
    try clear c1
    try clear c2
    try clear p2
    try clear c3
    try clear c4
    try clear c6
    try clear c6b0
    try clear c7
    try clear c8
    try clear c11
    try clear c11b0
    try clear c14
    try clear c17
    try clear c17b0
    try clear c17b1
    try clear c18
    try clear c20
    try clear c20b0
    try clear c20b1
    try clear c21
    try clear c23
    try clear c23b0
    try clear c23b1
    try clear c24
    try clear c25
    try clear c26
    try clear c26b0
    try clear c29
    try clear c32
    try clear c32b0
    try clear c32b1
    try clear c36
    try clear c40
    try clear hcz10_0
    try clear hcz10_1
    try clear hcz10_2
    try clear hcz10_3
    try clear hcz10_4
    try clear hcz10_5
    try clear hcz10_6
    try clear hcz10_7
    try clear hcz10_8
    try clear hcz10_9
    try clear hcz15_0
    try clear hcz15_1
    try clear hcz15_2
    try clear hcz15_3
    try clear hcz15_4
    try clear hcz15_5
    try clear hcz15_6
    try clear hcz15_7
    try clear hcz15_8
    try clear hcz15_9
    try clear hcz19_0
    try clear hcz19_1
    try clear hcz19_2
    try clear hcz19_3
    try clear hcz19_4
    try clear hcz19_5
    try clear hcz19_6
    try clear hcz19_7
    try clear hcz19_8
    try clear hcz19_9
    try clear hcz22_0
    try clear hcz22_1
    try clear hcz22_2
    try clear hcz22_3
    try clear hcz22_4
    try clear hcz22_5
    try clear hcz22_6
    try clear hcz22_7
    try clear hcz22_8
    try clear hcz22_9
    try clear hcz25_0
    try clear hcz25_1
    try clear hcz25_2
    try clear hcz25_3
    try clear hcz25_4
    try clear hcz25_5
    try clear hcz25_6
    try clear hcz25_7
    try clear hcz25_8
    try clear hcz25_9
    try clear hcz30_0
    try clear hcz30_1
    try clear hcz30_2
    try clear hcz30_3
    try clear hcz30_4
    try clear hcz30_5
    try clear hcz30_6
    try clear hcz30_7
    try clear hcz30_8
    try clear hcz30_9
    try clear hcz37_0
    try clear hcz37_1
    try clear hcz37_2
    try clear hcz37_3
    try clear hcz37_4
    try clear hcz37_5
    try clear hcz37_6
    try clear hcz37_7
    try clear hcz37_8
    try clear hcz37_9
    try clear hcz41_0
    try clear hcz41_1
    try clear hcz41_2
    try clear hcz41_3
    try clear hcz41_4
    try clear hcz41_5
    try clear hcz41_6
    try clear hcz41_7
    try clear hcz41_8
    try clear hcz41_9
    try clear hcz9_0
    try clear hcz9_1
    try clear hcz9_2
    try clear hcz9_3
    try clear hcz9_4
    try clear hcz9_5
    try clear hcz9_6
    try clear hcz9_7
    try clear hcz9_8
    try clear hcz9_9
    try clear hfz10_0
    try clear hfz10_1
    try clear hfz10_2
    try clear hfz10_3
    try clear hfz10_4
    try clear hfz10_5
    try clear hfz10_6
    try clear hfz10_7
    try clear hfz10_8
    try clear hfz10_9
    try clear hfz15_0
    try clear hfz15_1
    try clear hfz15_2
    try clear hfz15_3
    try clear hfz15_4
    try clear hfz15_5
    try clear hfz15_6
    try clear hfz15_7
    try clear hfz15_8
    try clear hfz15_9
    try clear hfz19_0
    try clear hfz19_1
    try clear hfz19_2
    try clear hfz19_3
    try clear hfz19_4
    try clear hfz19_5
    try clear hfz19_6
    try clear hfz19_7
    try clear hfz19_8
    try clear hfz19_9
    try clear hfz22_0
    try clear hfz22_1
    try clear hfz22_2
    try clear hfz22_3
    try clear hfz22_4
    try clear hfz22_5
    try clear hfz22_6
    try clear hfz22_7
    try clear hfz22_8
    try clear hfz22_9
    try clear hfz25_0
    try clear hfz25_1
    try clear hfz25_2
    try clear hfz25_3
    try clear hfz25_4
    try clear hfz25_5
    try clear hfz25_6
    try clear hfz25_7
    try clear hfz25_8
    try clear hfz25_9
    try clear hfz30_0
    try clear hfz30_1
    try clear hfz30_2
    try clear hfz30_3
    try clear hfz30_4
    try clear hfz30_5
    try clear hfz30_6
    try clear hfz30_7
    try clear hfz30_8
    try clear hfz30_9
    try clear hfz37_0
    try clear hfz37_1
    try clear hfz37_2
    try clear hfz37_3
    try clear hfz37_4
    try clear hfz37_5
    try clear hfz37_6
    try clear hfz37_7
    try clear hfz37_8
    try clear hfz37_9
    try clear hfz41_0
    try clear hfz41_1
    try clear hfz41_2
    try clear hfz41_3
    try clear hfz41_4
    try clear hfz41_5
    try clear hfz41_6
    try clear hfz41_7
    try clear hfz41_8
    try clear hfz41_9
    try clear hfz9_0
    try clear hfz9_1
    try clear hfz9_2
    try clear hfz9_3
    try clear hfz9_4
    try clear hfz9_5
    try clear hfz9_6
    try clear hfz9_7
    try clear hfz9_8
    try clear hfz9_9
    try clear p2
    obtain ⟨kq, x102000_1, x102001_1, x102002_1, x102003_1, x102004_1, x102005_1, x102006_1, x102008_1, x102009_1, x103000_1, x103001_1, x103002_1, x103003_1, x103004_1, x103005_1, x103006_1, x103007_1, x103008_1, x103009_1, u103007, HA, HJ1, HO_103007, BK101, BK102, HB⟩ := hcut
    cases kq with
    | zero => exact absurd HA.out (by simp [params_Get.j1])
    | succ kj1 =>
      have H := HA.out
      clear HA
      simp only [params_Get.j1] at H
      by_cases c43 : a0 = 4
      · rw [if_pos c43] at H
        have c43b0 : (a0 == 4) = true := beq_iff_eq.mpr c43
        have c43b1 : (a0 != 4) = false := bne_eq_false_iff_eq.mpr c43
        clear c43
        replace H := Option.bind_eq_some_iff.mp H
        obtain ⟨t142, A440, H⟩ := H
        replace H : (some (a0, 2, x103002_1, x103003_1, x103004_1, 32, x103006_1, t142, wrap64 ((-44) - a0), x103009_1, true)) = some (r1, r2, r3, r4, r5, r6, r7, r8, r9, r10, r11) := H
        have A44 := Aside0.mk A440
        clear A440
        simp only [Option.some.injEq, Prod.mk.injEq] at H
        obtain ⟨rfl, rfl, rfl, rfl, rfl, rfl, rfl, rfl, rfl, rfl, rfl⟩ := H
        go_wp2_with (first | ((with_reducible refine gate_callee (f := 49) rfl ?_); refine goesL_ (some 51) rfl rfl Tryd.func49 (by kernel_rfl) rfl #[.int .i64 3, .int .i64 (wrap64 (a0 + 13))] rfl (by (try simp only [List.map_toArray, List.map_cons, List.map_nil]); first | done | rfl | (simp only [List.length_drop, List.length_take]; rfl)) ?_; (with_reducible refine (params_nist.calls 3 (wrap64 (a0 + 13)) t142 _ A44.out).mono ?_); rintro e w45 ⟨v143, rfl, ho0, hb⟩; refine ⟨_, rfl, ?_⟩; have n0_ := Aside0.mk (Kd.R_elder' (by (with_reducible repeat (first | apply Kd.R_alloc | apply Kd.R_drewN | apply Kd.R_drew)); exact HO_103007.out) (Kd.R_base ho0) hb); have n1_ := Aside0.mk (Kd.R_lower (Kd.R_new' ho0 (Kd.R_lt (by (with_reducible repeat (first | apply Kd.R_alloc | apply Kd.R_drewN | apply Kd.R_drew)); exact HO_103007.out))) (below_size (by repeat (first | (with_reducible first | exact HB.out | apply below_alloc | apply pw_below_drewN | apply below_drew1 | refine below_set ?_ GE101.out | refine below_set ?_ GE102.out) | exact HB.out)))); have n2_ := Aside0.mk (blk_below (g := gb101) (o := .cells #[.int .i64 x102000_1, .int .i64 x102001_1, .string x102002_1, .int .i64 x102003_1, .int .i64 x102004_1, .int .i64 x102005_1, .int .i64 x102006_1, .slice none 0 0, .int .i64 x102008_1, .int .u32 x102009_1] 37 (0, 0)) (by (with_reducible repeat (first | refine blk_drewN ?_ _ | refine blk_drew ?_ | refine blk_alloc ?_ _)); exact BK101.out) hb); have n3_ := Aside0.mk (blk_below (g := gb102) (o := .cells #[.int .i64 x103000_1, .int .i64 x103001_1, .string x103002_1, .int .i64 x103003_1, .int .i64 x103004_1, .int .i64 x103005_1, .int .i64 x103006_1, u103007, .int .i64 x103008_1, .int .u32 x103009_1] 37 (0, 0)) (by (with_reducible repeat (first | refine blk_drewN ?_ _ | refine blk_drew ?_ | refine blk_alloc ?_ _)); exact BK102.out) hb); have n4_ := Aside0.mk (below_step (by repeat (first | (with_reducible first | exact HB.out | apply below_alloc | apply pw_below_drewN | apply below_drew1 | refine below_set ?_ GE101.out | refine below_set ?_ GE102.out) | exact HB.out)) hb); clear HO_103007; clear BK101; clear BK102; clear HB; have HO_103007 := n0_; have HO144 := n1_; have BK101 := n2_; have BK102 := n3_; have HB := n4_; clear n0_ n1_ n2_ n3_ n4_; (try clear hb); (try clear hb2); (try clear hk); (try clear hi); (try clear ho0); have hnb46 := NB102_101.out; have hnc46 := NB101_102.out; have hcz47_0 : w45.cell? ⟨gb102, 0, none⟩ = some (.int .i64 x103000_1) := (blk_cell BK102.out 0).trans rfl; have hcz47_1 : w45.cell? ⟨gb102, 1, none⟩ = some (.int .i64 x103001_1) := (blk_cell BK102.out 1).trans rfl; have hcz47_2 : w45.cell? ⟨gb102, 2, none⟩ = some (.string x103002_1) := (blk_cell BK102.out 2).trans rfl; have hcz47_3 : w45.cell? ⟨gb102, 3, none⟩ = some (.int .i64 x103003_1) := (blk_cell BK102.out 3).trans rfl; have hcz47_4 : w45.cell? ⟨gb102, 4, none⟩ = some (.int .i64 x103004_1) := (blk_cell BK102.out 4).trans rfl; have hcz47_5 : w45.cell? ⟨gb102, 5, none⟩ = some (.int .i64 x103005_1) := (blk_cell BK102.out 5).trans rfl; have hcz47_6 : w45.cell? ⟨gb102, 6, none⟩ = some (.int .i64 x103006_1) := (blk_cell BK102.out 6).trans rfl; have hcz47_7 : w45.cell? ⟨gb102, 7, none⟩ = some (u103007) := (blk_cell BK102.out 7).trans rfl; have hcz47_8 : w45.cell? ⟨gb102, 8, none⟩ = some (.int .i64 x103008_1) := (blk_cell BK102.out 8).trans rfl; have hcz47_9 : w45.cell? ⟨gb102, 9, none⟩ = some (.int .u32 x103009_1) := (blk_cell BK102.out 9).trans rfl; have hfz47_0 := blk_frozen BK102.out 0; have hfz47_1 := blk_frozen BK102.out 1; have hfz47_2 := blk_frozen BK102.out 2; have hfz47_3 := blk_frozen BK102.out 3; have hfz47_4 := blk_frozen BK102.out 4; have hfz47_5 := blk_frozen BK102.out 5; have hfz47_6 := blk_frozen BK102.out 6; have hfz47_7 := blk_frozen BK102.out 7; have hfz47_8 := blk_frozen BK102.out 8; have hfz47_9 := blk_frozen BK102.out 9; obtain ⟨Ao48, co48, eo48⟩ := Kd.R_slice HO144.out; subst eo48; have hcz49_0 : w45.cell? ⟨gb101, 0, none⟩ = some (.int .i64 x102000_1) := (blk_cell BK101.out 0).trans rfl; have hcz49_1 : w45.cell? ⟨gb101, 1, none⟩ = some (.int .i64 x102001_1) := (blk_cell BK101.out 1).trans rfl; have hcz49_2 : w45.cell? ⟨gb101, 2, none⟩ = some (.string x102002_1) := (blk_cell BK101.out 2).trans rfl; have hcz49_3 : w45.cell? ⟨gb101, 3, none⟩ = some (.int .i64 x102003_1) := (blk_cell BK101.out 3).trans rfl; have hcz49_4 : w45.cell? ⟨gb101, 4, none⟩ = some (.int .i64 x102004_1) := (blk_cell BK101.out 4).trans rfl; have hcz49_5 : w45.cell? ⟨gb101, 5, none⟩ = some (.int .i64 x102005_1) := (blk_cell BK101.out 5).trans rfl; have hcz49_6 : w45.cell? ⟨gb101, 6, none⟩ = some (.int .i64 x102006_1) := (blk_cell BK101.out 6).trans rfl; have hcz49_7 : w45.cell? ⟨gb101, 7, none⟩ = some (.slice none 0 0) := (blk_cell BK101.out 7).trans rfl; have hcz49_8 : w45.cell? ⟨gb101, 8, none⟩ = some (.int .i64 x102008_1) := (blk_cell BK101.out 8).trans rfl; have hcz49_9 : w45.cell? ⟨gb101, 9, none⟩ = some (.int .u32 x102009_1) := (blk_cell BK101.out 9).trans rfl; have hfz49_0 := blk_frozen BK101.out 0; have hfz49_1 := blk_frozen BK101.out 1; have hfz49_2 := blk_frozen BK101.out 2; have hfz49_3 := blk_frozen BK101.out 3; have hfz49_4 := blk_frozen BK101.out 4; have hfz49_5 := blk_frozen BK101.out 5; have hfz49_6 := blk_frozen BK101.out 6; have hfz49_7 := blk_frozen BK101.out 7; have hfz49_8 := blk_frozen BK101.out 8; have hfz49_9 := blk_frozen BK101.out 9))
        refine bodyPost_ret (results_ct rfl _ _ gb101 37 #[.int .i64 a0, .int .i64 2, .string x103002_1, .int .i64 x103003_1, .int .i64 x103004_1, .int .i64 32, .int .i64 x103006_1, .slice Ao48 t142.length co48, .int .i64 (wrap64 ((-44) - a0)), .int .u32 x103009_1] (0, 0) _ rfl (by (with_reducible repeat (first | refine blk_drewN ?_ _ | refine blk_drew ?_ | refine blk_alloc ?_ _)); refine blk_put (cs := #[.int .i64 a0, .int .i64 2, .string x103002_1, .int .i64 x103003_1, .int .i64 x103004_1, .int .i64 32, .int .i64 x103006_1, .slice Ao48 t142.length co48, .int .i64 (wrap64 ((-44) - a0)), .int .u32 x102009_1]) ?_ 9 _ rfl; (with_reducible repeat (first | refine blk_drewN ?_ _ | refine blk_drew ?_ | refine blk_alloc ?_ _)); refine blk_put (cs := #[.int .i64 a0, .int .i64 2, .string x103002_1, .int .i64 x103003_1, .int .i64 x103004_1, .int .i64 32, .int .i64 x103006_1, .slice Ao48 t142.length co48, .int .i64 x102008_1, .int .u32 x102009_1]) ?_ 8 _ rfl; (with_reducible repeat (first | refine blk_drewN ?_ _ | refine blk_drew ?_ | refine blk_alloc ?_ _)); refine blk_put (cs := #[.int .i64 a0, .int .i64 2, .string x103002_1, .int .i64 x103003_1, .int .i64 x103004_1, .int .i64 32, .int .i64 x103006_1, .slice none 0 0, .int .i64 x102008_1, .int .u32 x102009_1]) ?_ 7 _ rfl; (with_reducible repeat (first | refine blk_drewN ?_ _ | refine blk_drew ?_ | refine blk_alloc ?_ _)); refine blk_put (cs := #[.int .i64 a0, .int .i64 2, .string x103002_1, .int .i64 x103003_1, .int .i64 x103004_1, .int .i64 32, .int .i64 x102006_1, .slice none 0 0, .int .i64 x102008_1, .int .u32 x102009_1]) ?_ 6 _ rfl; (with_reducible repeat (first | refine blk_drewN ?_ _ | refine blk_drew ?_ | refine blk_alloc ?_ _)); refine blk_put (cs := #[.int .i64 a0, .int .i64 2, .string x103002_1, .int .i64 x103003_1, .int .i64 x103004_1, .int .i64 x102005_1, .int .i64 x102006_1, .slice none 0 0, .int .i64 x102008_1, .int .u32 x102009_1]) ?_ 5 _ rfl; (with_reducible repeat (first | refine blk_drewN ?_ _ | refine blk_drew ?_ | refine blk_alloc ?_ _)); refine blk_put (cs := #[.int .i64 a0, .int .i64 2, .string x103002_1, .int .i64 x103003_1, .int .i64 x102004_1, .int .i64 x102005_1, .int .i64 x102006_1, .slice none 0 0, .int .i64 x102008_1, .int .u32 x102009_1]) ?_ 4 _ rfl; (with_reducible repeat (first | refine blk_drewN ?_ _ | refine blk_drew ?_ | refine blk_alloc ?_ _)); refine blk_put (cs := #[.int .i64 a0, .int .i64 2, .string x103002_1, .int .i64 x102003_1, .int .i64 x102004_1, .int .i64 x102005_1, .int .i64 x102006_1, .slice none 0 0, .int .i64 x102008_1, .int .u32 x102009_1]) ?_ 3 _ rfl; (with_reducible repeat (first | refine blk_drewN ?_ _ | refine blk_drew ?_ | refine blk_alloc ?_ _)); refine blk_put (cs := #[.int .i64 a0, .int .i64 2, .string x102002_1, .int .i64 x102003_1, .int .i64 x102004_1, .int .i64 x102005_1, .int .i64 x102006_1, .slice none 0 0, .int .i64 x102008_1, .int .u32 x102009_1]) ?_ 2 _ rfl; (with_reducible repeat (first | refine blk_drewN ?_ _ | refine blk_drew ?_ | refine blk_alloc ?_ _)); refine blk_put (cs := #[.int .i64 a0, .int .i64 x102001_1, .string x102002_1, .int .i64 x102003_1, .int .i64 x102004_1, .int .i64 x102005_1, .int .i64 x102006_1, .slice none 0 0, .int .i64 x102008_1, .int .u32 x102009_1]) ?_ 1 _ rfl; (with_reducible repeat (first | refine blk_drewN ?_ _ | refine blk_drew ?_ | refine blk_alloc ?_ _)); refine blk_put (cs := #[.int .i64 x102000_1, .int .i64 x102001_1, .string x102002_1, .int .i64 x102003_1, .int .i64 x102004_1, .int .i64 x102005_1, .int .i64 x102006_1, .slice none 0 0, .int .i64 x102008_1, .int .u32 x102009_1]) ?_ 0 _ rfl; (with_reducible repeat (first | refine blk_drewN ?_ _ | refine blk_drew ?_ | refine blk_alloc ?_ _)); refine blk_far ?_ NB101_102.out _; (with_reducible repeat (first | refine blk_drewN ?_ _ | refine blk_drew ?_ | refine blk_alloc ?_ _)); refine blk_far ?_ NB101_102.out _; (with_reducible repeat (first | refine blk_drewN ?_ _ | refine blk_drew ?_ | refine blk_alloc ?_ _)); refine blk_far ?_ NB101_102.out _; (with_reducible repeat (first | refine blk_drewN ?_ _ | refine blk_drew ?_ | refine blk_alloc ?_ _)); refine blk_far ?_ NB101_102.out _; (with_reducible repeat (first | refine blk_drewN ?_ _ | refine blk_drew ?_ | refine blk_alloc ?_ _)); refine blk_far ?_ NB101_102.out _; (with_reducible repeat (first | refine blk_drewN ?_ _ | refine blk_drew ?_ | refine blk_alloc ?_ _)); exact BK101.out) Tryd.underlying37 rfl (by kernel_rfl)) rfl ?_
        exact ⟨_, by first | rfl | (simp [errW_none, errW_some] <;> rfl) | (simp [*, errW_none, errW_some] <;> rfl), by (with_reducible repeat (first | apply Kd.R_alloc | apply Kd.R_drewN | apply Kd.R_drew)); exact Kd.R_mono (Kd.R_far (p := ⟨gb101, 9, none⟩) (Kd.R_far (p := ⟨gb101, 8, none⟩) (Kd.R_far (p := ⟨gb101, 7, none⟩) (Kd.R_far (p := ⟨gb101, 6, none⟩) (Kd.R_far (p := ⟨gb101, 5, none⟩) (Kd.R_far (p := ⟨gb101, 4, none⟩) (Kd.R_far (p := ⟨gb101, 3, none⟩) (Kd.R_far (p := ⟨gb101, 2, none⟩) (Kd.R_far (p := ⟨gb101, 1, none⟩) (Kd.R_far (p := ⟨gb101, 0, none⟩) (Kd.R_far (p := ⟨gb102, 0, none⟩) (Kd.R_far (p := ⟨gb102, 8, none⟩) (Kd.R_far (p := ⟨gb102, 7, none⟩) (Kd.R_far (p := ⟨gb102, 5, none⟩) (Kd.R_far (p := ⟨gb102, 1, none⟩) (Kd.R_types (Kd.R_types HO144.out BK102.out (by decide)) BK101.out (by decide)) (fun _ hk => hk.1.2) (.int .i64 2)) (fun _ hk => hk.1.2) (.int .i64 32)) (fun _ hk => hk.1.2) (.slice Ao48 t142.length co48)) (fun _ hk => hk.1.2) (.int .i64 (wrap64 ((-44) - a0)))) (fun _ hk => hk.1.2) (.int .i64 a0)) (fun _ hk => hk.2) (.int .i64 a0)) (fun _ hk => hk.2) (.int .i64 2)) (fun _ hk => hk.2) (.string x103002_1)) (fun _ hk => hk.2) (.int .i64 x103003_1)) (fun _ hk => hk.2) (.int .i64 x103004_1)) (fun _ hk => hk.2) (.int .i64 32)) (fun _ hk => hk.2) (.int .i64 x103006_1)) (fun _ hk => hk.2) (.slice Ao48 t142.length co48)) (fun _ hk => hk.2) (.int .i64 (wrap64 ((-44) - a0)))) (fun _ hk => hk.2) (.int .u32 x103009_1)) (fun _ hk => trivial), by repeat (first | (with_reducible first | exact HB.out | apply below_alloc | apply pw_below_drewN | apply below_drew1 | refine below_set ?_ GE101.out | refine below_set ?_ GE102.out) | exact HB.out)⟩
      · rw [if_neg c43] at H
        have c43b0 : (a0 == 4) = false := beq_eq_false_iff_ne.mpr c43
        have c43b1 : (a0 != 4) = true := bne_iff_ne.mpr c43
        by_cases c50 : a0 = 5
        · rw [if_pos c50] at H
          have c50b0 : (a0 == 5) = true := beq_iff_eq.mpr c50
          have c50b1 : (a0 != 5) = false := bne_eq_false_iff_eq.mpr c50
          clear c50
          replace H := Option.bind_eq_some_iff.mp H
          obtain ⟨t145, A510, H⟩ := H
          replace H : (some (a0, 2, x103002_1, x103003_1, x103004_1, 32, x103006_1, t145, wrap64 ((-44) - a0), x103009_1, true)) = some (r1, r2, r3, r4, r5, r6, r7, r8, r9, r10, r11) := H
          have A51 := Aside0.mk A510
          clear A510
          simp only [Option.some.injEq, Prod.mk.injEq] at H
          obtain ⟨rfl, rfl, rfl, rfl, rfl, rfl, rfl, rfl, rfl, rfl, rfl⟩ := H
          go_wp2_with (first | ((with_reducible refine gate_callee (f := 49) rfl ?_); refine goesL_ (some 51) rfl rfl Tryd.func49 (by kernel_rfl) rfl #[.int .i64 3, .int .i64 (wrap64 (a0 + 13))] rfl (by (try simp only [List.map_toArray, List.map_cons, List.map_nil]); first | done | rfl | (simp only [List.length_drop, List.length_take]; rfl)) ?_; (with_reducible refine (params_nist.calls 3 (wrap64 (a0 + 13)) t145 _ A51.out).mono ?_); rintro e w52 ⟨v146, rfl, ho0, hb⟩; refine ⟨_, rfl, ?_⟩; have n0_ := Aside0.mk (Kd.R_elder' (by (with_reducible repeat (first | apply Kd.R_alloc | apply Kd.R_drewN | apply Kd.R_drew)); exact HO_103007.out) (Kd.R_base ho0) hb); have n1_ := Aside0.mk (Kd.R_lower (Kd.R_new' ho0 (Kd.R_lt (by (with_reducible repeat (first | apply Kd.R_alloc | apply Kd.R_drewN | apply Kd.R_drew)); exact HO_103007.out))) (below_size (by repeat (first | (with_reducible first | exact HB.out | apply below_alloc | apply pw_below_drewN | apply below_drew1 | refine below_set ?_ GE101.out | refine below_set ?_ GE102.out) | exact HB.out)))); have n2_ := Aside0.mk (blk_below (g := gb101) (o := .cells #[.int .i64 x102000_1, .int .i64 x102001_1, .string x102002_1, .int .i64 x102003_1, .int .i64 x102004_1, .int .i64 x102005_1, .int .i64 x102006_1, .slice none 0 0, .int .i64 x102008_1, .int .u32 x102009_1] 37 (0, 0)) (by (with_reducible repeat (first | refine blk_drewN ?_ _ | refine blk_drew ?_ | refine blk_alloc ?_ _)); exact BK101.out) hb); have n3_ := Aside0.mk (blk_below (g := gb102) (o := .cells #[.int .i64 x103000_1, .int .i64 x103001_1, .string x103002_1, .int .i64 x103003_1, .int .i64 x103004_1, .int .i64 x103005_1, .int .i64 x103006_1, u103007, .int .i64 x103008_1, .int .u32 x103009_1] 37 (0, 0)) (by (with_reducible repeat (first | refine blk_drewN ?_ _ | refine blk_drew ?_ | refine blk_alloc ?_ _)); exact BK102.out) hb); have n4_ := Aside0.mk (below_step (by repeat (first | (with_reducible first | exact HB.out | apply below_alloc | apply pw_below_drewN | apply below_drew1 | refine below_set ?_ GE101.out | refine below_set ?_ GE102.out) | exact HB.out)) hb); clear HO_103007; clear BK101; clear BK102; clear HB; have HO_103007 := n0_; have HO147 := n1_; have BK101 := n2_; have BK102 := n3_; have HB := n4_; clear n0_ n1_ n2_ n3_ n4_; (try clear hb); (try clear hb2); (try clear hk); (try clear hi); (try clear ho0); have hnb53 := NB102_101.out; have hnc53 := NB101_102.out; have hcz54_0 : w52.cell? ⟨gb102, 0, none⟩ = some (.int .i64 x103000_1) := (blk_cell BK102.out 0).trans rfl; have hcz54_1 : w52.cell? ⟨gb102, 1, none⟩ = some (.int .i64 x103001_1) := (blk_cell BK102.out 1).trans rfl; have hcz54_2 : w52.cell? ⟨gb102, 2, none⟩ = some (.string x103002_1) := (blk_cell BK102.out 2).trans rfl; have hcz54_3 : w52.cell? ⟨gb102, 3, none⟩ = some (.int .i64 x103003_1) := (blk_cell BK102.out 3).trans rfl; have hcz54_4 : w52.cell? ⟨gb102, 4, none⟩ = some (.int .i64 x103004_1) := (blk_cell BK102.out 4).trans rfl; have hcz54_5 : w52.cell? ⟨gb102, 5, none⟩ = some (.int .i64 x103005_1) := (blk_cell BK102.out 5).trans rfl; have hcz54_6 : w52.cell? ⟨gb102, 6, none⟩ = some (.int .i64 x103006_1) := (blk_cell BK102.out 6).trans rfl; have hcz54_7 : w52.cell? ⟨gb102, 7, none⟩ = some (u103007) := (blk_cell BK102.out 7).trans rfl; have hcz54_8 : w52.cell? ⟨gb102, 8, none⟩ = some (.int .i64 x103008_1) := (blk_cell BK102.out 8).trans rfl; have hcz54_9 : w52.cell? ⟨gb102, 9, none⟩ = some (.int .u32 x103009_1) := (blk_cell BK102.out 9).trans rfl; have hfz54_0 := blk_frozen BK102.out 0; have hfz54_1 := blk_frozen BK102.out 1; have hfz54_2 := blk_frozen BK102.out 2; have hfz54_3 := blk_frozen BK102.out 3; have hfz54_4 := blk_frozen BK102.out 4; have hfz54_5 := blk_frozen BK102.out 5; have hfz54_6 := blk_frozen BK102.out 6; have hfz54_7 := blk_frozen BK102.out 7; have hfz54_8 := blk_frozen BK102.out 8; have hfz54_9 := blk_frozen BK102.out 9; obtain ⟨Ao55, co55, eo55⟩ := Kd.R_slice HO147.out; subst eo55; have hcz56_0 : w52.cell? ⟨gb101, 0, none⟩ = some (.int .i64 x102000_1) := (blk_cell BK101.out 0).trans rfl; have hcz56_1 : w52.cell? ⟨gb101, 1, none⟩ = some (.int .i64 x102001_1) := (blk_cell BK101.out 1).trans rfl; have hcz56_2 : w52.cell? ⟨gb101, 2, none⟩ = some (.string x102002_1) := (blk_cell BK101.out 2).trans rfl; have hcz56_3 : w52.cell? ⟨gb101, 3, none⟩ = some (.int .i64 x102003_1) := (blk_cell BK101.out 3).trans rfl; have hcz56_4 : w52.cell? ⟨gb101, 4, none⟩ = some (.int .i64 x102004_1) := (blk_cell BK101.out 4).trans rfl; have hcz56_5 : w52.cell? ⟨gb101, 5, none⟩ = some (.int .i64 x102005_1) := (blk_cell BK101.out 5).trans rfl; have hcz56_6 : w52.cell? ⟨gb101, 6, none⟩ = some (.int .i64 x102006_1) := (blk_cell BK101.out 6).trans rfl; have hcz56_7 : w52.cell? ⟨gb101, 7, none⟩ = some (.slice none 0 0) := (blk_cell BK101.out 7).trans rfl; have hcz56_8 : w52.cell? ⟨gb101, 8, none⟩ = some (.int .i64 x102008_1) := (blk_cell BK101.out 8).trans rfl; have hcz56_9 : w52.cell? ⟨gb101, 9, none⟩ = some (.int .u32 x102009_1) := (blk_cell BK101.out 9).trans rfl; have hfz56_0 := blk_frozen BK101.out 0; have hfz56_1 := blk_frozen BK101.out 1; have hfz56_2 := blk_frozen BK101.out 2; have hfz56_3 := blk_frozen BK101.out 3; have hfz56_4 := blk_frozen BK101.out 4; have hfz56_5 := blk_frozen BK101.out 5; have hfz56_6 := blk_frozen BK101.out 6; have hfz56_7 := blk_frozen BK101.out 7; have hfz56_8 := blk_frozen BK101.out 8; have hfz56_9 := blk_frozen BK101.out 9))
          refine bodyPost_ret (results_ct rfl _ _ gb101 37 #[.int .i64 a0, .int .i64 2, .string x103002_1, .int .i64 x103003_1, .int .i64 x103004_1, .int .i64 32, .int .i64 x103006_1, .slice Ao55 t145.length co55, .int .i64 (wrap64 ((-44) - a0)), .int .u32 x103009_1] (0, 0) _ rfl (by (with_reducible repeat (first | refine blk_drewN ?_ _ | refine blk_drew ?_ | refine blk_alloc ?_ _)); refine blk_put (cs := #[.int .i64 a0, .int .i64 2, .string x103002_1, .int .i64 x103003_1, .int .i64 x103004_1, .int .i64 32, .int .i64 x103006_1, .slice Ao55 t145.length co55, .int .i64 (wrap64 ((-44) - a0)), .int .u32 x102009_1]) ?_ 9 _ rfl; (with_reducible repeat (first | refine blk_drewN ?_ _ | refine blk_drew ?_ | refine blk_alloc ?_ _)); refine blk_put (cs := #[.int .i64 a0, .int .i64 2, .string x103002_1, .int .i64 x103003_1, .int .i64 x103004_1, .int .i64 32, .int .i64 x103006_1, .slice Ao55 t145.length co55, .int .i64 x102008_1, .int .u32 x102009_1]) ?_ 8 _ rfl; (with_reducible repeat (first | refine blk_drewN ?_ _ | refine blk_drew ?_ | refine blk_alloc ?_ _)); refine blk_put (cs := #[.int .i64 a0, .int .i64 2, .string x103002_1, .int .i64 x103003_1, .int .i64 x103004_1, .int .i64 32, .int .i64 x103006_1, .slice none 0 0, .int .i64 x102008_1, .int .u32 x102009_1]) ?_ 7 _ rfl; (with_reducible repeat (first | refine blk_drewN ?_ _ | refine blk_drew ?_ | refine blk_alloc ?_ _)); refine blk_put (cs := #[.int .i64 a0, .int .i64 2, .string x103002_1, .int .i64 x103003_1, .int .i64 x103004_1, .int .i64 32, .int .i64 x102006_1, .slice none 0 0, .int .i64 x102008_1, .int .u32 x102009_1]) ?_ 6 _ rfl; (with_reducible repeat (first | refine blk_drewN ?_ _ | refine blk_drew ?_ | refine blk_alloc ?_ _)); refine blk_put (cs := #[.int .i64 a0, .int .i64 2, .string x103002_1, .int .i64 x103003_1, .int .i64 x103004_1, .int .i64 x102005_1, .int .i64 x102006_1, .slice none 0 0, .int .i64 x102008_1, .int .u32 x102009_1]) ?_ 5 _ rfl; (with_reducible repeat (first | refine blk_drewN ?_ _ | refine blk_drew ?_ | refine blk_alloc ?_ _)); refine blk_put (cs := #[.int .i64 a0, .int .i64 2, .string x103002_1, .int .i64 x103003_1, .int .i64 x102004_1, .int .i64 x102005_1, .int .i64 x102006_1, .slice none 0 0, .int .i64 x102008_1, .int .u32 x102009_1]) ?_ 4 _ rfl; (with_reducible repeat (first | refine blk_drewN ?_ _ | refine blk_drew ?_ | refine blk_alloc ?_ _)); refine blk_put (cs := #[.int .i64 a0, .int .i64 2, .string x103002_1, .int .i64 x102003_1, .int .i64 x102004_1, .int .i64 x102005_1, .int .i64 x102006_1, .slice none 0 0, .int .i64 x102008_1, .int .u32 x102009_1]) ?_ 3 _ rfl; (with_reducible repeat (first | refine blk_drewN ?_ _ | refine blk_drew ?_ | refine blk_alloc ?_ _)); refine blk_put (cs := #[.int .i64 a0, .int .i64 2, .string x102002_1, .int .i64 x102003_1, .int .i64 x102004_1, .int .i64 x102005_1, .int .i64 x102006_1, .slice none 0 0, .int .i64 x102008_1, .int .u32 x102009_1]) ?_ 2 _ rfl; (with_reducible repeat (first | refine blk_drewN ?_ _ | refine blk_drew ?_ | refine blk_alloc ?_ _)); refine blk_put (cs := #[.int .i64 a0, .int .i64 x102001_1, .string x102002_1, .int .i64 x102003_1, .int .i64 x102004_1, .int .i64 x102005_1, .int .i64 x102006_1, .slice none 0 0, .int .i64 x102008_1, .int .u32 x102009_1]) ?_ 1 _ rfl; (with_reducible repeat (first | refine blk_drewN ?_ _ | refine blk_drew ?_ | refine blk_alloc ?_ _)); refine blk_put (cs := #[.int .i64 x102000_1, .int .i64 x102001_1, .string x102002_1, .int .i64 x102003_1, .int .i64 x102004_1, .int .i64 x102005_1, .int .i64 x102006_1, .slice none 0 0, .int .i64 x102008_1, .int .u32 x102009_1]) ?_ 0 _ rfl; (with_reducible repeat (first | refine blk_drewN ?_ _ | refine blk_drew ?_ | refine blk_alloc ?_ _)); refine blk_far ?_ NB101_102.out _; (with_reducible repeat (first | refine blk_drewN ?_ _ | refine blk_drew ?_ | refine blk_alloc ?_ _)); refine blk_far ?_ NB101_102.out _; (with_reducible repeat (first | refine blk_drewN ?_ _ | refine blk_drew ?_ | refine blk_alloc ?_ _)); refine blk_far ?_ NB101_102.out _; (with_reducible repeat (first | refine blk_drewN ?_ _ | refine blk_drew ?_ | refine blk_alloc ?_ _)); refine blk_far ?_ NB101_102.out _; (with_reducible repeat (first | refine blk_drewN ?_ _ | refine blk_drew ?_ | refine blk_alloc ?_ _)); refine blk_far ?_ NB101_102.out _; (with_reducible repeat (first | refine blk_drewN ?_ _ | refine blk_drew ?_ | refine blk_alloc ?_ _)); exact BK101.out) Tryd.underlying37 rfl (by kernel_rfl)) rfl ?_
          exact ⟨_, by first | rfl | (simp [errW_none, errW_some] <;> rfl) | (simp [*, errW_none, errW_some] <;> rfl), by (with_reducible repeat (first | apply Kd.R_alloc | apply Kd.R_drewN | apply Kd.R_drew)); exact Kd.R_mono (Kd.R_far (p := ⟨gb101, 9, none⟩) (Kd.R_far (p := ⟨gb101, 8, none⟩) (Kd.R_far (p := ⟨gb101, 7, none⟩) (Kd.R_far (p := ⟨gb101, 6, none⟩) (Kd.R_far (p := ⟨gb101, 5, none⟩) (Kd.R_far (p := ⟨gb101, 4, none⟩) (Kd.R_far (p := ⟨gb101, 3, none⟩) (Kd.R_far (p := ⟨gb101, 2, none⟩) (Kd.R_far (p := ⟨gb101, 1, none⟩) (Kd.R_far (p := ⟨gb101, 0, none⟩) (Kd.R_far (p := ⟨gb102, 0, none⟩) (Kd.R_far (p := ⟨gb102, 8, none⟩) (Kd.R_far (p := ⟨gb102, 7, none⟩) (Kd.R_far (p := ⟨gb102, 5, none⟩) (Kd.R_far (p := ⟨gb102, 1, none⟩) (Kd.R_types (Kd.R_types HO147.out BK102.out (by decide)) BK101.out (by decide)) (fun _ hk => hk.1.2) (.int .i64 2)) (fun _ hk => hk.1.2) (.int .i64 32)) (fun _ hk => hk.1.2) (.slice Ao55 t145.length co55)) (fun _ hk => hk.1.2) (.int .i64 (wrap64 ((-44) - a0)))) (fun _ hk => hk.1.2) (.int .i64 a0)) (fun _ hk => hk.2) (.int .i64 a0)) (fun _ hk => hk.2) (.int .i64 2)) (fun _ hk => hk.2) (.string x103002_1)) (fun _ hk => hk.2) (.int .i64 x103003_1)) (fun _ hk => hk.2) (.int .i64 x103004_1)) (fun _ hk => hk.2) (.int .i64 32)) (fun _ hk => hk.2) (.int .i64 x103006_1)) (fun _ hk => hk.2) (.slice Ao55 t145.length co55)) (fun _ hk => hk.2) (.int .i64 (wrap64 ((-44) - a0)))) (fun _ hk => hk.2) (.int .u32 x103009_1)) (fun _ hk => trivial), by repeat (first | (with_reducible first | exact HB.out | apply below_alloc | apply pw_below_drewN | apply below_drew1 | refine below_set ?_ GE101.out | refine below_set ?_ GE102.out) | exact HB.out)⟩
        · rw [if_neg c50] at H
          have c50b0 : (a0 == 5) = false := beq_eq_false_iff_ne.mpr c50
          have c50b1 : (a0 != 5) = true := bne_iff_ne.mpr c50
          by_cases c57 : a0 = 6
          · rw [if_pos c57] at H
            have c57b0 : (a0 == 6) = true := beq_iff_eq.mpr c57
            have c57b1 : (a0 != 6) = false := bne_eq_false_iff_eq.mpr c57
            clear c57
            replace H := Option.bind_eq_some_iff.mp H
            obtain ⟨t148, A580, H⟩ := H
            replace H : (some (a0, 2, x103002_1, x103003_1, x103004_1, 32, x103006_1, t148, wrap64 ((-44) - a0), x103009_1, true)) = some (r1, r2, r3, r4, r5, r6, r7, r8, r9, r10, r11) := H
            have A58 := Aside0.mk A580
            clear A580
            simp only [Option.some.injEq, Prod.mk.injEq] at H
            obtain ⟨rfl, rfl, rfl, rfl, rfl, rfl, rfl, rfl, rfl, rfl, rfl⟩ := H
            go_wp2_with (first | ((with_reducible refine gate_callee (f := 49) rfl ?_); refine goesL_ (some 51) rfl rfl Tryd.func49 (by kernel_rfl) rfl #[.int .i64 3, .int .i64 (wrap64 (a0 + 13))] rfl (by (try simp only [List.map_toArray, List.map_cons, List.map_nil]); first | done | rfl | (simp only [List.length_drop, List.length_take]; rfl)) ?_; (with_reducible refine (params_nist.calls 3 (wrap64 (a0 + 13)) t148 _ A58.out).mono ?_); rintro e w59 ⟨v149, rfl, ho0, hb⟩; refine ⟨_, rfl, ?_⟩; have n0_ := Aside0.mk (Kd.R_elder' (by (with_reducible repeat (first | apply Kd.R_alloc | apply Kd.R_drewN | apply Kd.R_drew)); exact HO_103007.out) (Kd.R_base ho0) hb); have n1_ := Aside0.mk (Kd.R_lower (Kd.R_new' ho0 (Kd.R_lt (by (with_reducible repeat (first | apply Kd.R_alloc | apply Kd.R_drewN | apply Kd.R_drew)); exact HO_103007.out))) (below_size (by repeat (first | (with_reducible first | exact HB.out | apply below_alloc | apply pw_below_drewN | apply below_drew1 | refine below_set ?_ GE101.out | refine below_set ?_ GE102.out) | exact HB.out)))); have n2_ := Aside0.mk (blk_below (g := gb101) (o := .cells #[.int .i64 x102000_1, .int .i64 x102001_1, .string x102002_1, .int .i64 x102003_1, .int .i64 x102004_1, .int .i64 x102005_1, .int .i64 x102006_1, .slice none 0 0, .int .i64 x102008_1, .int .u32 x102009_1] 37 (0, 0)) (by (with_reducible repeat (first | refine blk_drewN ?_ _ | refine blk_drew ?_ | refine blk_alloc ?_ _)); exact BK101.out) hb); have n3_ := Aside0.mk (blk_below (g := gb102) (o := .cells #[.int .i64 x103000_1, .int .i64 x103001_1, .string x103002_1, .int .i64 x103003_1, .int .i64 x103004_1, .int .i64 x103005_1, .int .i64 x103006_1, u103007, .int .i64 x103008_1, .int .u32 x103009_1] 37 (0, 0)) (by (with_reducible repeat (first | refine blk_drewN ?_ _ | refine blk_drew ?_ | refine blk_alloc ?_ _)); exact BK102.out) hb); have n4_ := Aside0.mk (below_step (by repeat (first | (with_reducible first | exact HB.out | apply below_alloc | apply pw_below_drewN | apply below_drew1 | refine below_set ?_ GE101.out | refine below_set ?_ GE102.out) | exact HB.out)) hb); clear HO_103007; clear BK101; clear BK102; clear HB; have HO_103007 := n0_; have HO150 := n1_; have BK101 := n2_; have BK102 := n3_; have HB := n4_; clear n0_ n1_ n2_ n3_ n4_; (try clear hb); (try clear hb2); (try clear hk); (try clear hi); (try clear ho0); have hnb60 := NB102_101.out; have hnc60 := NB101_102.out; have hcz61_0 : w59.cell? ⟨gb102, 0, none⟩ = some (.int .i64 x103000_1) := (blk_cell BK102.out 0).trans rfl; have hcz61_1 : w59.cell? ⟨gb102, 1, none⟩ = some (.int .i64 x103001_1) := (blk_cell BK102.out 1).trans rfl; have hcz61_2 : w59.cell? ⟨gb102, 2, none⟩ = some (.string x103002_1) := (blk_cell BK102.out 2).trans rfl; have hcz61_3 : w59.cell? ⟨gb102, 3, none⟩ = some (.int .i64 x103003_1) := (blk_cell BK102.out 3).trans rfl; have hcz61_4 : w59.cell? ⟨gb102, 4, none⟩ = some (.int .i64 x103004_1) := (blk_cell BK102.out 4).trans rfl; have hcz61_5 : w59.cell? ⟨gb102, 5, none⟩ = some (.int .i64 x103005_1) := (blk_cell BK102.out 5).trans rfl; have hcz61_6 : w59.cell? ⟨gb102, 6, none⟩ = some (.int .i64 x103006_1) := (blk_cell BK102.out 6).trans rfl; have hcz61_7 : w59.cell? ⟨gb102, 7, none⟩ = some (u103007) := (blk_cell BK102.out 7).trans rfl; have hcz61_8 : w59.cell? ⟨gb102, 8, none⟩ = some (.int .i64 x103008_1) := (blk_cell BK102.out 8).trans rfl; have hcz61_9 : w59.cell? ⟨gb102, 9, none⟩ = some (.int .u32 x103009_1) := (blk_cell BK102.out 9).trans rfl; have hfz61_0 := blk_frozen BK102.out 0; have hfz61_1 := blk_frozen BK102.out 1; have hfz61_2 := blk_frozen BK102.out 2; have hfz61_3 := blk_frozen BK102.out 3; have hfz61_4 := blk_frozen BK102.out 4; have hfz61_5 := blk_frozen BK102.out 5; have hfz61_6 := blk_frozen BK102.out 6; have hfz61_7 := blk_frozen BK102.out 7; have hfz61_8 := blk_frozen BK102.out 8; have hfz61_9 := blk_frozen BK102.out 9; obtain ⟨Ao62, co62, eo62⟩ := Kd.R_slice HO150.out; subst eo62; have hcz63_0 : w59.cell? ⟨gb101, 0, none⟩ = some (.int .i64 x102000_1) := (blk_cell BK101.out 0).trans rfl; have hcz63_1 : w59.cell? ⟨gb101, 1, none⟩ = some (.int .i64 x102001_1) := (blk_cell BK101.out 1).trans rfl; have hcz63_2 : w59.cell? ⟨gb101, 2, none⟩ = some (.string x102002_1) := (blk_cell BK101.out 2).trans rfl; have hcz63_3 : w59.cell? ⟨gb101, 3, none⟩ = some (.int .i64 x102003_1) := (blk_cell BK101.out 3).trans rfl; have hcz63_4 : w59.cell? ⟨gb101, 4, none⟩ = some (.int .i64 x102004_1) := (blk_cell BK101.out 4).trans rfl; have hcz63_5 : w59.cell? ⟨gb101, 5, none⟩ = some (.int .i64 x102005_1) := (blk_cell BK101.out 5).trans rfl; have hcz63_6 : w59.cell? ⟨gb101, 6, none⟩ = some (.int .i64 x102006_1) := (blk_cell BK101.out 6).trans rfl; have hcz63_7 : w59.cell? ⟨gb101, 7, none⟩ = some (.slice none 0 0) := (blk_cell BK101.out 7).trans rfl; have hcz63_8 : w59.cell? ⟨gb101, 8, none⟩ = some (.int .i64 x102008_1) := (blk_cell BK101.out 8).trans rfl; have hcz63_9 : w59.cell? ⟨gb101, 9, none⟩ = some (.int .u32 x102009_1) := (blk_cell BK101.out 9).trans rfl; have hfz63_0 := blk_frozen BK101.out 0; have hfz63_1 := blk_frozen BK101.out 1; have hfz63_2 := blk_frozen BK101.out 2; have hfz63_3 := blk_frozen BK101.out 3; have hfz63_4 := blk_frozen BK101.out 4; have hfz63_5 := blk_frozen BK101.out 5; have hfz63_6 := blk_frozen BK101.out 6; have hfz63_7 := blk_frozen BK101.out 7; have hfz63_8 := blk_frozen BK101.out 8; have hfz63_9 := blk_frozen BK101.out 9))
            refine bodyPost_ret (results_ct rfl _ _ gb101 37 #[.int .i64 a0, .int .i64 2, .string x103002_1, .int .i64 x103003_1, .int .i64 x103004_1, .int .i64 32, .int .i64 x103006_1, .slice Ao62 t148.length co62, .int .i64 (wrap64 ((-44) - a0)), .int .u32 x103009_1] (0, 0) _ rfl (by (with_reducible repeat (first | refine blk_drewN ?_ _ | refine blk_drew ?_ | refine blk_alloc ?_ _)); refine blk_put (cs := #[.int .i64 a0, .int .i64 2, .string x103002_1, .int .i64 x103003_1, .int .i64 x103004_1, .int .i64 32, .int .i64 x103006_1, .slice Ao62 t148.length co62, .int .i64 (wrap64 ((-44) - a0)), .int .u32 x102009_1]) ?_ 9 _ rfl; (with_reducible repeat (first | refine blk_drewN ?_ _ | refine blk_drew ?_ | refine blk_alloc ?_ _)); refine blk_put (cs := #[.int .i64 a0, .int .i64 2, .string x103002_1, .int .i64 x103003_1, .int .i64 x103004_1, .int .i64 32, .int .i64 x103006_1, .slice Ao62 t148.length co62, .int .i64 x102008_1, .int .u32 x102009_1]) ?_ 8 _ rfl; (with_reducible repeat (first | refine blk_drewN ?_ _ | refine blk_drew ?_ | refine blk_alloc ?_ _)); refine blk_put (cs := #[.int .i64 a0, .int .i64 2, .string x103002_1, .int .i64 x103003_1, .int .i64 x103004_1, .int .i64 32, .int .i64 x103006_1, .slice none 0 0, .int .i64 x102008_1, .int .u32 x102009_1]) ?_ 7 _ rfl; (with_reducible repeat (first | refine blk_drewN ?_ _ | refine blk_drew ?_ | refine blk_alloc ?_ _)); refine blk_put (cs := #[.int .i64 a0, .int .i64 2, .string x103002_1, .int .i64 x103003_1, .int .i64 x103004_1, .int .i64 32, .int .i64 x102006_1, .slice none 0 0, .int .i64 x102008_1, .int .u32 x102009_1]) ?_ 6 _ rfl; (with_reducible repeat (first | refine blk_drewN ?_ _ | refine blk_drew ?_ | refine blk_alloc ?_ _)); refine blk_put (cs := #[.int .i64 a0, .int .i64 2, .string x103002_1, .int .i64 x103003_1, .int .i64 x103004_1, .int .i64 x102005_1, .int .i64 x102006_1, .slice none 0 0, .int .i64 x102008_1, .int .u32 x102009_1]) ?_ 5 _ rfl; (with_reducible repeat (first | refine blk_drewN ?_ _ | refine blk_drew ?_ | refine blk_alloc ?_ _)); refine blk_put (cs := #[.int .i64 a0, .int .i64 2, .string x103002_1, .int .i64 x103003_1, .int .i64 x102004_1, .int .i64 x102005_1, .int .i64 x102006_1, .slice none 0 0, .int .i64 x102008_1, .int .u32 x102009_1]) ?_ 4 _ rfl; (with_reducible repeat (first | refine blk_drewN ?_ _ | refine blk_drew ?_ | refine blk_alloc ?_ _)); refine blk_put (cs := #[.int .i64 a0, .int .i64 2, .string x103002_1, .int .i64 x102003_1, .int .i64 x102004_1, .int .i64 x102005_1, .int .i64 x102006_1, .slice none 0 0, .int .i64 x102008_1, .int .u32 x102009_1]) ?_ 3 _ rfl; (with_reducible repeat (first | refine blk_drewN ?_ _ | refine blk_drew ?_ | refine blk_alloc ?_ _)); refine blk_put (cs := #[.int .i64 a0, .int .i64 2, .string x102002_1, .int .i64 x102003_1, .int .i64 x102004_1, .int .i64 x102005_1, .int .i64 x102006_1, .slice none 0 0, .int .i64 x102008_1, .int .u32 x102009_1]) ?_ 2 _ rfl; (with_reducible repeat (first | refine blk_drewN ?_ _ | refine blk_drew ?_ | refine blk_alloc ?_ _)); refine blk_put (cs := #[.int .i64 a0, .int .i64 x102001_1, .string x102002_1, .int .i64 x102003_1, .int .i64 x102004_1, .int .i64 x102005_1, .int .i64 x102006_1, .slice none 0 0, .int .i64 x102008_1, .int .u32 x102009_1]) ?_ 1 _ rfl; (with_reducible repeat (first | refine blk_drewN ?_ _ | refine blk_drew ?_ | refine blk_alloc ?_ _)); refine blk_put (cs := #[.int .i64 x102000_1, .int .i64 x102001_1, .string x102002_1, .int .i64 x102003_1, .int .i64 x102004_1, .int .i64 x102005_1, .int .i64 x102006_1, .slice none 0 0, .int .i64 x102008_1, .int .u32 x102009_1]) ?_ 0 _ rfl; (with_reducible repeat (first | refine blk_drewN ?_ _ | refine blk_drew ?_ | refine blk_alloc ?_ _)); refine blk_far ?_ NB101_102.out _; (with_reducible repeat (first | refine blk_drewN ?_ _ | refine blk_drew ?_ | refine blk_alloc ?_ _)); refine blk_far ?_ NB101_102.out _; (with_reducible repeat (first | refine blk_drewN ?_ _ | refine blk_drew ?_ | refine blk_alloc ?_ _)); refine blk_far ?_ NB101_102.out _; (with_reducible repeat (first | refine blk_drewN ?_ _ | refine blk_drew ?_ | refine blk_alloc ?_ _)); refine blk_far ?_ NB101_102.out _; (with_reducible repeat (first | refine blk_drewN ?_ _ | refine blk_drew ?_ | refine blk_alloc ?_ _)); refine blk_far ?_ NB101_102.out _; (with_reducible repeat (first | refine blk_drewN ?_ _ | refine blk_drew ?_ | refine blk_alloc ?_ _)); exact BK101.out) Tryd.underlying37 rfl (by kernel_rfl)) rfl ?_
            exact ⟨_, by first | rfl | (simp [errW_none, errW_some] <;> rfl) | (simp [*, errW_none, errW_some] <;> rfl), by (with_reducible repeat (first | apply Kd.R_alloc | apply Kd.R_drewN | apply Kd.R_drew)); exact Kd.R_mono (Kd.R_far (p := ⟨gb101, 9, none⟩) (Kd.R_far (p := ⟨gb101, 8, none⟩) (Kd.R_far (p := ⟨gb101, 7, none⟩) (Kd.R_far (p := ⟨gb101, 6, none⟩) (Kd.R_far (p := ⟨gb101, 5, none⟩) (Kd.R_far (p := ⟨gb101, 4, none⟩) (Kd.R_far (p := ⟨gb101, 3, none⟩) (Kd.R_far (p := ⟨gb101, 2, none⟩) (Kd.R_far (p := ⟨gb101, 1, none⟩) (Kd.R_far (p := ⟨gb101, 0, none⟩) (Kd.R_far (p := ⟨gb102, 0, none⟩) (Kd.R_far (p := ⟨gb102, 8, none⟩) (Kd.R_far (p := ⟨gb102, 7, none⟩) (Kd.R_far (p := ⟨gb102, 5, none⟩) (Kd.R_far (p := ⟨gb102, 1, none⟩) (Kd.R_types (Kd.R_types HO150.out BK102.out (by decide)) BK101.out (by decide)) (fun _ hk => hk.1.2) (.int .i64 2)) (fun _ hk => hk.1.2) (.int .i64 32)) (fun _ hk => hk.1.2) (.slice Ao62 t148.length co62)) (fun _ hk => hk.1.2) (.int .i64 (wrap64 ((-44) - a0)))) (fun _ hk => hk.1.2) (.int .i64 a0)) (fun _ hk => hk.2) (.int .i64 a0)) (fun _ hk => hk.2) (.int .i64 2)) (fun _ hk => hk.2) (.string x103002_1)) (fun _ hk => hk.2) (.int .i64 x103003_1)) (fun _ hk => hk.2) (.int .i64 x103004_1)) (fun _ hk => hk.2) (.int .i64 32)) (fun _ hk => hk.2) (.int .i64 x103006_1)) (fun _ hk => hk.2) (.slice Ao62 t148.length co62)) (fun _ hk => hk.2) (.int .i64 (wrap64 ((-44) - a0)))) (fun _ hk => hk.2) (.int .u32 x103009_1)) (fun _ hk => trivial), by repeat (first | (with_reducible first | exact HB.out | apply below_alloc | apply pw_below_drewN | apply below_drew1 | refine below_set ?_ GE101.out | refine below_set ?_ GE102.out) | exact HB.out)⟩
          · rw [if_neg c57] at H
            have c57b0 : (a0 == 6) = false := beq_eq_false_iff_ne.mpr c57
            have c57b1 : (a0 != 6) = true := bne_iff_ne.mpr c57
            simp only [Option.some.injEq, Prod.mk.injEq] at H
            obtain ⟨rfl, rfl, rfl, rfl, rfl, rfl, rfl, rfl, rfl, rfl, rfl⟩ := H
            have hnb64 := NB102_101.out
            have hnc64 := NB101_102.out
            have hcz65_0 : wc.cell? ⟨gb102, 0, none⟩ = some (.int .i64 x103000_1) := (blk_cell BK102.out 0).trans rfl
            have hcz65_1 : wc.cell? ⟨gb102, 1, none⟩ = some (.int .i64 x103001_1) := (blk_cell BK102.out 1).trans rfl
            have hcz65_2 : wc.cell? ⟨gb102, 2, none⟩ = some (.string x103002_1) := (blk_cell BK102.out 2).trans rfl
            have hcz65_3 : wc.cell? ⟨gb102, 3, none⟩ = some (.int .i64 x103003_1) := (blk_cell BK102.out 3).trans rfl
            have hcz65_4 : wc.cell? ⟨gb102, 4, none⟩ = some (.int .i64 x103004_1) := (blk_cell BK102.out 4).trans rfl
            have hcz65_5 : wc.cell? ⟨gb102, 5, none⟩ = some (.int .i64 x103005_1) := (blk_cell BK102.out 5).trans rfl
            have hcz65_6 : wc.cell? ⟨gb102, 6, none⟩ = some (.int .i64 x103006_1) := (blk_cell BK102.out 6).trans rfl
            have hcz65_7 : wc.cell? ⟨gb102, 7, none⟩ = some (u103007) := (blk_cell BK102.out 7).trans rfl
            have hcz65_8 : wc.cell? ⟨gb102, 8, none⟩ = some (.int .i64 x103008_1) := (blk_cell BK102.out 8).trans rfl
            have hcz65_9 : wc.cell? ⟨gb102, 9, none⟩ = some (.int .u32 x103009_1) := (blk_cell BK102.out 9).trans rfl
            have hfz65_0 := blk_frozen BK102.out 0
            have hfz65_1 := blk_frozen BK102.out 1
            have hfz65_2 := blk_frozen BK102.out 2
            have hfz65_3 := blk_frozen BK102.out 3
            have hfz65_4 := blk_frozen BK102.out 4
            have hfz65_5 := blk_frozen BK102.out 5
            have hfz65_6 := blk_frozen BK102.out 6
            have hfz65_7 := blk_frozen BK102.out 7
            have hfz65_8 := blk_frozen BK102.out 8
            have hfz65_9 := blk_frozen BK102.out 9
            have hcz66_0 : wc.cell? ⟨gb101, 0, none⟩ = some (.int .i64 x102000_1) := (blk_cell BK101.out 0).trans rfl
            have hcz66_1 : wc.cell? ⟨gb101, 1, none⟩ = some (.int .i64 x102001_1) := (blk_cell BK101.out 1).trans rfl
            have hcz66_2 : wc.cell? ⟨gb101, 2, none⟩ = some (.string x102002_1) := (blk_cell BK101.out 2).trans rfl
            have hcz66_3 : wc.cell? ⟨gb101, 3, none⟩ = some (.int .i64 x102003_1) := (blk_cell BK101.out 3).trans rfl
            have hcz66_4 : wc.cell? ⟨gb101, 4, none⟩ = some (.int .i64 x102004_1) := (blk_cell BK101.out 4).trans rfl
            have hcz66_5 : wc.cell? ⟨gb101, 5, none⟩ = some (.int .i64 x102005_1) := (blk_cell BK101.out 5).trans rfl
            have hcz66_6 : wc.cell? ⟨gb101, 6, none⟩ = some (.int .i64 x102006_1) := (blk_cell BK101.out 6).trans rfl
            have hcz66_7 : wc.cell? ⟨gb101, 7, none⟩ = some (.slice none 0 0) := (blk_cell BK101.out 7).trans rfl
            have hcz66_8 : wc.cell? ⟨gb101, 8, none⟩ = some (.int .i64 x102008_1) := (blk_cell BK101.out 8).trans rfl
            have hcz66_9 : wc.cell? ⟨gb101, 9, none⟩ = some (.int .u32 x102009_1) := (blk_cell BK101.out 9).trans rfl
            have hfz66_0 := blk_frozen BK101.out 0
            have hfz66_1 := blk_frozen BK101.out 1
            have hfz66_2 := blk_frozen BK101.out 2
            have hfz66_3 := blk_frozen BK101.out 3
            have hfz66_4 := blk_frozen BK101.out 4
            have hfz66_5 := blk_frozen BK101.out 5
            have hfz66_6 := blk_frozen BK101.out 6
            have hfz66_7 := blk_frozen BK101.out 7
            have hfz66_8 := blk_frozen BK101.out 8
            have hfz66_9 := blk_frozen BK101.out 9
            obtain ⟨Ao67, co67, eo67⟩ := Kd.R_slice HO_103007.out
            subst eo67
            go_wp2
            refine bodyPost_ret (results_ct rfl _ _ gb101 37 #[.int .i64 a0, .int .i64 x103001_1, .string x103002_1, .int .i64 x103003_1, .int .i64 x103004_1, .int .i64 x103005_1, .int .i64 x103006_1, .slice Ao67 x103007_1.length co67, .int .i64 x103008_1, .int .u32 x103009_1] (0, 0) _ rfl (by (with_reducible repeat (first | refine blk_drewN ?_ _ | refine blk_drew ?_ | refine blk_alloc ?_ _)); refine blk_put (cs := #[.int .i64 a0, .int .i64 x103001_1, .string x103002_1, .int .i64 x103003_1, .int .i64 x103004_1, .int .i64 x103005_1, .int .i64 x103006_1, .slice Ao67 x103007_1.length co67, .int .i64 x103008_1, .int .u32 x102009_1]) ?_ 9 _ rfl; (with_reducible repeat (first | refine blk_drewN ?_ _ | refine blk_drew ?_ | refine blk_alloc ?_ _)); refine blk_put (cs := #[.int .i64 a0, .int .i64 x103001_1, .string x103002_1, .int .i64 x103003_1, .int .i64 x103004_1, .int .i64 x103005_1, .int .i64 x103006_1, .slice Ao67 x103007_1.length co67, .int .i64 x102008_1, .int .u32 x102009_1]) ?_ 8 _ rfl; (with_reducible repeat (first | refine blk_drewN ?_ _ | refine blk_drew ?_ | refine blk_alloc ?_ _)); refine blk_put (cs := #[.int .i64 a0, .int .i64 x103001_1, .string x103002_1, .int .i64 x103003_1, .int .i64 x103004_1, .int .i64 x103005_1, .int .i64 x103006_1, .slice none 0 0, .int .i64 x102008_1, .int .u32 x102009_1]) ?_ 7 _ rfl; (with_reducible repeat (first | refine blk_drewN ?_ _ | refine blk_drew ?_ | refine blk_alloc ?_ _)); refine blk_put (cs := #[.int .i64 a0, .int .i64 x103001_1, .string x103002_1, .int .i64 x103003_1, .int .i64 x103004_1, .int .i64 x103005_1, .int .i64 x102006_1, .slice none 0 0, .int .i64 x102008_1, .int .u32 x102009_1]) ?_ 6 _ rfl; (with_reducible repeat (first | refine blk_drewN ?_ _ | refine blk_drew ?_ | refine blk_alloc ?_ _)); refine blk_put (cs := #[.int .i64 a0, .int .i64 x103001_1, .string x103002_1, .int .i64 x103003_1, .int .i64 x103004_1, .int .i64 x102005_1, .int .i64 x102006_1, .slice none 0 0, .int .i64 x102008_1, .int .u32 x102009_1]) ?_ 5 _ rfl; (with_reducible repeat (first | refine blk_drewN ?_ _ | refine blk_drew ?_ | refine blk_alloc ?_ _)); refine blk_put (cs := #[.int .i64 a0, .int .i64 x103001_1, .string x103002_1, .int .i64 x103003_1, .int .i64 x102004_1, .int .i64 x102005_1, .int .i64 x102006_1, .slice none 0 0, .int .i64 x102008_1, .int .u32 x102009_1]) ?_ 4 _ rfl; (with_reducible repeat (first | refine blk_drewN ?_ _ | refine blk_drew ?_ | refine blk_alloc ?_ _)); refine blk_put (cs := #[.int .i64 a0, .int .i64 x103001_1, .string x103002_1, .int .i64 x102003_1, .int .i64 x102004_1, .int .i64 x102005_1, .int .i64 x102006_1, .slice none 0 0, .int .i64 x102008_1, .int .u32 x102009_1]) ?_ 3 _ rfl; (with_reducible repeat (first | refine blk_drewN ?_ _ | refine blk_drew ?_ | refine blk_alloc ?_ _)); refine blk_put (cs := #[.int .i64 a0, .int .i64 x103001_1, .string x102002_1, .int .i64 x102003_1, .int .i64 x102004_1, .int .i64 x102005_1, .int .i64 x102006_1, .slice none 0 0, .int .i64 x102008_1, .int .u32 x102009_1]) ?_ 2 _ rfl; (with_reducible repeat (first | refine blk_drewN ?_ _ | refine blk_drew ?_ | refine blk_alloc ?_ _)); refine blk_put (cs := #[.int .i64 a0, .int .i64 x102001_1, .string x102002_1, .int .i64 x102003_1, .int .i64 x102004_1, .int .i64 x102005_1, .int .i64 x102006_1, .slice none 0 0, .int .i64 x102008_1, .int .u32 x102009_1]) ?_ 1 _ rfl; (with_reducible repeat (first | refine blk_drewN ?_ _ | refine blk_drew ?_ | refine blk_alloc ?_ _)); refine blk_put (cs := #[.int .i64 x102000_1, .int .i64 x102001_1, .string x102002_1, .int .i64 x102003_1, .int .i64 x102004_1, .int .i64 x102005_1, .int .i64 x102006_1, .slice none 0 0, .int .i64 x102008_1, .int .u32 x102009_1]) ?_ 0 _ rfl; (with_reducible repeat (first | refine blk_drewN ?_ _ | refine blk_drew ?_ | refine blk_alloc ?_ _)); refine blk_far ?_ NB101_102.out _; (with_reducible repeat (first | refine blk_drewN ?_ _ | refine blk_drew ?_ | refine blk_alloc ?_ _)); exact BK101.out) Tryd.underlying37 rfl (by kernel_rfl)) rfl ?_
            exact ⟨_, by first | rfl | (simp [errW_none, errW_some] <;> rfl) | (simp [*, errW_none, errW_some] <;> rfl), by (with_reducible repeat (first | apply Kd.R_alloc | apply Kd.R_drewN | apply Kd.R_drew)); exact Kd.R_mono (Kd.R_far (p := ⟨gb101, 9, none⟩) (Kd.R_far (p := ⟨gb101, 8, none⟩) (Kd.R_far (p := ⟨gb101, 7, none⟩) (Kd.R_far (p := ⟨gb101, 6, none⟩) (Kd.R_far (p := ⟨gb101, 5, none⟩) (Kd.R_far (p := ⟨gb101, 4, none⟩) (Kd.R_far (p := ⟨gb101, 3, none⟩) (Kd.R_far (p := ⟨gb101, 2, none⟩) (Kd.R_far (p := ⟨gb101, 1, none⟩) (Kd.R_far (p := ⟨gb101, 0, none⟩) (Kd.R_far (p := ⟨gb102, 0, none⟩) (Kd.R_types (Kd.R_types HO_103007.out BK102.out (by decide)) BK101.out (by decide)) (fun _ hk => hk.1.2) (.int .i64 a0)) (fun _ hk => hk.2) (.int .i64 a0)) (fun _ hk => hk.2) (.int .i64 x103001_1)) (fun _ hk => hk.2) (.string x103002_1)) (fun _ hk => hk.2) (.int .i64 x103003_1)) (fun _ hk => hk.2) (.int .i64 x103004_1)) (fun _ hk => hk.2) (.int .i64 x103005_1)) (fun _ hk => hk.2) (.int .i64 x103006_1)) (fun _ hk => hk.2) (.slice Ao67 x103007_1.length co67)) (fun _ hk => hk.2) (.int .i64 x103008_1)) (fun _ hk => hk.2) (.int .u32 x103009_1)) (fun _ hk => trivial), by repeat (first | (with_reducible first | exact HB.out | apply below_alloc | apply pw_below_drewN | apply below_drew1 | refine below_set ?_ GE101.out | refine below_set ?_ GE102.out) | exact HB.out)⟩

end Go.Proofs.YtjoncjnmhhimhaaDoor.PParG
end

section
/- params.Get: the row of each algorithm; no row for another number. The table is printed by wip/tools/genrows.py. -/
namespace Go.Proofs.YtjoncjnmhhimhaaDoor.Hand
set_option linter.unusedVariables false
set_option linter.unusedSimpArgs false
open Go.RowKit Go.Proofs.YtjoncjnmhhimhaaDoorW.PrintWords Go.Proofs.YtjoncjnmhhimhaaDoorW.PrintLast Go.Proofs.YtjoncjnmhhimhaaDoorW.PrintMore

def parTab : List (Int × Int × ByteArray × Int × Int × Int × Int × List Int × Int × Int × Bool) := [
  (1, 1, ⟨#[77, 76, 45, 75, 69, 77, 45, 53, 49, 50]⟩, 800, 1632, 64, 0, [2, 16, 840, 1, 101, 3, 4, 4, 1], -111, 0, true),
  (2, 1, ⟨#[77, 76, 45, 75, 69, 77, 45, 55, 54, 56]⟩, 1184, 2400, 64, 0, [2, 16, 840, 1, 101, 3, 4, 4, 2], -112, 0, true),
  (3, 1, ⟨#[77, 76, 45, 75, 69, 77, 45, 49, 48, 50, 52]⟩, 1568, 3168, 64, 0, [2, 16, 840, 1, 101, 3, 4, 4, 3], -113, 0, true),
  (4, 2, ⟨#[77, 76, 45, 68, 83, 65, 45, 52, 52]⟩, 1312, 2560, 32, 2420, [2, 16, 840, 1, 101, 3, 4, 3, 17], -48, 0, true),
  (5, 2, ⟨#[77, 76, 45, 68, 83, 65, 45, 54, 53]⟩, 1952, 4032, 32, 3309, [2, 16, 840, 1, 101, 3, 4, 3, 18], -49, 0, true),
  (6, 2, ⟨#[77, 76, 45, 68, 83, 65, 45, 56, 55]⟩, 2592, 4896, 32, 4627, [2, 16, 840, 1, 101, 3, 4, 3, 19], -50, 0, true),
  (7, 3, ⟨#[83, 76, 72, 45, 68, 83, 65, 45, 83, 72, 65, 50, 45, 49, 50, 56, 115]⟩, 32, 64, 0, 7856, [2, 16, 840, 1, 101, 3, 4, 3, 20], -51, 0, true),
  (8, 3, ⟨#[83, 76, 72, 45, 68, 83, 65, 45, 83, 72, 65, 50, 45, 49, 50, 56, 102]⟩, 32, 64, 0, 17088, [2, 16, 840, 1, 101, 3, 4, 3, 21], -52, 0, true),
  (9, 3, ⟨#[83, 76, 72, 45, 68, 83, 65, 45, 83, 72, 65, 50, 45, 49, 57, 50, 115]⟩, 48, 96, 0, 16224, [2, 16, 840, 1, 101, 3, 4, 3, 22], -53, 0, true),
  (10, 3, ⟨#[83, 76, 72, 45, 68, 83, 65, 45, 83, 72, 65, 50, 45, 49, 57, 50, 102]⟩, 48, 96, 0, 35664, [2, 16, 840, 1, 101, 3, 4, 3, 23], -54, 0, true),
  (11, 3, ⟨#[83, 76, 72, 45, 68, 83, 65, 45, 83, 72, 65, 50, 45, 50, 53, 54, 115]⟩, 64, 128, 0, 29792, [2, 16, 840, 1, 101, 3, 4, 3, 24], -55, 0, true),
  (12, 3, ⟨#[83, 76, 72, 45, 68, 83, 65, 45, 83, 72, 65, 50, 45, 50, 53, 54, 102]⟩, 64, 128, 0, 49856, [2, 16, 840, 1, 101, 3, 4, 3, 25], -56, 0, true),
  (13, 3, ⟨#[83, 76, 72, 45, 68, 83, 65, 45, 83, 72, 65, 75, 69, 45, 49, 50, 56, 115]⟩, 32, 64, 0, 7856, [2, 16, 840, 1, 101, 3, 4, 3, 26], -57, 0, true),
  (14, 3, ⟨#[83, 76, 72, 45, 68, 83, 65, 45, 83, 72, 65, 75, 69, 45, 49, 50, 56, 102]⟩, 32, 64, 0, 17088, [2, 16, 840, 1, 101, 3, 4, 3, 27], -58, 0, true),
  (15, 3, ⟨#[83, 76, 72, 45, 68, 83, 65, 45, 83, 72, 65, 75, 69, 45, 49, 57, 50, 115]⟩, 48, 96, 0, 16224, [2, 16, 840, 1, 101, 3, 4, 3, 28], -59, 0, true),
  (16, 3, ⟨#[83, 76, 72, 45, 68, 83, 65, 45, 83, 72, 65, 75, 69, 45, 49, 57, 50, 102]⟩, 48, 96, 0, 35664, [2, 16, 840, 1, 101, 3, 4, 3, 29], -60, 0, true),
  (17, 3, ⟨#[83, 76, 72, 45, 68, 83, 65, 45, 83, 72, 65, 75, 69, 45, 50, 53, 54, 115]⟩, 64, 128, 0, 29792, [2, 16, 840, 1, 101, 3, 4, 3, 30], -61, 0, true),
  (18, 3, ⟨#[83, 76, 72, 45, 68, 83, 65, 45, 83, 72, 65, 75, 69, 45, 50, 53, 54, 102]⟩, 64, 128, 0, 49856, [2, 16, 840, 1, 101, 3, 4, 3, 31], -62, 0, true),
  (19, 4, ⟨#[72, 83, 83, 47, 76, 77, 83]⟩, 0, 0, 0, 0, [1, 2, 840, 113549, 1, 9, 16, 3, 17], 0, 0, true),
  (20, 5, ⟨#[88, 77, 83, 83, 45, 83, 72, 65, 50, 95, 49, 48, 95, 50, 53, 54]⟩, 68, 0, 0, 2500, [1, 3, 6, 1, 5, 5, 7, 6, 34], 0, 1, true),
  (21, 5, ⟨#[88, 77, 83, 83, 45, 83, 72, 65, 50, 95, 49, 54, 95, 50, 53, 54]⟩, 68, 0, 0, 2692, [1, 3, 6, 1, 5, 5, 7, 6, 34], 0, 2, true),
  (22, 5, ⟨#[88, 77, 83, 83, 45, 83, 72, 65, 50, 95, 50, 48, 95, 50, 53, 54]⟩, 68, 0, 0, 2820, [1, 3, 6, 1, 5, 5, 7, 6, 34], 0, 3, true),
  (23, 5, ⟨#[88, 77, 83, 83, 45, 83, 72, 65, 50, 95, 49, 48, 95, 53, 49, 50]⟩, 132, 0, 0, 9092, [1, 3, 6, 1, 5, 5, 7, 6, 34], 0, 4, true),
  (24, 5, ⟨#[88, 77, 83, 83, 45, 83, 72, 65, 50, 95, 49, 54, 95, 53, 49, 50]⟩, 132, 0, 0, 9476, [1, 3, 6, 1, 5, 5, 7, 6, 34], 0, 5, true),
  (25, 5, ⟨#[88, 77, 83, 83, 45, 83, 72, 65, 50, 95, 50, 48, 95, 53, 49, 50]⟩, 132, 0, 0, 9732, [1, 3, 6, 1, 5, 5, 7, 6, 34], 0, 6, true)]
def parNone : Int × Int × ByteArray × Int × Int × Int × Int × List Int × Int × Int × Bool := (0, 0, ⟨#[]⟩, 0, 0, 0, 0, [], 0, 0, false)
def params_Get.f (a0 : Int) : Option (Int × Int × ByteArray × Int × Int × Int × Int × List Int × Int × Int × Bool) := if 1 ≤ a0 ∧ a0 ≤ 25 then parTab[(a0 - 1).toNat]? else some parNone
theorem get_rows : ∀ m : Nat, m < 25 → PParG.params_Get.f 4 ((m : Int) + 1) = parTab[m]?
  | 0, _ => by kernel_rfl
  | 1, _ => by kernel_rfl
  | 2, _ => by kernel_rfl
  | 3, _ => by kernel_rfl
  | 4, _ => by kernel_rfl
  | 5, _ => by kernel_rfl
  | 6, _ => by kernel_rfl
  | 7, _ => by kernel_rfl
  | 8, _ => by kernel_rfl
  | 9, _ => by kernel_rfl
  | 10, _ => by kernel_rfl
  | 11, _ => by kernel_rfl
  | 12, _ => by kernel_rfl
  | 13, _ => by kernel_rfl
  | 14, _ => by kernel_rfl
  | 15, _ => by kernel_rfl
  | 16, _ => by kernel_rfl
  | 17, _ => by kernel_rfl
  | 18, _ => by kernel_rfl
  | 19, _ => by kernel_rfl
  | 20, _ => by kernel_rfl
  | 21, _ => by kernel_rfl
  | 22, _ => by kernel_rfl
  | 23, _ => by kernel_rfl
  | 24, _ => by kernel_rfl
  | m + 25, h => absurd h (by omega)
theorem get_none (a0 : Int) (h : ¬ (1 ≤ a0 ∧ a0 ≤ 25)) : PParG.params_Get.f 4 a0 = some parNone := by
  unfold PParG.params_Get.f
  by_cases h1 : a0 < 1
  · rw [if_pos h1, PParG.params_Get.j0, if_pos rfl]
    rfl
  · rw [if_neg h1, decide_eq_true (by omega), PParG.params_Get.j0, if_pos rfl]
    rfl
theorem get_comes (a0 : Int) : PParG.params_Get.f 4 a0 = params_Get.f a0 := by
  unfold params_Get.f
  by_cases h : 1 ≤ a0 ∧ a0 ≤ 25
  · rw [if_pos h, ← get_rows (a0 - 1).toNat (by omega)]
    congr 1
    show a0 = (((a0 - 1).toNat : Nat) : Int) + 1
    omega
  · rw [if_neg h, get_none a0 h]
theorem params_Get.calls (a0 : Int) (r1 : Int) (r2 : Int) (r3 : ByteArray) (r4 : Int) (r5 : Int) (r6 : Int) (r7 : Int) (r8 : List Int) (r9 : Int) (r10 : Int) (r11 : Bool) (w : World) (HLd : LaidOk w) (h : params_Get.f a0 = some (r1, r2, r3, r4, r5, r6, r7, r8, r9, r10, r11)) :
    Calls Tryd.prog 25 #[.int .i64 a0] w fun e w' => ∃ v7_ : Value, e = .returned (.tuple #[.agg #[.int .i64 r1, .int .i64 r2, .string r3, .int .i64 r4, .int .i64 r5, .int .i64 r6, .int .i64 r7, v7_, .int .i64 r9, .int .u32 r10], .bool r11]) ∧ Kd.R (Kd.int .u32) 27 w' w.heap.size (fun _ => True) v7_ r8 ∧ Below w.heap.size w w' :=
  PParG.params_Get.calls 4 a0 r1 r2 r3 r4 r5 r6 r7 r8 r9 r10 r11 w HLd ((get_comes a0).trans h)
end Go.Proofs.YtjoncjnmhhimhaaDoor.Hand
end

section
/- params.list: the numbers of the algorithms whose row a function holds for. The function is any closure with a contract. -/
namespace Go.Proofs.YtjoncjnmhhimhaaDoor.Hand
set_option linter.unusedVariables false
set_option linter.unusedSimpArgs false
open Go.RowKit Go.Proofs.YtjoncjnmhhimhaaDoorW.PrintWords Go.Proofs.YtjoncjnmhhimhaaDoorW.PrintLast Go.Proofs.YtjoncjnmhhimhaaDoorW.PrintMore

/-- The numbers up to k that p holds for. -/
def lst (p : Int → Bool) (k : Nat) : List Int := ((List.range k).map fun (i : Nat) => (i : Int) + 1).filter p
theorem lst_succ (p : Int → Bool) (k : Nat) : lst p (k + 1) = lst p k ++ (if p ((k : Int) + 1) = true then [(k : Int) + 1] else []) := by
  unfold lst
  rw [List.range_succ, List.map_append, List.filter_append]
  congr 1
  simp only [List.map_cons, List.map_nil, List.filter_cons, List.filter_nil]
theorem lst_len (p : Int → Bool) (k : Nat) : (lst p k).length ≤ k := by
  unfold lst
  refine Nat.le_trans (List.length_filter_le _ _) ?_
  simp
theorem get_some (k : Nat) (hk : k < 25) : ∃ r1 r2 r3 r4 r5 r6 r7 r8 r9 r10, params_Get.f ((k : Int) + 1) = some (r1, r2, r3, r4, r5, r6, r7, r8, r9, r10, true) := by
  have : ∀ m : Nat, m < 25 → ∃ r1 r2 r3 r4 r5 r6 r7 r8 r9 r10, parTab[m]? = some (r1, r2, r3, r4, r5, r6, r7, r8, r9, r10, true)
    | 0, _ => ⟨_, _, _, _, _, _, _, _, _, _, rfl⟩
    | 1, _ => ⟨_, _, _, _, _, _, _, _, _, _, rfl⟩
    | 2, _ => ⟨_, _, _, _, _, _, _, _, _, _, rfl⟩
    | 3, _ => ⟨_, _, _, _, _, _, _, _, _, _, rfl⟩
    | 4, _ => ⟨_, _, _, _, _, _, _, _, _, _, rfl⟩
    | 5, _ => ⟨_, _, _, _, _, _, _, _, _, _, rfl⟩
    | 6, _ => ⟨_, _, _, _, _, _, _, _, _, _, rfl⟩
    | 7, _ => ⟨_, _, _, _, _, _, _, _, _, _, rfl⟩
    | 8, _ => ⟨_, _, _, _, _, _, _, _, _, _, rfl⟩
    | 9, _ => ⟨_, _, _, _, _, _, _, _, _, _, rfl⟩
    | 10, _ => ⟨_, _, _, _, _, _, _, _, _, _, rfl⟩
    | 11, _ => ⟨_, _, _, _, _, _, _, _, _, _, rfl⟩
    | 12, _ => ⟨_, _, _, _, _, _, _, _, _, _, rfl⟩
    | 13, _ => ⟨_, _, _, _, _, _, _, _, _, _, rfl⟩
    | 14, _ => ⟨_, _, _, _, _, _, _, _, _, _, rfl⟩
    | 15, _ => ⟨_, _, _, _, _, _, _, _, _, _, rfl⟩
    | 16, _ => ⟨_, _, _, _, _, _, _, _, _, _, rfl⟩
    | 17, _ => ⟨_, _, _, _, _, _, _, _, _, _, rfl⟩
    | 18, _ => ⟨_, _, _, _, _, _, _, _, _, _, rfl⟩
    | 19, _ => ⟨_, _, _, _, _, _, _, _, _, _, rfl⟩
    | 20, _ => ⟨_, _, _, _, _, _, _, _, _, _, rfl⟩
    | 21, _ => ⟨_, _, _, _, _, _, _, _, _, _, rfl⟩
    | 22, _ => ⟨_, _, _, _, _, _, _, _, _, _, rfl⟩
    | 23, _ => ⟨_, _, _, _, _, _, _, _, _, _, rfl⟩
    | 24, _ => ⟨_, _, _, _, _, _, _, _, _, _, rfl⟩
    | m + 25, h => absurd h (by omega)
  unfold params_Get.f
  rw [if_pos (by omega), show ((k : Int) + 1 - 1).toNat = k by omega]
  exact this k hk

theorem info_i64 : (Tryd.prog.info? 3).map (fun i => (i.zero, i.size, i.bytes)) = some (some (.int .i64 0), 1, 8) := by kernel_rfl
/-- What a closure over a row says, and what it needs of the world. -/
structure Holds (f : FuncId) (caps : Array Value) (p : Int → Bool) (Inv : World → Prop) : Prop where
  enters : ∀ args W, (callFunc f args).run Tryd.prog W = .ok (.enter f args) W
  keeps : ∀ W W', Inv W → Below W.heap.size W W' → Inv W'
  says : ∀ (a : Int) r1 r2 r3 r4 r5 r6 r7 r8 r9 r10 A7 c7 (W : World), params_Get.f a = some (r1, r2, r3, r4, r5, r6, r7, r8, r9, r10, true) → Kd.C (Kd.int .u32) W A7 r8.length r8 → r8.length ≤ c7 → Inv W →
    Calls Tryd.prog f (#[.agg #[.int .i64 r1, .int .i64 r2, .string r3, .int .i64 r4, .int .i64 r5, .int .i64 r6, .int .i64 r7, .slice A7 r8.length c7, .int .i64 r9, .int .u32 r10]] ++ caps) W fun e W' => e = .returned (.bool (p a)) ∧ Below W.heap.size W W'

set_option maxHeartbeats 4000000 in
set_option maxRecDepth 100000 in
theorem list_any (f : FuncId) (caps : Array Value) (p : Int → Bool) (Inv : World → Prop) (HF : Holds f caps p Inv) (w : World) (HLd : LaidOk w) (hInv : Inv w) :
    Calls Tryd.prog 50 #[.func (.func f) #[] caps] w fun e w' => ∃ v0_ : Value, e = .returned v0_ ∧ Kd.R (Kd.int .i64) 3 w' w.heap.size (fun _ => True) v0_ (lst p 25) ∧ Below w.heap.size w w' := by
  have he := HF.enters
  go_enter Tryd.func50, Tryd.ntmps50
  go_wp2
  go_loopw [3, 4] (fun vo va wr => ∃ k : Nat, k ≤ 25 ∧ va = .int .i64 ((k : Int) + 1) ∧ Hid (Kd.R (Kd.int .i64) 3 wr w.heap.size (fun _ => True) vo (lst p k)) ∧ Hid (Below w.heap.size w wr)) (fun _ va _ => 26 - (intOf va).toNat)
  case atStart => exact ⟨0, by omega, rfl, Lib.hid (Kd.R_nil _ _ _ _ _), Lib.hid (Below.refl _ _)⟩
  case round =>
    obtain ⟨k, hk, rfl, HO, HB⟩ := hrel
    by_cases hlt : k < 25
    · obtain ⟨r1, r2, r3, r4, r5, r6, r7, r8, r9, r10, hrow⟩ := get_some k hlt
      have g1 : decide ((k : Int) + 1 ≤ 25) = true := decide_eq_true (by omega)
      obtain ⟨b, hp⟩ : ∃ b, b = p ((k : Int) + 1) := ⟨_, rfl⟩
      have HR := Lib.hid hrow
      have HP := Lib.hid hp
      have HD := Lib.hid HLd
      have HI := Lib.hid hInv
      have HFF := Lib.hid HF
      obtain ⟨Ao, co, eo⟩ := Kd.R_slice HO.out
      subst eo
      have hL : Hid ((lst p k).length ≤ 25) := Lib.hid (Nat.le_trans (lst_len p k) hk)
      have hw : wrap64 ((k : Int) + 1 + 1) = ((k + 1 : Nat) : Int) + 1 := by rw [i64_in _ (by omega) (by omega)]; omega
      clear hrow hp HLd hInv HF
      cases b with
      | true =>
        go_wp2_with fail
        refine (params_Get.calls ((k : Int) + 1) r1 r2 r3 r4 r5 r6 r7 r8 r9 r10 true _ (HD.out.below HB.out) HR.out).mono ?_
        rintro e w2 ⟨v7, rfl, hR7, hB2⟩
        have HB2 := Lib.hid (HB.out.trans (hB2.mono HB.out.size))
        obtain ⟨A7, c7, rfl⟩ := Kd.R_slice hR7
        have HR7 := Lib.hid hR7
        have HO2 := Lib.hid (Kd.R_below HO.out hB2)
        clear hR7 hB2
        go_wp2_with fail
        obtain ⟨q1, q2, q3⟩ := Kd.R_reads' HR7.out
        refine (HFF.out.says ((k : Int) + 1) r1 r2 r3 r4 r5 r6 r7 r8 r9 r10 A7 c7 _ HR.out (Kd.C_alloc q3 _) (by first | exact q1 | exact q2) (HFF.out.keeps _ _ HI.out (below_alloc HB2.out _))).mono ?_
        rintro e w3 ⟨rfl, hB3⟩
        rw [← HP.out]
        have HB3 := Lib.hid ((below_alloc HB2.out _).trans (hB3.mono (below_alloc HB2.out _).size))
        have HO3 := Lib.hid (Kd.R_below (Kd.R_alloc HO2.out _) hB3)
        clear hB3 q1 q2 q3
        go_wp2_with (at_builtin; refine Kd.R_append (Kd.int .i64) (w0 := w) w.heap.size rfl (.tmp 19) (.tmp 21) 45 3 (.int .i64 0) 8 rfl Tryd.underlying45 info_i64 rfl (by decide) (by omega) (.slice Ao (lst p k).length co) (lst p k) ((k : Int) + 1) [.int .i64 ((k : Int) + 1)] (fun _ => True) (fun _ => False) rfl rfl ?aP (fun _ hk => hk.elim) ?aF ?aO ?aB ?aS ?aL ?_; (case aP => exact rfl); (case aB => exact (by repeat (first | exact HB3.out | apply below_alloc | apply pw_below_drewN | apply below_drew1))); (case aF => exact (fun _ _ => trivial)); (case aO => exact (by (with_reducible repeat (first | apply Kd.R_alloc | apply Kd.R_drewN | apply Kd.R_drew)); exact HO3.out)); (case aS => exact (below_size (by repeat (first | exact HB3.out | apply below_alloc | apply pw_below_drewN | apply below_drew1)))); (case aL => have := hL.out; omega); intro v4 w4 ho hb hg hat; have HO4 := Lib.hid ho; have HB4 := Lib.hid hb; clear ho hb hg hat)
        go_roundw
        case rel =>
          refine ⟨k + 1, by omega, by first | rfl | go_num | (rw [hw]), Lib.hid ?_, Lib.hid HB4.out⟩
          rw [lst_succ, ← HP.out, if_pos rfl]
          exact HO4.out
        case measure => simp [intOf]; omega
      | false =>
        go_wp2_with fail
        refine (params_Get.calls ((k : Int) + 1) r1 r2 r3 r4 r5 r6 r7 r8 r9 r10 true _ (HD.out.below HB.out) HR.out).mono ?_
        rintro e w2 ⟨v7, rfl, hR7, hB2⟩
        have HB2 := Lib.hid (HB.out.trans (hB2.mono HB.out.size))
        obtain ⟨A7, c7, rfl⟩ := Kd.R_slice hR7
        have HR7 := Lib.hid hR7
        have HO2 := Lib.hid (Kd.R_below HO.out hB2)
        clear hR7 hB2
        go_wp2_with fail
        obtain ⟨q1, q2, q3⟩ := Kd.R_reads' HR7.out
        refine (HFF.out.says ((k : Int) + 1) r1 r2 r3 r4 r5 r6 r7 r8 r9 r10 A7 c7 _ HR.out (Kd.C_alloc q3 _) (by first | exact q1 | exact q2) (HFF.out.keeps _ _ HI.out (below_alloc HB2.out _))).mono ?_
        rintro e w3 ⟨rfl, hB3⟩
        rw [← HP.out]
        have HB3 := Lib.hid ((below_alloc HB2.out _).trans (hB3.mono (below_alloc HB2.out _).size))
        have HO3 := Lib.hid (Kd.R_below (Kd.R_alloc HO2.out _) hB3)
        clear hB3 q1 q2 q3
        go_wp2
        go_roundw
        case rel =>
          refine ⟨k + 1, by omega, by first | rfl | go_num | (rw [hw]), Lib.hid ?_, Lib.hid HB3.out⟩
          rw [lst_succ, ← HP.out, if_neg (by decide), List.append_nil]
          exact HO3.out
        case measure => simp [intOf]; omega
    · have hk2 : k = 25 := by omega
      subst hk2
      have h := HO.out
      obtain ⟨Ao, co, rfl⟩ := Kd.R_slice h
      go_wp2
      go_ret
      exact ⟨_, rfl, h, HB.out⟩
end Go.Proofs.YtjoncjnmhhimhaaDoor.Hand
end

section
/- params.one: the row of the first number that a closure holds for. -/
namespace Go.Proofs.YtjoncjnmhhimhaaDoor.Hand
set_option linter.unusedVariables false
set_option linter.unusedSimpArgs false
open Go.RowKit Go.Proofs.YtjoncjnmhhimhaaDoorW.PrintWords Go.Proofs.YtjoncjnmhhimhaaDoorW.PrintLast Go.Proofs.YtjoncjnmhhimhaaDoorW.PrintMore

def oneF (p : Int → Bool) : Option (Int × Int × ByteArray × Int × Int × Int × Int × List Int × Int × Int × Bool) :=
  match lst p 25 with
  | [] => some parNone
  | a :: _ => params_Get.f a

set_option maxHeartbeats 4000000 in
set_option maxRecDepth 100000 in
theorem one_any (f : FuncId) (caps : Array Value) (p : Int → Bool) (Inv : World → Prop) (HF : Holds f caps p Inv) (r1 : Int) (r2 : Int) (r3 : ByteArray) (r4 : Int) (r5 : Int) (r6 : Int) (r7 : Int) (r8 : List Int) (r9 : Int) (r10 : Int) (r11 : Bool) (w : World) (HLd : LaidOk w) (hInv : Inv w) (h : oneF p = some (r1, r2, r3, r4, r5, r6, r7, r8, r9, r10, r11)) :
    Calls Tryd.prog 53 #[.func (.func f) #[] caps] w fun e w' => ∃ v7_ : Value, e = .returned (.tuple #[.agg #[.int .i64 r1, .int .i64 r2, .string r3, .int .i64 r4, .int .i64 r5, .int .i64 r6, .int .i64 r7, v7_, .int .i64 r9, .int .u32 r10], .bool r11]) ∧ Kd.R (Kd.int .u32) 27 w' w.heap.size (fun _ => True) v7_ r8 ∧ Below w.heap.size w w' := by
  have hlist := fun W (hW : LaidOk W) (hI : Inv W) => list_any f caps p Inv HF W hW hI
  unfold oneF at h
  generalize lst p 25 = L at h hlist
  have HL := Lib.hid hlist
  have HD := Lib.hid HLd
  have HI := Lib.hid hInv
  have HFF := Lib.hid HF
  have HH := Lib.hid h
  clear hlist HLd hInv HF h
  cases L with
  | nil =>
    simp only [Option.some.injEq, parNone, Prod.mk.injEq] at HH
    obtain ⟨rfl, rfl, rfl, rfl, rfl, rfl, rfl, rfl, rfl, rfl, rfl⟩ := HH.out
    go_enter Tryd.func53, Tryd.ntmps53
    go_wp2_with fail
    have hbox0 : (w.alloc (.cells #[.int .i64 0, .int .i64 0, .string (⟨#[]⟩ : ByteArray), .int .i64 0, .int .i64 0, .int .i64 0, .int .i64 0, .slice none 0 0, .int .i64 0, .int .u32 0] 37)).heap[w.heap.size]? = some (.cells #[.int .i64 0, .int .i64 0, .string (⟨#[]⟩ : ByteArray), .int .i64 0, .int .i64 0, .int .i64 0, .int .i64 0, .slice none 0 0, .int .i64 0, .int .u32 0] 37 (0, 0)) := blk_new w _
    have HB0 : Below w.heap.size w (w.alloc (.cells #[.int .i64 0, .int .i64 0, .string (⟨#[]⟩ : ByteArray), .int .i64 0, .int .i64 0, .int .i64 0, .int .i64 0, .slice none 0 0, .int .i64 0, .int .u32 0] 37)) := below_alloc (Below.refl _ _) _
    generalize w.alloc (.cells #[.int .i64 0, .int .i64 0, .string (⟨#[]⟩ : ByteArray), .int .i64 0, .int .i64 0, .int .i64 0, .int .i64 0, .slice none 0 0, .int .i64 0, .int .u32 0] 37) = W0 at *
    refine (HL.out W0 (HD.out.below HB0) (HFF.out.keeps _ _ HI.out HB0)).mono ?_
    rintro e w2 ⟨v0, rfl, hR2, hB2⟩
    have HB2 : Below w.heap.size w w2 := HB0.trans (hB2.mono HB0.size)
    have bx2 := blk_below hbox0 hB2
    obtain ⟨Al, cl, el⟩ := Kd.R_slice hR2
    subst el
    have hc0 : w2.cell? ⟨w.heap.size, 0, none⟩ = some (.int .i64 0) := (blk_cell bx2 0).trans rfl
    have hc1 : w2.cell? ⟨w.heap.size, 1, none⟩ = some (.int .i64 0) := (blk_cell bx2 1).trans rfl
    have hc2 : w2.cell? ⟨w.heap.size, 2, none⟩ = some (.string (⟨#[]⟩ : ByteArray)) := (blk_cell bx2 2).trans rfl
    have hc3 : w2.cell? ⟨w.heap.size, 3, none⟩ = some (.int .i64 0) := (blk_cell bx2 3).trans rfl
    have hc4 : w2.cell? ⟨w.heap.size, 4, none⟩ = some (.int .i64 0) := (blk_cell bx2 4).trans rfl
    have hc5 : w2.cell? ⟨w.heap.size, 5, none⟩ = some (.int .i64 0) := (blk_cell bx2 5).trans rfl
    have hc6 : w2.cell? ⟨w.heap.size, 6, none⟩ = some (.int .i64 0) := (blk_cell bx2 6).trans rfl
    have hc7 : w2.cell? ⟨w.heap.size, 7, none⟩ = some (.slice none 0 0) := (blk_cell bx2 7).trans rfl
    have hc8 : w2.cell? ⟨w.heap.size, 8, none⟩ = some (.int .i64 0) := (blk_cell bx2 8).trans rfl
    have hc9 : w2.cell? ⟨w.heap.size, 9, none⟩ = some (.int .u32 0) := (blk_cell bx2 9).trans rfl
    have hf0 := blk_frozen bx2 0
    have hf1 := blk_frozen bx2 1
    have hf2 := blk_frozen bx2 2
    have hf3 := blk_frozen bx2 3
    have hf4 := blk_frozen bx2 4
    have hf5 := blk_frozen bx2 5
    have hf6 := blk_frozen bx2 6
    have hf7 := blk_frozen bx2 7
    have hf8 := blk_frozen bx2 8
    have hf9 := blk_frozen bx2 9
    have HB2' := Lib.hid HB2
    have bx2' := Lib.hid bx2
    clear HB2 hR2 hB2 HB0 hbox0
    go_wp2
    refine bodyPost_ret (results_ct rfl _ _ w.heap.size 37 #[.int .i64 0, .int .i64 0, .string (⟨#[]⟩ : ByteArray), .int .i64 0, .int .i64 0, .int .i64 0, .int .i64 0, .slice none 0 0, .int .i64 0, .int .u32 0] (0, 0) _ rfl (by refine blk_put (cs := #[.int .i64 0, .int .i64 0, .string (⟨#[]⟩ : ByteArray), .int .i64 0, .int .i64 0, .int .i64 0, .int .i64 0, .slice none 0 0, .int .i64 0, .int .u32 0]) ?_ 9 _ rfl; refine blk_put (cs := #[.int .i64 0, .int .i64 0, .string (⟨#[]⟩ : ByteArray), .int .i64 0, .int .i64 0, .int .i64 0, .int .i64 0, .slice none 0 0, .int .i64 0, .int .u32 0]) ?_ 8 _ rfl; refine blk_put (cs := #[.int .i64 0, .int .i64 0, .string (⟨#[]⟩ : ByteArray), .int .i64 0, .int .i64 0, .int .i64 0, .int .i64 0, .slice none 0 0, .int .i64 0, .int .u32 0]) ?_ 7 _ rfl; refine blk_put (cs := #[.int .i64 0, .int .i64 0, .string (⟨#[]⟩ : ByteArray), .int .i64 0, .int .i64 0, .int .i64 0, .int .i64 0, .slice none 0 0, .int .i64 0, .int .u32 0]) ?_ 6 _ rfl; refine blk_put (cs := #[.int .i64 0, .int .i64 0, .string (⟨#[]⟩ : ByteArray), .int .i64 0, .int .i64 0, .int .i64 0, .int .i64 0, .slice none 0 0, .int .i64 0, .int .u32 0]) ?_ 5 _ rfl; refine blk_put (cs := #[.int .i64 0, .int .i64 0, .string (⟨#[]⟩ : ByteArray), .int .i64 0, .int .i64 0, .int .i64 0, .int .i64 0, .slice none 0 0, .int .i64 0, .int .u32 0]) ?_ 4 _ rfl; refine blk_put (cs := #[.int .i64 0, .int .i64 0, .string (⟨#[]⟩ : ByteArray), .int .i64 0, .int .i64 0, .int .i64 0, .int .i64 0, .slice none 0 0, .int .i64 0, .int .u32 0]) ?_ 3 _ rfl; refine blk_put (cs := #[.int .i64 0, .int .i64 0, .string (⟨#[]⟩ : ByteArray), .int .i64 0, .int .i64 0, .int .i64 0, .int .i64 0, .slice none 0 0, .int .i64 0, .int .u32 0]) ?_ 2 _ rfl; refine blk_put (cs := #[.int .i64 0, .int .i64 0, .string (⟨#[]⟩ : ByteArray), .int .i64 0, .int .i64 0, .int .i64 0, .int .i64 0, .slice none 0 0, .int .i64 0, .int .u32 0]) ?_ 1 _ rfl; refine blk_put (cs := #[.int .i64 0, .int .i64 0, .string (⟨#[]⟩ : ByteArray), .int .i64 0, .int .i64 0, .int .i64 0, .int .i64 0, .slice none 0 0, .int .i64 0, .int .u32 0]) ?_ 0 _ rfl; exact bx2'.out) Tryd.underlying37 rfl (by kernel_rfl)) rfl ?_
    exact ⟨_, rfl, Kd.R_nil _ _ _ _ _, (below_set (below_set (below_set (below_set (below_set (below_set (below_set (below_set (below_set (below_set HB2'.out (Nat.le_refl _)) (Nat.le_refl _)) (Nat.le_refl _)) (Nat.le_refl _)) (Nat.le_refl _)) (Nat.le_refl _)) (Nat.le_refl _)) (Nat.le_refl _)) (Nat.le_refl _)) (Nat.le_refl _))⟩
  | cons a l =>
    go_enter Tryd.func53, Tryd.ntmps53
    go_wp2_with fail
    have hbox0 : (w.alloc (.cells #[.int .i64 0, .int .i64 0, .string (⟨#[]⟩ : ByteArray), .int .i64 0, .int .i64 0, .int .i64 0, .int .i64 0, .slice none 0 0, .int .i64 0, .int .u32 0] 37)).heap[w.heap.size]? = some (.cells #[.int .i64 0, .int .i64 0, .string (⟨#[]⟩ : ByteArray), .int .i64 0, .int .i64 0, .int .i64 0, .int .i64 0, .slice none 0 0, .int .i64 0, .int .u32 0] 37 (0, 0)) := blk_new w _
    have HB0 : Below w.heap.size w (w.alloc (.cells #[.int .i64 0, .int .i64 0, .string (⟨#[]⟩ : ByteArray), .int .i64 0, .int .i64 0, .int .i64 0, .int .i64 0, .slice none 0 0, .int .i64 0, .int .u32 0] 37)) := below_alloc (Below.refl _ _) _
    generalize w.alloc (.cells #[.int .i64 0, .int .i64 0, .string (⟨#[]⟩ : ByteArray), .int .i64 0, .int .i64 0, .int .i64 0, .int .i64 0, .slice none 0 0, .int .i64 0, .int .u32 0] 37) = W0 at *
    refine (HL.out W0 (HD.out.below HB0) (HFF.out.keeps _ _ HI.out HB0)).mono ?_
    rintro e w2 ⟨v0, rfl, hR2, hB2⟩
    have HB2 : Below w.heap.size w w2 := HB0.trans (hB2.mono HB0.size)
    have bx2 := blk_below hbox0 hB2
    obtain ⟨Al, cl, el⟩ := Kd.R_slice hR2
    subst el
    obtain ⟨ad, ea, hx⟩ := Kd.at_int (Kd.R_reads' hR2).2.2 0 (by omega) (by simp)
    subst ea
    have hx1 : w2.cell? ad = some (.int .i64 a) := by rw [show ((0 : Int)).toNat = 0 from rfl, Addr.add_zero'] at hx; exact hx
    have q1 : (0 < (a :: l).length) = True := eq_true (by simp)
    have q2 : (0 < ((a :: l).length : Int)) = True := eq_true (by simp)
    have hl0 : (((l.length : Int) + 1) == 0) = false := by simp; omega
    have hl1 : ((l.length : Int) + 1 = 0) = False := eq_false (by omega)
    clear hx
    have HB2' := Lib.hid HB2
    have bx2' := Lib.hid bx2
    clear HB2 bx2 hR2 hB2 HB0 hbox0
    go_wp2_with fail
    refine (params_Get.calls a r1 r2 r3 r4 r5 r6 r7 r8 r9 r10 r11 _ (HD.out.below HB2'.out) HH.out).mono ?_
    rintro e w3 ⟨v7, rfl, hR3, hB3⟩
    obtain ⟨A7, c7, e7⟩ := Kd.R_slice hR3
    subst e7
    have HB3 := Lib.hid (HB2'.out.trans (hB3.mono HB2'.out.size))
    have bx3 := blk_below bx2'.out hB3
    have hR3' := Lib.hid (Kd.R_lower hR3 HB2'.out.size)
    clear hB3 hR3
    have hc0 : w3.cell? ⟨w.heap.size, 0, none⟩ = some (.int .i64 0) := (blk_cell bx3 0).trans rfl
    have hc1 : w3.cell? ⟨w.heap.size, 1, none⟩ = some (.int .i64 0) := (blk_cell bx3 1).trans rfl
    have hc2 : w3.cell? ⟨w.heap.size, 2, none⟩ = some (.string (⟨#[]⟩ : ByteArray)) := (blk_cell bx3 2).trans rfl
    have hc3 : w3.cell? ⟨w.heap.size, 3, none⟩ = some (.int .i64 0) := (blk_cell bx3 3).trans rfl
    have hc4 : w3.cell? ⟨w.heap.size, 4, none⟩ = some (.int .i64 0) := (blk_cell bx3 4).trans rfl
    have hc5 : w3.cell? ⟨w.heap.size, 5, none⟩ = some (.int .i64 0) := (blk_cell bx3 5).trans rfl
    have hc6 : w3.cell? ⟨w.heap.size, 6, none⟩ = some (.int .i64 0) := (blk_cell bx3 6).trans rfl
    have hc7 : w3.cell? ⟨w.heap.size, 7, none⟩ = some (.slice none 0 0) := (blk_cell bx3 7).trans rfl
    have hc8 : w3.cell? ⟨w.heap.size, 8, none⟩ = some (.int .i64 0) := (blk_cell bx3 8).trans rfl
    have hc9 : w3.cell? ⟨w.heap.size, 9, none⟩ = some (.int .u32 0) := (blk_cell bx3 9).trans rfl
    have hf0 := blk_frozen bx3 0
    have hf1 := blk_frozen bx3 1
    have hf2 := blk_frozen bx3 2
    have hf3 := blk_frozen bx3 3
    have hf4 := blk_frozen bx3 4
    have hf5 := blk_frozen bx3 5
    have hf6 := blk_frozen bx3 6
    have hf7 := blk_frozen bx3 7
    have hf8 := blk_frozen bx3 8
    have hf9 := blk_frozen bx3 9
    have bx3' := Lib.hid bx3
    clear bx3
    go_wp2
    refine bodyPost_ret (results_ct rfl _ _ w.heap.size 37 #[.int .i64 r1, .int .i64 r2, .string r3, .int .i64 r4, .int .i64 r5, .int .i64 r6, .int .i64 r7, .slice A7 r8.length c7, .int .i64 r9, .int .u32 r10] (0, 0) _ rfl (by refine blk_put (cs := #[.int .i64 r1, .int .i64 r2, .string r3, .int .i64 r4, .int .i64 r5, .int .i64 r6, .int .i64 r7, .slice A7 r8.length c7, .int .i64 r9, .int .u32 0]) ?_ 9 _ rfl; refine blk_put (cs := #[.int .i64 r1, .int .i64 r2, .string r3, .int .i64 r4, .int .i64 r5, .int .i64 r6, .int .i64 r7, .slice A7 r8.length c7, .int .i64 0, .int .u32 0]) ?_ 8 _ rfl; refine blk_put (cs := #[.int .i64 r1, .int .i64 r2, .string r3, .int .i64 r4, .int .i64 r5, .int .i64 r6, .int .i64 r7, .slice none 0 0, .int .i64 0, .int .u32 0]) ?_ 7 _ rfl; refine blk_put (cs := #[.int .i64 r1, .int .i64 r2, .string r3, .int .i64 r4, .int .i64 r5, .int .i64 r6, .int .i64 0, .slice none 0 0, .int .i64 0, .int .u32 0]) ?_ 6 _ rfl; refine blk_put (cs := #[.int .i64 r1, .int .i64 r2, .string r3, .int .i64 r4, .int .i64 r5, .int .i64 0, .int .i64 0, .slice none 0 0, .int .i64 0, .int .u32 0]) ?_ 5 _ rfl; refine blk_put (cs := #[.int .i64 r1, .int .i64 r2, .string r3, .int .i64 r4, .int .i64 0, .int .i64 0, .int .i64 0, .slice none 0 0, .int .i64 0, .int .u32 0]) ?_ 4 _ rfl; refine blk_put (cs := #[.int .i64 r1, .int .i64 r2, .string r3, .int .i64 0, .int .i64 0, .int .i64 0, .int .i64 0, .slice none 0 0, .int .i64 0, .int .u32 0]) ?_ 3 _ rfl; refine blk_put (cs := #[.int .i64 r1, .int .i64 r2, .string (⟨#[]⟩ : ByteArray), .int .i64 0, .int .i64 0, .int .i64 0, .int .i64 0, .slice none 0 0, .int .i64 0, .int .u32 0]) ?_ 2 _ rfl; refine blk_put (cs := #[.int .i64 r1, .int .i64 0, .string (⟨#[]⟩ : ByteArray), .int .i64 0, .int .i64 0, .int .i64 0, .int .i64 0, .slice none 0 0, .int .i64 0, .int .u32 0]) ?_ 1 _ rfl; refine blk_put (cs := #[.int .i64 0, .int .i64 0, .string (⟨#[]⟩ : ByteArray), .int .i64 0, .int .i64 0, .int .i64 0, .int .i64 0, .slice none 0 0, .int .i64 0, .int .u32 0]) ?_ 0 _ rfl; exact bx3'.out) Tryd.underlying37 rfl (by kernel_rfl)) rfl ?_
    exact ⟨_, rfl, Kd.R_mono (Kd.R_far (p := ⟨w.heap.size, 9, none⟩) (Kd.R_far (p := ⟨w.heap.size, 8, none⟩) (Kd.R_far (p := ⟨w.heap.size, 7, none⟩) (Kd.R_far (p := ⟨w.heap.size, 6, none⟩) (Kd.R_far (p := ⟨w.heap.size, 5, none⟩) (Kd.R_far (p := ⟨w.heap.size, 4, none⟩) (Kd.R_far (p := ⟨w.heap.size, 3, none⟩) (Kd.R_far (p := ⟨w.heap.size, 2, none⟩) (Kd.R_far (p := ⟨w.heap.size, 1, none⟩) (Kd.R_far (p := ⟨w.heap.size, 0, none⟩) (Kd.R_types hR3'.out bx3'.out (by decide)) (fun _ hk => hk.2) (.int .i64 r1)) (fun _ hk => hk.2) (.int .i64 r2)) (fun _ hk => hk.2) (.string r3)) (fun _ hk => hk.2) (.int .i64 r4)) (fun _ hk => hk.2) (.int .i64 r5)) (fun _ hk => hk.2) (.int .i64 r6)) (fun _ hk => hk.2) (.int .i64 r7)) (fun _ hk => hk.2) (.slice A7 r8.length c7)) (fun _ hk => hk.2) (.int .i64 r9)) (fun _ hk => hk.2) (.int .u32 r10)) (fun _ _ => trivial), (below_set (below_set (below_set (below_set (below_set (below_set (below_set (below_set (below_set (below_set HB3.out (Nat.le_refl _)) (Nat.le_refl _)) (Nat.le_refl _)) (Nat.le_refl _)) (Nat.le_refl _)) (Nat.le_refl _)) (Nat.le_refl _)) (Nat.le_refl _)) (Nat.le_refl _)) (Nat.le_refl _))⟩
end Go.Proofs.YtjoncjnmhhimhaaDoor.Hand
end

section
/- The closures of params.ByName, ByCOSE, ByType, ByOID, BySize. -/
namespace Go.Proofs.YtjoncjnmhhimhaaDoor.Hand
set_option linter.unusedVariables false
set_option linter.unusedSimpArgs false
open Go.RowKit Go.Proofs.YtjoncjnmhhimhaaDoorW.PrintWords Go.Proofs.YtjoncjnmhhimhaaDoorW.PrintLast Go.Proofs.YtjoncjnmhhimhaaDoorW.PrintMore

def rowOf (a : Int) : Int × Int × ByteArray × Int × Int × Int × Int × List Int × Int × Int × Bool := (params_Get.f a).getD parNone
def pName (name : ByteArray) (a : Int) : Bool := (rowOf a).2.2.1.toList == name.toList

set_option maxHeartbeats 4000000 in
set_option maxRecDepth 100000 in
theorem name_holds (name : ByteArray) (G : Nat) : Holds 54 #[.pointer (some ⟨G, 0, none⟩)] (pName name) (fun W => Boxed W G 9 (.string name)) where
  enters := fun args W => enters_ Tryd.func54 (by kernel_rfl) rfl args W
  keeps := fun W W' h hb => (hb.block G h.lt).trans h
  says := by
    intro a r1 r2 r3 r4 r5 r6 r7 r8 r9 r10 A7 c7 W hrow hC hc7 hI
    have hp : pName name a = (r3.toList == name.toList) := by unfold pName rowOf; rw [hrow]; rfl
    have hcell := hI.cell
    have HP := Lib.hid hp
    rw [hp]
    clear hp hrow
    have hal : ∀ o, (W.alloc o).cell? ⟨G, 0, none⟩ = some (.string name) := fun o => (hI.alloc o).cell
    refine calls_of_args (args' := #[.agg #[.int .i64 r1, .int .i64 r2, .string r3, .int .i64 r4, .int .i64 r5, .int .i64 r6, .int .i64 r7, .slice A7 r8.length c7, .int .i64 r9, .int .u32 r10], .pointer (some ⟨G, 0, none⟩)]) rfl ?_
    go_enter Tryd.func54, Tryd.ntmps54
    go_wp2
    go_ret
    exact ⟨rfl, below_alloc (Below.refl _ _) _⟩
def pCose (n : Int) (a : Int) : Bool := (n != 0) && ((rowOf a).2.2.2.2.2.2.2.2.1 == n)
set_option maxHeartbeats 4000000 in
set_option maxRecDepth 100000 in
theorem cose_holds (n : Int) (G : Nat) : Holds 55 #[.pointer (some ⟨G, 0, none⟩)] (pCose n) (fun W => Boxed W G 2 (.int .i64 n)) where
  enters := fun args W => enters_ Tryd.func55 (by kernel_rfl) rfl args W
  keeps := fun W W' h hb => (hb.block G h.lt).trans h
  says := by
    intro a r1 r2 r3 r4 r5 r6 r7 r8 r9 r10 A7 c7 W hrow hC hc7 hI
    have hp : pCose n a = ((n != 0) && (r9 == n)) := by unfold pCose rowOf; rw [hrow]; rfl
    have hcell := hI.cell
    rw [hp]
    clear hp hrow
    have hal : ∀ o, (W.alloc o).cell? ⟨G, 0, none⟩ = some (.int .i64 n) := fun o => (hI.alloc o).cell
    refine calls_of_args (args' := #[.agg #[.int .i64 r1, .int .i64 r2, .string r3, .int .i64 r4, .int .i64 r5, .int .i64 r6, .int .i64 r7, .slice A7 r8.length c7, .int .i64 r9, .int .u32 r10], .pointer (some ⟨G, 0, none⟩)]) rfl ?_
    by_cases hn : n = 0
    · subst hn
      go_enter Tryd.func55, Tryd.ntmps55
      go_wp2
      go_ret
      exact ⟨rfl, below_alloc (Below.refl _ _) _⟩
    · have g1 : (n == 0) = false := by simpa using hn
      have g2 : (n != 0) = true := by simpa using hn
      rw [g2, Bool.true_and]
      go_enter Tryd.func55, Tryd.ntmps55
      go_wp2
      go_ret
      exact ⟨rfl, below_alloc (Below.refl _ _) _⟩
def pType (n : Int) (a : Int) : Bool := (n != 0) && ((rowOf a).2.2.2.2.2.2.2.2.2.1 == n)
set_option maxHeartbeats 4000000 in
set_option maxRecDepth 100000 in
theorem type_holds (n : Int) (G : Nat) : Holds 56 #[.pointer (some ⟨G, 0, none⟩)] (pType n) (fun W => Boxed W G 27 (.int .u32 n)) where
  enters := fun args W => enters_ Tryd.func56 (by kernel_rfl) rfl args W
  keeps := fun W W' h hb => (hb.block G h.lt).trans h
  says := by
    intro a r1 r2 r3 r4 r5 r6 r7 r8 r9 r10 A7 c7 W hrow hC hc7 hI
    have hp : pType n a = ((n != 0) && (r10 == n)) := by unfold pType rowOf; rw [hrow]; rfl
    have hcell := hI.cell
    rw [hp]
    clear hp hrow
    have hal : ∀ o, (W.alloc o).cell? ⟨G, 0, none⟩ = some (.int .u32 n) := fun o => (hI.alloc o).cell
    refine calls_of_args (args' := #[.agg #[.int .i64 r1, .int .i64 r2, .string r3, .int .i64 r4, .int .i64 r5, .int .i64 r6, .int .i64 r7, .slice A7 r8.length c7, .int .i64 r9, .int .u32 r10], .pointer (some ⟨G, 0, none⟩)]) rfl ?_
    by_cases hn : n = 0
    · subst hn
      go_enter Tryd.func56, Tryd.ntmps56
      go_wp2
      go_ret
      exact ⟨rfl, below_alloc (Below.refl _ _) _⟩
    · have g1 : (n == 0) = false := by simpa using hn
      have g2 : (n != 0) = true := by simpa using hn
      rw [g2, Bool.true_and]
      go_enter Tryd.func56, Tryd.ntmps56
      go_wp2
      go_ret
      exact ⟨rfl, below_alloc (Below.refl _ _) _⟩
def pSize (fam sig : Int) (a : Int) : Bool := (sig != 0) && ((rowOf a).2.1 == fam) && ((rowOf a).2.2.2.2.2.2.1 == sig)
set_option maxHeartbeats 4000000 in
set_option maxRecDepth 100000 in
theorem size_holds (fam sig : Int) (F G : Nat) : Holds 52 #[.pointer (some ⟨G, 0, none⟩), .pointer (some ⟨F, 0, none⟩)] (pSize fam sig) (fun W => Boxed W G 3 (.int .i64 sig) ∧ Boxed W F 3 (.int .i64 fam)) where
  enters := fun args W => enters_ Tryd.func52 (by kernel_rfl) rfl args W
  keeps := fun W W' h hb => ⟨(hb.block G h.1.lt).trans h.1, (hb.block F h.2.lt).trans h.2⟩
  says := by
    intro a r1 r2 r3 r4 r5 r6 r7 r8 r9 r10 A7 c7 W hrow hC hc7 hI
    have hp : pSize fam sig a = ((sig != 0) && (r2 == fam) && (r7 == sig)) := by unfold pSize rowOf; rw [hrow]; rfl
    have hcell := hI.1.cell
    rw [hp]
    clear hp hrow
    have hal : ∀ o, (W.alloc o).cell? ⟨G, 0, none⟩ = some (.int .i64 sig) := fun o => (hI.1.alloc o).cell
    have hal2 : ∀ o, (W.alloc o).cell? ⟨F, 0, none⟩ = some (.int .i64 fam) := fun o => (hI.2.alloc o).cell
    refine calls_of_args (args' := #[.agg #[.int .i64 r1, .int .i64 r2, .string r3, .int .i64 r4, .int .i64 r5, .int .i64 r6, .int .i64 r7, .slice A7 r8.length c7, .int .i64 r9, .int .u32 r10], .pointer (some ⟨G, 0, none⟩), .pointer (some ⟨F, 0, none⟩)]) rfl ?_
    by_cases hn : sig = 0
    · subst hn
      go_enter Tryd.func52, Tryd.ntmps52
      go_wp2
      go_ret
      exact ⟨rfl, below_alloc (Below.refl _ _) _⟩
    · have g1 : (sig == 0) = false := by simpa using hn
      have g2 : (sig != 0) = true := by simpa using hn
      by_cases hf : r2 = fam
      · have g3 : (r2 == fam) = true := by simpa using hf
        rw [g2, g3, Bool.true_and, Bool.true_and]
        go_enter Tryd.func52, Tryd.ntmps52
        go_wp2
        go_ret
        exact ⟨rfl, below_alloc (Below.refl _ _) _⟩
      · have g3 : (r2 == fam) = false := by simpa using hf
        rw [g2, g3, Bool.true_and, Bool.false_and]
        go_enter Tryd.func52, Tryd.ntmps52
        go_wp2
        go_ret
        exact ⟨rfl, below_alloc (Below.refl _ _) _⟩
end Go.Proofs.YtjoncjnmhhimhaaDoor.Hand
end

section
/- params.BySize, ByOID, ByName, ByCOSE, ByType. -/
namespace Go.Proofs.YtjoncjnmhhimhaaDoor.Hand
set_option linter.unusedVariables false
set_option linter.unusedSimpArgs false
open Go.RowKit Go.Proofs.YtjoncjnmhhimhaaDoorW.PrintWords Go.Proofs.YtjoncjnmhhimhaaDoorW.PrintLast Go.Proofs.YtjoncjnmhhimhaaDoorW.PrintMore

def params_BySize.f (a0 a1 : Int) : Option (List Int) := some (lst (pSize a0 a1) 25)
set_option maxHeartbeats 4000000 in
set_option maxRecDepth 100000 in
theorem params_BySize.calls (a0 : Int) (a1 : Int) (r : List Int) (w : World) (HLd : LaidOk w) (h : params_BySize.f a0 a1 = some r) :
    Calls Tryd.prog 31 #[.int .i64 a0, .int .i64 a1] w fun e w' => ∃ v0_ : Value, e = .returned (v0_) ∧ Kd.R (Kd.int .i64) 3 w' w.heap.size (fun _ => True) v0_ r ∧ Below w.heap.size w w' := by
  obtain rfl := Option.some.inj h
  clear h
  have HD := Lib.hid HLd
  clear HLd
  go_enter Tryd.func31, Tryd.ntmps31
  go_wp2_with fail
  have b1 : Boxed ((w.alloc (.cells #[.int .i64 a0] 3)).alloc (.cells #[.int .i64 a1] 3)) w.heap.size 3 (.int .i64 a0) := (Boxed.new w 3 (.int .i64 a0)).alloc _
  have b2 : Boxed ((w.alloc (.cells #[.int .i64 a0] 3)).alloc (.cells #[.int .i64 a1] 3)) (w.heap.size + 1) 3 (.int .i64 a1) := by
    have := Boxed.new (w.alloc (.cells #[.int .i64 a0] 3)) 3 (.int .i64 a1)
    simpa using this
  have HB0 : Below w.heap.size w ((w.alloc (.cells #[.int .i64 a0] 3)).alloc (.cells #[.int .i64 a1] 3)) := below_alloc (below_alloc (Below.refl _ _) _) _
  generalize (w.alloc (.cells #[.int .i64 a0] 3)).alloc (.cells #[.int .i64 a1] 3) = W0 at *
  refine (list_any _ _ (pSize a0 a1) _ (size_holds a0 a1 w.heap.size (w.heap.size + 1)) W0 (HD.out.below HB0) ⟨b2, b1⟩).mono ?_
  rintro e w2 ⟨v0, rfl, hR, hB⟩
  obtain ⟨Al, cl, el⟩ := Kd.R_slice hR
  subst el
  have HB2 := Lib.hid (HB0.trans (hB.mono HB0.size))
  have HR2 := Lib.hid (Kd.R_lower hR HB0.size)
  clear hR hB HB0 b1 b2
  go_wp2
  go_ret
  exact ⟨_, rfl, HR2.out, HB2.out⟩
end Go.Proofs.YtjoncjnmhhimhaaDoor.Hand
end

section
/- params.ByName, ByCOSE, ByType. Printed by wip/tools/genfn.py. -/
namespace Go.Proofs.YtjoncjnmhhimhaaDoor.Hand
set_option linter.unusedVariables false
set_option linter.unusedSimpArgs false
open Go.RowKit Go.Proofs.YtjoncjnmhhimhaaDoorW.PrintWords Go.Proofs.YtjoncjnmhhimhaaDoorW.PrintLast Go.Proofs.YtjoncjnmhhimhaaDoorW.PrintMore

def params_ByName.f (a0 : ByteArray) : Option (Int × Int × ByteArray × Int × Int × Int × Int × List Int × Int × Int × Bool) := oneF (pName a0)
set_option maxHeartbeats 4000000 in
set_option maxRecDepth 100000 in
theorem params_ByName.calls (a0 : ByteArray) (r1 : Int) (r2 : Int) (r3 : ByteArray) (r4 : Int) (r5 : Int) (r6 : Int) (r7 : Int) (r8 : List Int) (r9 : Int) (r10 : Int) (r11 : Bool) (w : World) (HLd : LaidOk w) (h : params_ByName.f a0 = some (r1, r2, r3, r4, r5, r6, r7, r8, r9, r10, r11)) :
    Calls Tryd.prog 32 #[.string a0] w fun e w' => ∃ v7_ : Value, e = .returned (.tuple #[.agg #[.int .i64 r1, .int .i64 r2, .string r3, .int .i64 r4, .int .i64 r5, .int .i64 r6, .int .i64 r7, v7_, .int .i64 r9, .int .u32 r10], .bool r11]) ∧ Kd.R (Kd.int .u32) 27 w' w.heap.size (fun _ => True) v7_ r8 ∧ Below w.heap.size w w' := by
  have HD := Lib.hid HLd
  have HH : Hid (oneF (pName a0) = some (r1, r2, r3, r4, r5, r6, r7, r8, r9, r10, r11)) := Lib.hid h
  clear HLd h
  go_enter Tryd.func32, Tryd.ntmps32
  go_wp2_with fail
  have hb1 : Boxed ((w.alloc (.cells #[.string a0] 9)).alloc (.cells #[.int .i64 0, .int .i64 0, .string (⟨#[]⟩ : ByteArray), .int .i64 0, .int .i64 0, .int .i64 0, .int .i64 0, .slice none 0 0, .int .i64 0, .int .u32 0] 37)) w.heap.size 9 (.string a0) := (Boxed.new w 9 (.string a0)).alloc _
  have bx0 : ((w.alloc (.cells #[.string a0] 9)).alloc (.cells #[.int .i64 0, .int .i64 0, .string (⟨#[]⟩ : ByteArray), .int .i64 0, .int .i64 0, .int .i64 0, .int .i64 0, .slice none 0 0, .int .i64 0, .int .u32 0] 37)).heap[w.heap.size + 1]? = some (.cells #[.int .i64 0, .int .i64 0, .string (⟨#[]⟩ : ByteArray), .int .i64 0, .int .i64 0, .int .i64 0, .int .i64 0, .slice none 0 0, .int .i64 0, .int .u32 0] 37 (0, 0)) := by
    have := blk_new (w.alloc (.cells #[.string a0] 9)) (.cells #[.int .i64 0, .int .i64 0, .string (⟨#[]⟩ : ByteArray), .int .i64 0, .int .i64 0, .int .i64 0, .int .i64 0, .slice none 0 0, .int .i64 0, .int .u32 0] 37)
    rw [show (w.alloc (.cells #[.string a0] 9)).heap.size = w.heap.size + 1 by simp] at this
    exact this
  have HB0 : Below w.heap.size w ((w.alloc (.cells #[.string a0] 9)).alloc (.cells #[.int .i64 0, .int .i64 0, .string (⟨#[]⟩ : ByteArray), .int .i64 0, .int .i64 0, .int .i64 0, .int .i64 0, .slice none 0 0, .int .i64 0, .int .u32 0] 37)) := below_alloc (below_alloc (Below.refl _ _) _) _
  generalize (w.alloc (.cells #[.string a0] 9)).alloc (.cells #[.int .i64 0, .int .i64 0, .string (⟨#[]⟩ : ByteArray), .int .i64 0, .int .i64 0, .int .i64 0, .int .i64 0, .slice none 0 0, .int .i64 0, .int .u32 0] 37) = W0 at *
  refine (one_any _ _ (pName a0) _ (name_holds a0 w.heap.size) r1 r2 r3 r4 r5 r6 r7 r8 r9 r10 r11 W0 (HD.out.below HB0) hb1 HH.out).mono ?_
  rintro e w2 ⟨v7, rfl, hR, hB⟩
  obtain ⟨A7, c7, el⟩ := Kd.R_slice hR
  subst el
  have HB2 := Lib.hid (HB0.trans (hB.mono HB0.size))
  have bx2 := blk_below bx0 hB
  have HR2 := Lib.hid (Kd.R_lower hR HB0.size)
  clear hR hB HB0 hb1 bx0
  have hc0 : w2.cell? ⟨w.heap.size + 1, 0, none⟩ = some (.int .i64 0) := (blk_cell bx2 0).trans rfl
  have hc1 : w2.cell? ⟨w.heap.size + 1, 1, none⟩ = some (.int .i64 0) := (blk_cell bx2 1).trans rfl
  have hc2 : w2.cell? ⟨w.heap.size + 1, 2, none⟩ = some (.string (⟨#[]⟩ : ByteArray)) := (blk_cell bx2 2).trans rfl
  have hc3 : w2.cell? ⟨w.heap.size + 1, 3, none⟩ = some (.int .i64 0) := (blk_cell bx2 3).trans rfl
  have hc4 : w2.cell? ⟨w.heap.size + 1, 4, none⟩ = some (.int .i64 0) := (blk_cell bx2 4).trans rfl
  have hc5 : w2.cell? ⟨w.heap.size + 1, 5, none⟩ = some (.int .i64 0) := (blk_cell bx2 5).trans rfl
  have hc6 : w2.cell? ⟨w.heap.size + 1, 6, none⟩ = some (.int .i64 0) := (blk_cell bx2 6).trans rfl
  have hc7 : w2.cell? ⟨w.heap.size + 1, 7, none⟩ = some (.slice none 0 0) := (blk_cell bx2 7).trans rfl
  have hc8 : w2.cell? ⟨w.heap.size + 1, 8, none⟩ = some (.int .i64 0) := (blk_cell bx2 8).trans rfl
  have hc9 : w2.cell? ⟨w.heap.size + 1, 9, none⟩ = some (.int .u32 0) := (blk_cell bx2 9).trans rfl
  have hf0 := blk_frozen bx2 0
  have hf1 := blk_frozen bx2 1
  have hf2 := blk_frozen bx2 2
  have hf3 := blk_frozen bx2 3
  have hf4 := blk_frozen bx2 4
  have hf5 := blk_frozen bx2 5
  have hf6 := blk_frozen bx2 6
  have hf7 := blk_frozen bx2 7
  have hf8 := blk_frozen bx2 8
  have hf9 := blk_frozen bx2 9
  have bx2' := Lib.hid bx2
  clear bx2
  go_wp2
  refine bodyPost_ret (results_ct rfl _ _ (w.heap.size + 1) 37 #[.int .i64 r1, .int .i64 r2, .string r3, .int .i64 r4, .int .i64 r5, .int .i64 r6, .int .i64 r7, .slice A7 r8.length c7, .int .i64 r9, .int .u32 r10] (0, 0) _ rfl (by refine blk_put (cs := #[.int .i64 r1, .int .i64 r2, .string r3, .int .i64 r4, .int .i64 r5, .int .i64 r6, .int .i64 r7, .slice A7 r8.length c7, .int .i64 r9, .int .u32 0]) ?_ 9 _ rfl; refine blk_put (cs := #[.int .i64 r1, .int .i64 r2, .string r3, .int .i64 r4, .int .i64 r5, .int .i64 r6, .int .i64 r7, .slice A7 r8.length c7, .int .i64 0, .int .u32 0]) ?_ 8 _ rfl; refine blk_put (cs := #[.int .i64 r1, .int .i64 r2, .string r3, .int .i64 r4, .int .i64 r5, .int .i64 r6, .int .i64 r7, .slice none 0 0, .int .i64 0, .int .u32 0]) ?_ 7 _ rfl; refine blk_put (cs := #[.int .i64 r1, .int .i64 r2, .string r3, .int .i64 r4, .int .i64 r5, .int .i64 r6, .int .i64 0, .slice none 0 0, .int .i64 0, .int .u32 0]) ?_ 6 _ rfl; refine blk_put (cs := #[.int .i64 r1, .int .i64 r2, .string r3, .int .i64 r4, .int .i64 r5, .int .i64 0, .int .i64 0, .slice none 0 0, .int .i64 0, .int .u32 0]) ?_ 5 _ rfl; refine blk_put (cs := #[.int .i64 r1, .int .i64 r2, .string r3, .int .i64 r4, .int .i64 0, .int .i64 0, .int .i64 0, .slice none 0 0, .int .i64 0, .int .u32 0]) ?_ 4 _ rfl; refine blk_put (cs := #[.int .i64 r1, .int .i64 r2, .string r3, .int .i64 0, .int .i64 0, .int .i64 0, .int .i64 0, .slice none 0 0, .int .i64 0, .int .u32 0]) ?_ 3 _ rfl; refine blk_put (cs := #[.int .i64 r1, .int .i64 r2, .string (⟨#[]⟩ : ByteArray), .int .i64 0, .int .i64 0, .int .i64 0, .int .i64 0, .slice none 0 0, .int .i64 0, .int .u32 0]) ?_ 2 _ rfl; refine blk_put (cs := #[.int .i64 r1, .int .i64 0, .string (⟨#[]⟩ : ByteArray), .int .i64 0, .int .i64 0, .int .i64 0, .int .i64 0, .slice none 0 0, .int .i64 0, .int .u32 0]) ?_ 1 _ rfl; refine blk_put (cs := #[.int .i64 0, .int .i64 0, .string (⟨#[]⟩ : ByteArray), .int .i64 0, .int .i64 0, .int .i64 0, .int .i64 0, .slice none 0 0, .int .i64 0, .int .u32 0]) ?_ 0 _ rfl; exact bx2'.out) Tryd.underlying37 rfl (by kernel_rfl)) rfl ?_
  exact ⟨_, rfl, Kd.R_mono (Kd.R_far (p := ⟨(w.heap.size + 1), 9, none⟩) (Kd.R_far (p := ⟨(w.heap.size + 1), 8, none⟩) (Kd.R_far (p := ⟨(w.heap.size + 1), 7, none⟩) (Kd.R_far (p := ⟨(w.heap.size + 1), 6, none⟩) (Kd.R_far (p := ⟨(w.heap.size + 1), 5, none⟩) (Kd.R_far (p := ⟨(w.heap.size + 1), 4, none⟩) (Kd.R_far (p := ⟨(w.heap.size + 1), 3, none⟩) (Kd.R_far (p := ⟨(w.heap.size + 1), 2, none⟩) (Kd.R_far (p := ⟨(w.heap.size + 1), 1, none⟩) (Kd.R_far (p := ⟨(w.heap.size + 1), 0, none⟩) (Kd.R_types HR2.out bx2'.out (by decide)) (fun _ hk => hk.2) (.int .i64 r1)) (fun _ hk => hk.2) (.int .i64 r2)) (fun _ hk => hk.2) (.string r3)) (fun _ hk => hk.2) (.int .i64 r4)) (fun _ hk => hk.2) (.int .i64 r5)) (fun _ hk => hk.2) (.int .i64 r6)) (fun _ hk => hk.2) (.int .i64 r7)) (fun _ hk => hk.2) (.slice A7 r8.length c7)) (fun _ hk => hk.2) (.int .i64 r9)) (fun _ hk => hk.2) (.int .u32 r10)) (fun _ _ => trivial), (below_set (below_set (below_set (below_set (below_set (below_set (below_set (below_set (below_set (below_set HB2.out (Nat.le_succ _)) (Nat.le_succ _)) (Nat.le_succ _)) (Nat.le_succ _)) (Nat.le_succ _)) (Nat.le_succ _)) (Nat.le_succ _)) (Nat.le_succ _)) (Nat.le_succ _)) (Nat.le_succ _))⟩
def params_ByCOSE.f (a0 : Int) : Option (Int × Int × ByteArray × Int × Int × Int × Int × List Int × Int × Int × Bool) := oneF (pCose a0)
set_option maxHeartbeats 4000000 in
set_option maxRecDepth 100000 in
theorem params_ByCOSE.calls (a0 : Int) (r1 : Int) (r2 : Int) (r3 : ByteArray) (r4 : Int) (r5 : Int) (r6 : Int) (r7 : Int) (r8 : List Int) (r9 : Int) (r10 : Int) (r11 : Bool) (w : World) (HLd : LaidOk w) (h : params_ByCOSE.f a0 = some (r1, r2, r3, r4, r5, r6, r7, r8, r9, r10, r11)) :
    Calls Tryd.prog 33 #[.int .i64 a0] w fun e w' => ∃ v7_ : Value, e = .returned (.tuple #[.agg #[.int .i64 r1, .int .i64 r2, .string r3, .int .i64 r4, .int .i64 r5, .int .i64 r6, .int .i64 r7, v7_, .int .i64 r9, .int .u32 r10], .bool r11]) ∧ Kd.R (Kd.int .u32) 27 w' w.heap.size (fun _ => True) v7_ r8 ∧ Below w.heap.size w w' := by
  have HD := Lib.hid HLd
  have HH : Hid (oneF (pCose a0) = some (r1, r2, r3, r4, r5, r6, r7, r8, r9, r10, r11)) := Lib.hid h
  clear HLd h
  go_enter Tryd.func33, Tryd.ntmps33
  go_wp2_with fail
  have hb1 : Boxed ((w.alloc (.cells #[.int .i64 a0] 2)).alloc (.cells #[.int .i64 0, .int .i64 0, .string (⟨#[]⟩ : ByteArray), .int .i64 0, .int .i64 0, .int .i64 0, .int .i64 0, .slice none 0 0, .int .i64 0, .int .u32 0] 37)) w.heap.size 2 (.int .i64 a0) := (Boxed.new w 2 (.int .i64 a0)).alloc _
  have bx0 : ((w.alloc (.cells #[.int .i64 a0] 2)).alloc (.cells #[.int .i64 0, .int .i64 0, .string (⟨#[]⟩ : ByteArray), .int .i64 0, .int .i64 0, .int .i64 0, .int .i64 0, .slice none 0 0, .int .i64 0, .int .u32 0] 37)).heap[w.heap.size + 1]? = some (.cells #[.int .i64 0, .int .i64 0, .string (⟨#[]⟩ : ByteArray), .int .i64 0, .int .i64 0, .int .i64 0, .int .i64 0, .slice none 0 0, .int .i64 0, .int .u32 0] 37 (0, 0)) := by
    have := blk_new (w.alloc (.cells #[.int .i64 a0] 2)) (.cells #[.int .i64 0, .int .i64 0, .string (⟨#[]⟩ : ByteArray), .int .i64 0, .int .i64 0, .int .i64 0, .int .i64 0, .slice none 0 0, .int .i64 0, .int .u32 0] 37)
    rw [show (w.alloc (.cells #[.int .i64 a0] 2)).heap.size = w.heap.size + 1 by simp] at this
    exact this
  have HB0 : Below w.heap.size w ((w.alloc (.cells #[.int .i64 a0] 2)).alloc (.cells #[.int .i64 0, .int .i64 0, .string (⟨#[]⟩ : ByteArray), .int .i64 0, .int .i64 0, .int .i64 0, .int .i64 0, .slice none 0 0, .int .i64 0, .int .u32 0] 37)) := below_alloc (below_alloc (Below.refl _ _) _) _
  generalize (w.alloc (.cells #[.int .i64 a0] 2)).alloc (.cells #[.int .i64 0, .int .i64 0, .string (⟨#[]⟩ : ByteArray), .int .i64 0, .int .i64 0, .int .i64 0, .int .i64 0, .slice none 0 0, .int .i64 0, .int .u32 0] 37) = W0 at *
  refine (one_any _ _ (pCose a0) _ (cose_holds a0 w.heap.size) r1 r2 r3 r4 r5 r6 r7 r8 r9 r10 r11 W0 (HD.out.below HB0) hb1 HH.out).mono ?_
  rintro e w2 ⟨v7, rfl, hR, hB⟩
  obtain ⟨A7, c7, el⟩ := Kd.R_slice hR
  subst el
  have HB2 := Lib.hid (HB0.trans (hB.mono HB0.size))
  have bx2 := blk_below bx0 hB
  have HR2 := Lib.hid (Kd.R_lower hR HB0.size)
  clear hR hB HB0 hb1 bx0
  have hc0 : w2.cell? ⟨w.heap.size + 1, 0, none⟩ = some (.int .i64 0) := (blk_cell bx2 0).trans rfl
  have hc1 : w2.cell? ⟨w.heap.size + 1, 1, none⟩ = some (.int .i64 0) := (blk_cell bx2 1).trans rfl
  have hc2 : w2.cell? ⟨w.heap.size + 1, 2, none⟩ = some (.string (⟨#[]⟩ : ByteArray)) := (blk_cell bx2 2).trans rfl
  have hc3 : w2.cell? ⟨w.heap.size + 1, 3, none⟩ = some (.int .i64 0) := (blk_cell bx2 3).trans rfl
  have hc4 : w2.cell? ⟨w.heap.size + 1, 4, none⟩ = some (.int .i64 0) := (blk_cell bx2 4).trans rfl
  have hc5 : w2.cell? ⟨w.heap.size + 1, 5, none⟩ = some (.int .i64 0) := (blk_cell bx2 5).trans rfl
  have hc6 : w2.cell? ⟨w.heap.size + 1, 6, none⟩ = some (.int .i64 0) := (blk_cell bx2 6).trans rfl
  have hc7 : w2.cell? ⟨w.heap.size + 1, 7, none⟩ = some (.slice none 0 0) := (blk_cell bx2 7).trans rfl
  have hc8 : w2.cell? ⟨w.heap.size + 1, 8, none⟩ = some (.int .i64 0) := (blk_cell bx2 8).trans rfl
  have hc9 : w2.cell? ⟨w.heap.size + 1, 9, none⟩ = some (.int .u32 0) := (blk_cell bx2 9).trans rfl
  have hf0 := blk_frozen bx2 0
  have hf1 := blk_frozen bx2 1
  have hf2 := blk_frozen bx2 2
  have hf3 := blk_frozen bx2 3
  have hf4 := blk_frozen bx2 4
  have hf5 := blk_frozen bx2 5
  have hf6 := blk_frozen bx2 6
  have hf7 := blk_frozen bx2 7
  have hf8 := blk_frozen bx2 8
  have hf9 := blk_frozen bx2 9
  have bx2' := Lib.hid bx2
  clear bx2
  go_wp2
  refine bodyPost_ret (results_ct rfl _ _ (w.heap.size + 1) 37 #[.int .i64 r1, .int .i64 r2, .string r3, .int .i64 r4, .int .i64 r5, .int .i64 r6, .int .i64 r7, .slice A7 r8.length c7, .int .i64 r9, .int .u32 r10] (0, 0) _ rfl (by refine blk_put (cs := #[.int .i64 r1, .int .i64 r2, .string r3, .int .i64 r4, .int .i64 r5, .int .i64 r6, .int .i64 r7, .slice A7 r8.length c7, .int .i64 r9, .int .u32 0]) ?_ 9 _ rfl; refine blk_put (cs := #[.int .i64 r1, .int .i64 r2, .string r3, .int .i64 r4, .int .i64 r5, .int .i64 r6, .int .i64 r7, .slice A7 r8.length c7, .int .i64 0, .int .u32 0]) ?_ 8 _ rfl; refine blk_put (cs := #[.int .i64 r1, .int .i64 r2, .string r3, .int .i64 r4, .int .i64 r5, .int .i64 r6, .int .i64 r7, .slice none 0 0, .int .i64 0, .int .u32 0]) ?_ 7 _ rfl; refine blk_put (cs := #[.int .i64 r1, .int .i64 r2, .string r3, .int .i64 r4, .int .i64 r5, .int .i64 r6, .int .i64 0, .slice none 0 0, .int .i64 0, .int .u32 0]) ?_ 6 _ rfl; refine blk_put (cs := #[.int .i64 r1, .int .i64 r2, .string r3, .int .i64 r4, .int .i64 r5, .int .i64 0, .int .i64 0, .slice none 0 0, .int .i64 0, .int .u32 0]) ?_ 5 _ rfl; refine blk_put (cs := #[.int .i64 r1, .int .i64 r2, .string r3, .int .i64 r4, .int .i64 0, .int .i64 0, .int .i64 0, .slice none 0 0, .int .i64 0, .int .u32 0]) ?_ 4 _ rfl; refine blk_put (cs := #[.int .i64 r1, .int .i64 r2, .string r3, .int .i64 0, .int .i64 0, .int .i64 0, .int .i64 0, .slice none 0 0, .int .i64 0, .int .u32 0]) ?_ 3 _ rfl; refine blk_put (cs := #[.int .i64 r1, .int .i64 r2, .string (⟨#[]⟩ : ByteArray), .int .i64 0, .int .i64 0, .int .i64 0, .int .i64 0, .slice none 0 0, .int .i64 0, .int .u32 0]) ?_ 2 _ rfl; refine blk_put (cs := #[.int .i64 r1, .int .i64 0, .string (⟨#[]⟩ : ByteArray), .int .i64 0, .int .i64 0, .int .i64 0, .int .i64 0, .slice none 0 0, .int .i64 0, .int .u32 0]) ?_ 1 _ rfl; refine blk_put (cs := #[.int .i64 0, .int .i64 0, .string (⟨#[]⟩ : ByteArray), .int .i64 0, .int .i64 0, .int .i64 0, .int .i64 0, .slice none 0 0, .int .i64 0, .int .u32 0]) ?_ 0 _ rfl; exact bx2'.out) Tryd.underlying37 rfl (by kernel_rfl)) rfl ?_
  exact ⟨_, rfl, Kd.R_mono (Kd.R_far (p := ⟨(w.heap.size + 1), 9, none⟩) (Kd.R_far (p := ⟨(w.heap.size + 1), 8, none⟩) (Kd.R_far (p := ⟨(w.heap.size + 1), 7, none⟩) (Kd.R_far (p := ⟨(w.heap.size + 1), 6, none⟩) (Kd.R_far (p := ⟨(w.heap.size + 1), 5, none⟩) (Kd.R_far (p := ⟨(w.heap.size + 1), 4, none⟩) (Kd.R_far (p := ⟨(w.heap.size + 1), 3, none⟩) (Kd.R_far (p := ⟨(w.heap.size + 1), 2, none⟩) (Kd.R_far (p := ⟨(w.heap.size + 1), 1, none⟩) (Kd.R_far (p := ⟨(w.heap.size + 1), 0, none⟩) (Kd.R_types HR2.out bx2'.out (by decide)) (fun _ hk => hk.2) (.int .i64 r1)) (fun _ hk => hk.2) (.int .i64 r2)) (fun _ hk => hk.2) (.string r3)) (fun _ hk => hk.2) (.int .i64 r4)) (fun _ hk => hk.2) (.int .i64 r5)) (fun _ hk => hk.2) (.int .i64 r6)) (fun _ hk => hk.2) (.int .i64 r7)) (fun _ hk => hk.2) (.slice A7 r8.length c7)) (fun _ hk => hk.2) (.int .i64 r9)) (fun _ hk => hk.2) (.int .u32 r10)) (fun _ _ => trivial), (below_set (below_set (below_set (below_set (below_set (below_set (below_set (below_set (below_set (below_set HB2.out (Nat.le_succ _)) (Nat.le_succ _)) (Nat.le_succ _)) (Nat.le_succ _)) (Nat.le_succ _)) (Nat.le_succ _)) (Nat.le_succ _)) (Nat.le_succ _)) (Nat.le_succ _)) (Nat.le_succ _))⟩
def params_ByType.f (a0 : Int) : Option (Int × Int × ByteArray × Int × Int × Int × Int × List Int × Int × Int × Bool) := oneF (pType a0)
set_option maxHeartbeats 4000000 in
set_option maxRecDepth 100000 in
theorem params_ByType.calls (a0 : Int) (r1 : Int) (r2 : Int) (r3 : ByteArray) (r4 : Int) (r5 : Int) (r6 : Int) (r7 : Int) (r8 : List Int) (r9 : Int) (r10 : Int) (r11 : Bool) (w : World) (HLd : LaidOk w) (h : params_ByType.f a0 = some (r1, r2, r3, r4, r5, r6, r7, r8, r9, r10, r11)) :
    Calls Tryd.prog 34 #[.int .u32 a0] w fun e w' => ∃ v7_ : Value, e = .returned (.tuple #[.agg #[.int .i64 r1, .int .i64 r2, .string r3, .int .i64 r4, .int .i64 r5, .int .i64 r6, .int .i64 r7, v7_, .int .i64 r9, .int .u32 r10], .bool r11]) ∧ Kd.R (Kd.int .u32) 27 w' w.heap.size (fun _ => True) v7_ r8 ∧ Below w.heap.size w w' := by
  have HD := Lib.hid HLd
  have HH : Hid (oneF (pType a0) = some (r1, r2, r3, r4, r5, r6, r7, r8, r9, r10, r11)) := Lib.hid h
  clear HLd h
  go_enter Tryd.func34, Tryd.ntmps34
  go_wp2_with fail
  have hb1 : Boxed ((w.alloc (.cells #[.int .u32 a0] 27)).alloc (.cells #[.int .i64 0, .int .i64 0, .string (⟨#[]⟩ : ByteArray), .int .i64 0, .int .i64 0, .int .i64 0, .int .i64 0, .slice none 0 0, .int .i64 0, .int .u32 0] 37)) w.heap.size 27 (.int .u32 a0) := (Boxed.new w 27 (.int .u32 a0)).alloc _
  have bx0 : ((w.alloc (.cells #[.int .u32 a0] 27)).alloc (.cells #[.int .i64 0, .int .i64 0, .string (⟨#[]⟩ : ByteArray), .int .i64 0, .int .i64 0, .int .i64 0, .int .i64 0, .slice none 0 0, .int .i64 0, .int .u32 0] 37)).heap[w.heap.size + 1]? = some (.cells #[.int .i64 0, .int .i64 0, .string (⟨#[]⟩ : ByteArray), .int .i64 0, .int .i64 0, .int .i64 0, .int .i64 0, .slice none 0 0, .int .i64 0, .int .u32 0] 37 (0, 0)) := by
    have := blk_new (w.alloc (.cells #[.int .u32 a0] 27)) (.cells #[.int .i64 0, .int .i64 0, .string (⟨#[]⟩ : ByteArray), .int .i64 0, .int .i64 0, .int .i64 0, .int .i64 0, .slice none 0 0, .int .i64 0, .int .u32 0] 37)
    rw [show (w.alloc (.cells #[.int .u32 a0] 27)).heap.size = w.heap.size + 1 by simp] at this
    exact this
  have HB0 : Below w.heap.size w ((w.alloc (.cells #[.int .u32 a0] 27)).alloc (.cells #[.int .i64 0, .int .i64 0, .string (⟨#[]⟩ : ByteArray), .int .i64 0, .int .i64 0, .int .i64 0, .int .i64 0, .slice none 0 0, .int .i64 0, .int .u32 0] 37)) := below_alloc (below_alloc (Below.refl _ _) _) _
  generalize (w.alloc (.cells #[.int .u32 a0] 27)).alloc (.cells #[.int .i64 0, .int .i64 0, .string (⟨#[]⟩ : ByteArray), .int .i64 0, .int .i64 0, .int .i64 0, .int .i64 0, .slice none 0 0, .int .i64 0, .int .u32 0] 37) = W0 at *
  refine (one_any _ _ (pType a0) _ (type_holds a0 w.heap.size) r1 r2 r3 r4 r5 r6 r7 r8 r9 r10 r11 W0 (HD.out.below HB0) hb1 HH.out).mono ?_
  rintro e w2 ⟨v7, rfl, hR, hB⟩
  obtain ⟨A7, c7, el⟩ := Kd.R_slice hR
  subst el
  have HB2 := Lib.hid (HB0.trans (hB.mono HB0.size))
  have bx2 := blk_below bx0 hB
  have HR2 := Lib.hid (Kd.R_lower hR HB0.size)
  clear hR hB HB0 hb1 bx0
  have hc0 : w2.cell? ⟨w.heap.size + 1, 0, none⟩ = some (.int .i64 0) := (blk_cell bx2 0).trans rfl
  have hc1 : w2.cell? ⟨w.heap.size + 1, 1, none⟩ = some (.int .i64 0) := (blk_cell bx2 1).trans rfl
  have hc2 : w2.cell? ⟨w.heap.size + 1, 2, none⟩ = some (.string (⟨#[]⟩ : ByteArray)) := (blk_cell bx2 2).trans rfl
  have hc3 : w2.cell? ⟨w.heap.size + 1, 3, none⟩ = some (.int .i64 0) := (blk_cell bx2 3).trans rfl
  have hc4 : w2.cell? ⟨w.heap.size + 1, 4, none⟩ = some (.int .i64 0) := (blk_cell bx2 4).trans rfl
  have hc5 : w2.cell? ⟨w.heap.size + 1, 5, none⟩ = some (.int .i64 0) := (blk_cell bx2 5).trans rfl
  have hc6 : w2.cell? ⟨w.heap.size + 1, 6, none⟩ = some (.int .i64 0) := (blk_cell bx2 6).trans rfl
  have hc7 : w2.cell? ⟨w.heap.size + 1, 7, none⟩ = some (.slice none 0 0) := (blk_cell bx2 7).trans rfl
  have hc8 : w2.cell? ⟨w.heap.size + 1, 8, none⟩ = some (.int .i64 0) := (blk_cell bx2 8).trans rfl
  have hc9 : w2.cell? ⟨w.heap.size + 1, 9, none⟩ = some (.int .u32 0) := (blk_cell bx2 9).trans rfl
  have hf0 := blk_frozen bx2 0
  have hf1 := blk_frozen bx2 1
  have hf2 := blk_frozen bx2 2
  have hf3 := blk_frozen bx2 3
  have hf4 := blk_frozen bx2 4
  have hf5 := blk_frozen bx2 5
  have hf6 := blk_frozen bx2 6
  have hf7 := blk_frozen bx2 7
  have hf8 := blk_frozen bx2 8
  have hf9 := blk_frozen bx2 9
  have bx2' := Lib.hid bx2
  clear bx2
  go_wp2
  refine bodyPost_ret (results_ct rfl _ _ (w.heap.size + 1) 37 #[.int .i64 r1, .int .i64 r2, .string r3, .int .i64 r4, .int .i64 r5, .int .i64 r6, .int .i64 r7, .slice A7 r8.length c7, .int .i64 r9, .int .u32 r10] (0, 0) _ rfl (by refine blk_put (cs := #[.int .i64 r1, .int .i64 r2, .string r3, .int .i64 r4, .int .i64 r5, .int .i64 r6, .int .i64 r7, .slice A7 r8.length c7, .int .i64 r9, .int .u32 0]) ?_ 9 _ rfl; refine blk_put (cs := #[.int .i64 r1, .int .i64 r2, .string r3, .int .i64 r4, .int .i64 r5, .int .i64 r6, .int .i64 r7, .slice A7 r8.length c7, .int .i64 0, .int .u32 0]) ?_ 8 _ rfl; refine blk_put (cs := #[.int .i64 r1, .int .i64 r2, .string r3, .int .i64 r4, .int .i64 r5, .int .i64 r6, .int .i64 r7, .slice none 0 0, .int .i64 0, .int .u32 0]) ?_ 7 _ rfl; refine blk_put (cs := #[.int .i64 r1, .int .i64 r2, .string r3, .int .i64 r4, .int .i64 r5, .int .i64 r6, .int .i64 0, .slice none 0 0, .int .i64 0, .int .u32 0]) ?_ 6 _ rfl; refine blk_put (cs := #[.int .i64 r1, .int .i64 r2, .string r3, .int .i64 r4, .int .i64 r5, .int .i64 0, .int .i64 0, .slice none 0 0, .int .i64 0, .int .u32 0]) ?_ 5 _ rfl; refine blk_put (cs := #[.int .i64 r1, .int .i64 r2, .string r3, .int .i64 r4, .int .i64 0, .int .i64 0, .int .i64 0, .slice none 0 0, .int .i64 0, .int .u32 0]) ?_ 4 _ rfl; refine blk_put (cs := #[.int .i64 r1, .int .i64 r2, .string r3, .int .i64 0, .int .i64 0, .int .i64 0, .int .i64 0, .slice none 0 0, .int .i64 0, .int .u32 0]) ?_ 3 _ rfl; refine blk_put (cs := #[.int .i64 r1, .int .i64 r2, .string (⟨#[]⟩ : ByteArray), .int .i64 0, .int .i64 0, .int .i64 0, .int .i64 0, .slice none 0 0, .int .i64 0, .int .u32 0]) ?_ 2 _ rfl; refine blk_put (cs := #[.int .i64 r1, .int .i64 0, .string (⟨#[]⟩ : ByteArray), .int .i64 0, .int .i64 0, .int .i64 0, .int .i64 0, .slice none 0 0, .int .i64 0, .int .u32 0]) ?_ 1 _ rfl; refine blk_put (cs := #[.int .i64 0, .int .i64 0, .string (⟨#[]⟩ : ByteArray), .int .i64 0, .int .i64 0, .int .i64 0, .int .i64 0, .slice none 0 0, .int .i64 0, .int .u32 0]) ?_ 0 _ rfl; exact bx2'.out) Tryd.underlying37 rfl (by kernel_rfl)) rfl ?_
  exact ⟨_, rfl, Kd.R_mono (Kd.R_far (p := ⟨(w.heap.size + 1), 9, none⟩) (Kd.R_far (p := ⟨(w.heap.size + 1), 8, none⟩) (Kd.R_far (p := ⟨(w.heap.size + 1), 7, none⟩) (Kd.R_far (p := ⟨(w.heap.size + 1), 6, none⟩) (Kd.R_far (p := ⟨(w.heap.size + 1), 5, none⟩) (Kd.R_far (p := ⟨(w.heap.size + 1), 4, none⟩) (Kd.R_far (p := ⟨(w.heap.size + 1), 3, none⟩) (Kd.R_far (p := ⟨(w.heap.size + 1), 2, none⟩) (Kd.R_far (p := ⟨(w.heap.size + 1), 1, none⟩) (Kd.R_far (p := ⟨(w.heap.size + 1), 0, none⟩) (Kd.R_types HR2.out bx2'.out (by decide)) (fun _ hk => hk.2) (.int .i64 r1)) (fun _ hk => hk.2) (.int .i64 r2)) (fun _ hk => hk.2) (.string r3)) (fun _ hk => hk.2) (.int .i64 r4)) (fun _ hk => hk.2) (.int .i64 r5)) (fun _ hk => hk.2) (.int .i64 r6)) (fun _ hk => hk.2) (.int .i64 r7)) (fun _ hk => hk.2) (.slice A7 r8.length c7)) (fun _ hk => hk.2) (.int .i64 r9)) (fun _ hk => hk.2) (.int .u32 r10)) (fun _ _ => trivial), (below_set (below_set (below_set (below_set (below_set (below_set (below_set (below_set (below_set (below_set HB2.out (Nat.le_succ _)) (Nat.le_succ _)) (Nat.le_succ _)) (Nat.le_succ _)) (Nat.le_succ _)) (Nat.le_succ _)) (Nat.le_succ _)) (Nat.le_succ _)) (Nat.le_succ _)) (Nat.le_succ _))⟩

end Go.Proofs.YtjoncjnmhhimhaaDoor.Hand
end

section
/- params.ByOID: the closure, whose captured variable is a slice, and the function. -/
namespace Go.Proofs.YtjoncjnmhhimhaaDoor.Hand
set_option linter.unusedVariables false
set_option linter.unusedSimpArgs false
open Go.RowKit Go.Proofs.YtjoncjnmhhimhaaDoorW.PrintWords Go.Proofs.YtjoncjnmhhimhaaDoorW.PrintLast Go.Proofs.YtjoncjnmhhimhaaDoorW.PrintMore

def pOid (l : List Int) (a : Int) : Bool := decide ((rowOf a).2.2.2.2.2.2.2.1 = l)
set_option maxHeartbeats 4000000 in
set_option maxRecDepth 100000 in
theorem oid_holds (A1 : Option Addr) (c1 : Nat) (l1 : List Int) (hc1 : l1.length ≤ c1) (G : Nat) : Holds 51 #[.pointer (some ⟨G, 0, none⟩)] (pOid l1) (fun W => Boxed W G 23 (.slice A1 l1.length c1) ∧ Kd.C (Kd.int .u32) W A1 l1.length l1) where
  enters := fun args W => enters_ Tryd.func51 (by kernel_rfl) rfl args W
  keeps := fun W W' h hb => ⟨(hb.block G h.1.lt).trans h.1, Kd.C_below h.2 hb⟩
  says := by
    intro a r1 r2 r3 r4 r5 r6 r7 r8 r9 r10 A7 c7 W hrow hC hc7 hI
    have hp : pOid l1 a = decide (r8 = l1) := by unfold pOid rowOf; rw [hrow]; rfl
    have hcell := hI.1.cell
    rw [hp]
    clear hp hrow
    obtain ⟨b, hb⟩ : ∃ b, b = decide (r8 = l1) := ⟨_, rfl⟩
    have HQ := Lib.hid (fun W (h0 : Kd.C (Kd.int .u32) W A7 r8.length r8) (h1 : Kd.C (Kd.int .u32) W A1 l1.length l1) => slices_Equal_uint32_uint32.calls A7 c7 r8 A1 c1 l1 b W h0 hc7 h1 hc1 (by unfold slices_Equal_uint32_uint32.f; rw [hb]))
    rw [← hb]
    have HC := Lib.hid hC
    have HI := Lib.hid hI
    clear hb hC
    have hal : ∀ o, (W.alloc o).cell? ⟨G, 0, none⟩ = some (.slice A1 l1.length c1) := fun o => (hI.1.alloc o).cell
    clear hI
    refine calls_of_args (args' := #[.agg #[.int .i64 r1, .int .i64 r2, .string r3, .int .i64 r4, .int .i64 r5, .int .i64 r6, .int .i64 r7, .slice A7 r8.length c7, .int .i64 r9, .int .u32 r10], .pointer (some ⟨G, 0, none⟩)]) rfl ?_
    go_enter Tryd.func51, Tryd.ntmps51
    go_wp2_with fail
    refine (HQ.out _ (Kd.C_alloc HC.out _) (Kd.C_alloc HI.out.2 _)).mono ?_
    rintro e w2 ⟨rfl, ⟨nd, rfl⟩⟩
    go_wp2
    go_ret
    exact ⟨rfl, pw_below_drewN (below_alloc (Below.refl _ _) _) nd⟩

def params_ByOID.f (l0 : List Int) : Option (List Int) := some (lst (pOid l0) 25)
set_option maxHeartbeats 4000000 in
set_option maxRecDepth 100000 in
theorem params_ByOID.calls (A0 : Option Addr) (c0 : Nat) (l0 : List Int) (r : List Int) (w : World) (HLd : LaidOk w) (hr0 : Kd.C (Kd.int .u32) w A0 l0.length l0) (hc0 : l0.length ≤ c0) (h : params_ByOID.f l0 = some r) :
    Calls Tryd.prog 30 #[.slice A0 l0.length c0] w fun e w' => ∃ v0_ : Value, e = .returned (v0_) ∧ Kd.R (Kd.int .i64) 3 w' w.heap.size (fun _ => True) v0_ r ∧ Below w.heap.size w w' := by
  obtain rfl := Option.some.inj h
  clear h
  have HD := Lib.hid HLd
  have HR := Lib.hid hr0
  clear HLd hr0
  go_enter Tryd.func30, Tryd.ntmps30
  go_wp2_with fail
  have b1 : Boxed (w.alloc (.cells #[.slice A0 l0.length c0] 23)) w.heap.size 23 (.slice A0 l0.length c0) := Boxed.new w 23 (.slice A0 l0.length c0)
  have HB0 : Below w.heap.size w (w.alloc (.cells #[.slice A0 l0.length c0] 23)) := below_alloc (Below.refl _ _) _
  have HC0 := Kd.C_alloc HR.out (.cells #[.slice A0 l0.length c0] 23)
  generalize w.alloc (.cells #[.slice A0 l0.length c0] 23) = W0 at *
  refine (list_any _ _ (pOid l0) _ (oid_holds A0 c0 l0 hc0 w.heap.size) W0 (HD.out.below HB0) ⟨b1, HC0⟩).mono ?_
  rintro e w2 ⟨v0, rfl, hR, hB⟩
  obtain ⟨Al, cl, el⟩ := Kd.R_slice hR
  subst el
  have HB2 := Lib.hid (HB0.trans (hB.mono HB0.size))
  have HR2 := Lib.hid (Kd.R_lower hR HB0.size)
  clear hR hB HB0 b1 HC0
  go_wp2
  go_ret
  exact ⟨_, rfl, HR2.out, HB2.out⟩
end Go.Proofs.YtjoncjnmhhimhaaDoor.Hand
end

section
/- pyxlaw13.awake returns true: the one path that the fixed examples take. -/
namespace Go.Proofs.YtjoncjnmhhimhaaDoor.Hand
set_option linter.unusedVariables false
set_option linter.unusedSimpArgs false
open Go.RowKit Go.Proofs.YtjoncjnmhhimhaaDoorW.PrintWords Go.Proofs.YtjoncjnmhhimhaaDoorW.PrintLast Go.Proofs.YtjoncjnmhhimhaaDoorW.PrintMore

def pyxlaw13_awake.f : Option Bool := some true
theorem aw_get5 : params_Get.f 5 = some (5, 2, ⟨#[77, 76, 45, 68, 83, 65, 45, 54, 53]⟩, 1952, 4032, 32, 3309, [2, 16, 840, 1, 101, 3, 4, 3, 18], -49, 0, true) := by kernel_rfl
theorem aw_get26 : params_Get.f 26 = some parNone := by kernel_rfl
theorem aw_name : params_ByName.f ⟨#[77, 76, 45, 68, 83, 65, 45, 54, 53]⟩ = some (5, 2, ⟨#[77, 76, 45, 68, 83, 65, 45, 54, 53]⟩, 1952, 4032, 32, 3309, [2, 16, 840, 1, 101, 3, 4, 3, 18], -49, 0, true) := by kernel_rfl
theorem aw_size : params_BySize.f 2 3309 = some [5] := by kernel_rfl
theorem aw_oid : params_ByOID.f [] = some [] := by kernel_rfl
set_option maxHeartbeats 4000000 in
set_option maxRecDepth 100000 in
theorem pyxlaw13_awake.calls (r : Bool) (w : World) (HLd : LaidOk w) (h : pyxlaw13_awake.f = some r) :
    Calls Tryd.prog 24 #[] w fun e w' => e = .returned (.bool r) ∧ Below w.heap.size w w' := by
  obtain rfl := Option.some.inj h
  clear h
  have HD := Lib.hid HLd
  clear HLd
  go_enter Tryd.func24, Tryd.ntmps24
  go_wp2_with fail
  refine (params_Get.calls 5 _ _ _ _ _ _ _ _ _ _ _ _ HD.out aw_get5).mono ?_
  rintro e w1 ⟨v1, rfl, hR1, hB1⟩
  obtain ⟨A1, c1, e1⟩ := Kd.R_slice hR1
  subst e1
  have HB1 := Lib.hid hB1
  clear hB1 hR1
  go_wp2_with fail
  refine (params_Get.calls 26 _ _ _ _ _ _ _ _ _ _ _ _ (HD.out.below (by repeat (first | exact HB1.out | apply below_alloc | apply pw_below_drewN | apply below_drew1))) aw_get26).mono ?_
  rintro e w2 ⟨v2, rfl, hR2, hB2⟩
  have bs2 := blk_below (blk_new w1 _) hB2
  have HB2 := Lib.hid ((below_alloc HB1.out _).trans (hB2.mono (below_alloc HB1.out _).size))
  have BS2 := Lib.hid bs2
  obtain ⟨A2, c2, e2⟩ := Kd.R_slice hR2
  subst e2
  clear hB2 hR2 bs2
  go_wp2_with fail
  refine (params_ByName.calls _ _ _ _ _ _ _ _ _ _ _ _ _ (HD.out.below (by repeat (first | exact HB2.out | apply below_alloc | apply pw_below_drewN | apply below_drew1))) aw_name).mono ?_
  rintro e w3 ⟨v3, rfl, hR3, hB3⟩
  obtain ⟨A3, c3, e3⟩ := Kd.R_slice hR3
  subst e3
  have bs3 := blk_below (blk_alloc BS2.out _) hB3
  have HB3 := Lib.hid ((below_alloc HB2.out _).trans (hB3.mono (below_alloc HB2.out _).size))
  have bn3 := blk_new w3 (.cells #[.int .i64 5, .int .i64 2, .string ⟨#[77, 76, 45, 68, 83, 65, 45, 54, 53]⟩, .int .i64 1952, .int .i64 4032, .int .i64 32, .int .i64 3309, .slice A3 9 c3, .int .i64 (-49), .int .u32 0] 37)
  have bs3' := blk_alloc bs3 (.cells #[.int .i64 5, .int .i64 2, .string ⟨#[77, 76, 45, 68, 83, 65, 45, 54, 53]⟩, .int .i64 1952, .int .i64 4032, .int .i64 32, .int .i64 3309, .slice A3 9 c3, .int .i64 (-49), .int .u32 0] 37)
  have hc : ∀ k, _ := fun k => blk_cell bs3' k
  have hn : ∀ k, _ := fun k => blk_cell bn3 k
  have x2 := hc 2
  have x3 := hc 3
  have x4 := hc 4
  have x5 := hc 5
  have x6 := hc 6
  have n0 := hn 0
  simp at x2 x3 x4 x5 x6 n0
  have BS3 := Lib.hid bs3'
  have BN3 := Lib.hid bn3
  clear hc hn bs3 bs3' bn3 hB3 hR3
  go_wp2_with fail
  have HB3' : Hid (Below w.heap.size w (w3.alloc (.cells #[.int .i64 5, .int .i64 2, .string ⟨#[77, 76, 45, 68, 83, 65, 45, 54, 53]⟩, .int .i64 1952, .int .i64 4032, .int .i64 32, .int .i64 3309, .slice A3 9 c3, .int .i64 (-49), .int .u32 0] 37))) := Lib.hid (below_alloc HB3.out _)
  refine (params_BySize.calls 2 3309 [5] _ (HD.out.below HB3'.out) aw_size).mono ?_
  rintro e w4 ⟨v4, rfl, hR4, hB4⟩
  obtain ⟨A4, c4, e4⟩ := Kd.R_slice hR4
  subst e4
  have HB4 := Lib.hid (HB3'.out.trans (hB4.mono HB3'.out.size))
  have HR4 := Lib.hid (Kd.R_reads' hR4)
  clear hR4 hB4 x2 x3 x4 x5 x6 n0 BS3 BN3
  go_wp2_with fail
  have hl5 := Kd.C_of_reads (h1 := fun _ => rfl) (readsInt_of.1 ((own_reads (own_lit w4 w4.heap.size 3 .i64 [5] (Nat.le_refl _) (by decide))).elim fun A h => by obtain ⟨c, hv, hr⟩ := h; cases hv; exact hr))
  have HL5 := Lib.hid hl5
  clear hl5
  refine (slices_Equal_int_int.calls A4 c4 [5] (some ⟨w4.heap.size, 0, none⟩) 1 [5] true _ (Kd.C_below HR4.out.2.2 (below_alloc (Below.refl _ _) _)) HR4.out.2.1 HL5.out (by decide) (by unfold slices_Equal_int_int.f; rfl)).mono ?_
  rintro e w5 ⟨rfl, ⟨nd5, rfl⟩⟩
  have HB5 := Lib.hid (pw_below_drewN (below_alloc HB4.out (.cells #[.int .i64 5] 3)) nd5)
  clear HL5 HR4 HB4
  go_wp2_with fail
  refine (params_ByOID.calls none 0 [] [] _ (HD.out.below HB5.out) (Kd.C_nil _ _) (Nat.le_refl _) aw_oid).mono ?_
  rintro e w6 ⟨v6, rfl, hR6, hB6⟩
  obtain ⟨A6, c6, e6⟩ := Kd.R_slice hR6
  subst e6
  have HB6 := Lib.hid (HB5.out.trans (hB6.mono HB5.out.size))
  clear hR6 hB6 HB5
  go_wp2
  go_ret
  exact ⟨rfl, HB6.out⟩
end Go.Proofs.YtjoncjnmhhimhaaDoor.Hand
end

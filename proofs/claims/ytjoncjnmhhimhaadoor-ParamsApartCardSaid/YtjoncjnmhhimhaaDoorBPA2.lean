/- Texts of one proof, one behind the other. -/
import Derived.Test.YtjoncjnmhhimhaaDoorBPA0
import Derived.Test.YtjoncjnmhhimhaaDoorProg
import Derived.Below
import Derived.Deep.Draws
import Derived.Deep.AppendLies
import Derived.Maps.AppendAt
import Derived.OwnWalk
import Derived.Laws.BytesArg
import Derived.Laws.MakeOwn
import Derived.Laws.OwnMore
import Derived.Deep.OwnRows
import Derived.Tactics
import Derived.Lib.ConvBytes
import Derived.Laws.Slices
import Derived.WalkKit
import Derived.KernelRfl
import Derived.RowKit3
import Derived.Deep.LoopGhost
import Derived.Deep.QuietTactic
import Derived.BigQuiet
import Derived.WideLaws
import Derived.Deep.DeepCutAuto
import Derived.Deep.CutBlock
import Derived.Deep.RegionHeld3
import Derived.Laws.Rows
import Derived.Lib.AppendStr
import Derived.ArgAppend
import Derived.Laws.IdiomCopy
import Derived.OrdersHeld
import Derived.Laws.BitsLemmas
import Derived.RowKit
import Derived.Test.YtjoncjnmhhimhaaDoorWMore
import Derived.Test.YtjoncjnmhhimhaaDoorWGuard
import Derived.Test.YtjoncjnmhhimhaaDoorWRepsOne
import Derived.Test.YtjoncjnmhhimhaaDoorWTab
import Derived.Test.YtjoncjnmhhimhaaDoorBPA1
section
-- Written by the kit's print.py, driven by this place's wip/tools/myprint.py. Not trusted: Lean checks it.
namespace Go.Proofs.YtjoncjnmhhimhaaDoor.PLA
open Go.RowKit Go.Proofs.YtjoncjnmhhimhaaDoor.Hand Go.Proofs.YtjoncjnmhhimhaaDoorW.PrintWords Go.Proofs.YtjoncjnmhhimhaaDoorW.PrintLast Go.Proofs.YtjoncjnmhhimhaaDoorW.PrintMore
attribute [local go_sem] max2_int min2_int max_two min_two max_three min_three max_four min_four   -- for this text's walks alone
set_option linter.unusedVariables false
set_option linter.unusedSimpArgs false



def errW : Option Int → Value
  | none => .nilIface
  | some c => .iface 0 (.int .i64 c)
theorem errW_none : errW none = .nilIface := rfl
theorem errW_some (c : Int) : errW (some c) = .iface 0 (.int .i64 c) := rfl

-- the values' own types
def rd_L4 (xs : List (List Int)) (i : Int) : (List Int) := xs.getD i.toNat ([] : List Int)
theorem at_L4 {w : World} {A : Option Addr} {n : Nat} {xs : List (List Int)} (h : Kd.C (Kd.slice 27 (Kd.int .u32)) w A n xs) (i : Int) (h0 : 0 ≤ i) (h1 : i < n) : ∃ ad A0 c0, A = some ad ∧ w.cell? (ad.add i.toNat) = some (.slice A0 (rd_L4 xs i).length c0) ∧ (rd_L4 xs i).length ≤ c0 ∧ (Kd.int .u32).C w A0 (rd_L4 xs i).length (rd_L4 xs i) := by
  obtain ⟨ad, c, e, _, hK, hc0⟩ := Kd.C_get h ([] : List Int) i h0 h1
  have hc : ∀ j u, c[j]? = some u → w.cell? (ad.add (i.toNat * 1 + j)) = some u := hc0
  obtain ⟨A0, c0, rfl, l0, g0⟩ := hK
  exact ⟨ad, A0, c0, e, by have hq := hc 0 _ rfl; rwa [Nat.mul_one, Nat.add_zero] at hq, l0, g0⟩

/-! #### struct type 37 -/
structure S37 where
  f0 : Int
  f1 : Int
  f2 : ByteArray
  f3 : Int
  f4 : Int
  f5 : Int
  f6 : Int
  f7 : (List Int)
  f8 : Int
  f9 : Int
def z37 : S37 := ⟨(0 : Int), (0 : Int), (⟨#[]⟩ : ByteArray), (0 : Int), (0 : Int), (0 : Int), (0 : Int), ([] : List Int), (0 : Int), (0 : Int)⟩
def k37 : Kd S37 := Kd.iso (Kd.pair (Kd.int .i64) (Kd.pair (Kd.int .i64) (Kd.pair Kd.string (Kd.pair (Kd.int .i64) (Kd.pair (Kd.int .i64) (Kd.pair (Kd.int .i64) (Kd.pair (Kd.int .i64) (Kd.pair (Kd.slice 27 (Kd.int .u32)) (Kd.pair (Kd.int .i64) (Kd.int .u32)))))))))) (fun x : S37 => (x.f0, x.f1, x.f2, x.f3, x.f4, x.f5, x.f6, x.f7, x.f8, x.f9))
theorem k37_open {w : World} {x : S37} {cs : List Value} (h : k37.K w x cs) : ∃ A7 c7, cs = [.int .i64 x.f0, .int .i64 x.f1, .string x.f2, .int .i64 x.f3, .int .i64 x.f4, .int .i64 x.f5, .int .i64 x.f6, .slice A7 x.f7.length c7, .int .i64 x.f8, .int .u32 x.f9] ∧ x.f7.length ≤ c7 ∧ (Kd.int .u32).C w A7 x.f7.length x.f7 := by
  obtain ⟨_, _, rfl, rfl, ⟨_, _, rfl, rfl, ⟨_, _, rfl, rfl, ⟨_, _, rfl, rfl, ⟨_, _, rfl, rfl, ⟨_, _, rfl, rfl, ⟨_, _, rfl, rfl, ⟨_, _, rfl, ⟨A7, c7, rfl, l7, g7⟩, ⟨_, _, rfl, rfl, rfl⟩⟩⟩⟩⟩⟩⟩⟩⟩ := h
  exact ⟨A7, c7, rfl, l7, g7⟩
theorem k37_openM {w : World} {base : Nat} {ok : Nat → Prop} {x : S37} {cs : List Value} (h : k37.M w base ok x cs) : ∃ v7, cs = [.int .i64 x.f0, .int .i64 x.f1, .string x.f2, .int .i64 x.f3, .int .i64 x.f4, .int .i64 x.f5, .int .i64 x.f6, v7, .int .i64 x.f8, .int .u32 x.f9] ∧ (Kd.int .u32).R 27 w base ok v7 x.f7 := by
  obtain ⟨_, _, rfl, rfl, ⟨_, _, rfl, rfl, ⟨_, _, rfl, rfl, ⟨_, _, rfl, rfl, ⟨_, _, rfl, rfl, ⟨_, _, rfl, rfl, ⟨_, _, rfl, rfl, ⟨_, _, rfl, ⟨v7, rfl, g7⟩, ⟨_, _, rfl, rfl, rfl⟩⟩⟩⟩⟩⟩⟩⟩⟩ := h
  exact ⟨v7, rfl, g7⟩
theorem k37_mk (w : World) (x : S37) {A7 : Option Addr} {c7 : Nat} (l7 : x.f7.length ≤ c7) (g7 : (Kd.int .u32).C w A7 x.f7.length x.f7) : k37.K w x [.int .i64 x.f0, .int .i64 x.f1, .string x.f2, .int .i64 x.f3, .int .i64 x.f4, .int .i64 x.f5, .int .i64 x.f6, .slice A7 x.f7.length c7, .int .i64 x.f8, .int .u32 x.f9] := ⟨[.int .i64 x.f0], [.int .i64 x.f1, .string x.f2, .int .i64 x.f3, .int .i64 x.f4, .int .i64 x.f5, .int .i64 x.f6, .slice A7 x.f7.length c7, .int .i64 x.f8, .int .u32 x.f9], rfl, rfl, ⟨[.int .i64 x.f1], [.string x.f2, .int .i64 x.f3, .int .i64 x.f4, .int .i64 x.f5, .int .i64 x.f6, .slice A7 x.f7.length c7, .int .i64 x.f8, .int .u32 x.f9], rfl, rfl, ⟨[.string x.f2], [.int .i64 x.f3, .int .i64 x.f4, .int .i64 x.f5, .int .i64 x.f6, .slice A7 x.f7.length c7, .int .i64 x.f8, .int .u32 x.f9], rfl, rfl, ⟨[.int .i64 x.f3], [.int .i64 x.f4, .int .i64 x.f5, .int .i64 x.f6, .slice A7 x.f7.length c7, .int .i64 x.f8, .int .u32 x.f9], rfl, rfl, ⟨[.int .i64 x.f4], [.int .i64 x.f5, .int .i64 x.f6, .slice A7 x.f7.length c7, .int .i64 x.f8, .int .u32 x.f9], rfl, rfl, ⟨[.int .i64 x.f5], [.int .i64 x.f6, .slice A7 x.f7.length c7, .int .i64 x.f8, .int .u32 x.f9], rfl, rfl, ⟨[.int .i64 x.f6], [.slice A7 x.f7.length c7, .int .i64 x.f8, .int .u32 x.f9], rfl, rfl, ⟨[.slice A7 x.f7.length c7], [.int .i64 x.f8, .int .u32 x.f9], rfl, ⟨A7, c7, rfl, l7, g7⟩, ⟨[.int .i64 x.f8], [.int .u32 x.f9], rfl, rfl, rfl⟩⟩⟩⟩⟩⟩⟩⟩⟩
theorem k37_mkM (w : World) (base : Nat) (ok : Nat → Prop) (x : S37) {v7 : Value} (g7 : (Kd.int .u32).R 27 w base ok v7 x.f7) : k37.M w base ok x [.int .i64 x.f0, .int .i64 x.f1, .string x.f2, .int .i64 x.f3, .int .i64 x.f4, .int .i64 x.f5, .int .i64 x.f6, v7, .int .i64 x.f8, .int .u32 x.f9] := ⟨[.int .i64 x.f0], [.int .i64 x.f1, .string x.f2, .int .i64 x.f3, .int .i64 x.f4, .int .i64 x.f5, .int .i64 x.f6, v7, .int .i64 x.f8, .int .u32 x.f9], rfl, rfl, ⟨[.int .i64 x.f1], [.string x.f2, .int .i64 x.f3, .int .i64 x.f4, .int .i64 x.f5, .int .i64 x.f6, v7, .int .i64 x.f8, .int .u32 x.f9], rfl, rfl, ⟨[.string x.f2], [.int .i64 x.f3, .int .i64 x.f4, .int .i64 x.f5, .int .i64 x.f6, v7, .int .i64 x.f8, .int .u32 x.f9], rfl, rfl, ⟨[.int .i64 x.f3], [.int .i64 x.f4, .int .i64 x.f5, .int .i64 x.f6, v7, .int .i64 x.f8, .int .u32 x.f9], rfl, rfl, ⟨[.int .i64 x.f4], [.int .i64 x.f5, .int .i64 x.f6, v7, .int .i64 x.f8, .int .u32 x.f9], rfl, rfl, ⟨[.int .i64 x.f5], [.int .i64 x.f6, v7, .int .i64 x.f8, .int .u32 x.f9], rfl, rfl, ⟨[.int .i64 x.f6], [v7, .int .i64 x.f8, .int .u32 x.f9], rfl, rfl, ⟨[v7], [.int .i64 x.f8, .int .u32 x.f9], rfl, ⟨v7, rfl, g7⟩, ⟨[.int .i64 x.f8], [.int .u32 x.f9], rfl, rfl, rfl⟩⟩⟩⟩⟩⟩⟩⟩⟩
def rd_T37 (xs : List S37) (i : Int) : S37 := xs.getD i.toNat z37
theorem at_T37 {w : World} {A : Option Addr} {n : Nat} {xs : List S37} (h : Kd.C k37 w A n xs) (i : Int) (h0 : 0 ≤ i) (h1 : i < n) : ∃ ad A7 c7, A = some ad ∧ w.cell? (ad.add (i.toNat * 10)) = some (.int .i64 (rd_T37 xs i).f0) ∧ w.cell? ⟨(ad.add (i.toNat * 10)).block, (ad.add (i.toNat * 10)).off + 1, none⟩ = some (.int .i64 (rd_T37 xs i).f1) ∧ w.cell? ⟨(ad.add (i.toNat * 10)).block, (ad.add (i.toNat * 10)).off + 2, none⟩ = some (.string (rd_T37 xs i).f2) ∧ w.cell? ⟨(ad.add (i.toNat * 10)).block, (ad.add (i.toNat * 10)).off + 3, none⟩ = some (.int .i64 (rd_T37 xs i).f3) ∧ w.cell? ⟨(ad.add (i.toNat * 10)).block, (ad.add (i.toNat * 10)).off + 4, none⟩ = some (.int .i64 (rd_T37 xs i).f4) ∧ w.cell? ⟨(ad.add (i.toNat * 10)).block, (ad.add (i.toNat * 10)).off + 5, none⟩ = some (.int .i64 (rd_T37 xs i).f5) ∧ w.cell? ⟨(ad.add (i.toNat * 10)).block, (ad.add (i.toNat * 10)).off + 6, none⟩ = some (.int .i64 (rd_T37 xs i).f6) ∧ w.cell? ⟨(ad.add (i.toNat * 10)).block, (ad.add (i.toNat * 10)).off + 7, none⟩ = some (.slice A7 (rd_T37 xs i).f7.length c7) ∧ w.cell? ⟨(ad.add (i.toNat * 10)).block, (ad.add (i.toNat * 10)).off + 8, none⟩ = some (.int .i64 (rd_T37 xs i).f8) ∧ w.cell? ⟨(ad.add (i.toNat * 10)).block, (ad.add (i.toNat * 10)).off + 9, none⟩ = some (.int .u32 (rd_T37 xs i).f9) ∧ (rd_T37 xs i).f7.length ≤ c7 ∧ (Kd.int .u32).C w A7 (rd_T37 xs i).f7.length (rd_T37 xs i).f7 := by
  obtain ⟨ad, c, e, _, hK, hc0⟩ := Kd.C_get h z37 i h0 h1
  have hc : ∀ j u, c[j]? = some u → w.cell? (ad.add (i.toNat * 10 + j)) = some u := hc0
  obtain ⟨A7, c7, rfl, l7, g7⟩ := k37_open hK
  exact ⟨ad, A7, c7, e, hc 0 _ rfl, by rw [← add_field _ _ 1 (by omega)]; exact hc 1 _ rfl, by rw [← add_field _ _ 2 (by omega)]; exact hc 2 _ rfl, by rw [← add_field _ _ 3 (by omega)]; exact hc 3 _ rfl, by rw [← add_field _ _ 4 (by omega)]; exact hc 4 _ rfl, by rw [← add_field _ _ 5 (by omega)]; exact hc 5 _ rfl, by rw [← add_field _ _ 6 (by omega)]; exact hc 6 _ rfl, by rw [← add_field _ _ 7 (by omega)]; exact hc 7 _ rfl, by rw [← add_field _ _ 8 (by omega)]; exact hc 8 _ rfl, by rw [← add_field _ _ 9 (by omega)]; exact hc 9 _ rfl, l7, g7⟩

def rd_L6 (xs : List (List Int)) (i : Int) : (List Int) := xs.getD i.toNat ([] : List Int)
theorem at_L6 {w : World} {A : Option Addr} {n : Nat} {xs : List (List Int)} (h : Kd.C (Kd.slice 3 (Kd.int .i64)) w A n xs) (i : Int) (h0 : 0 ≤ i) (h1 : i < n) : ∃ ad A0 c0, A = some ad ∧ w.cell? (ad.add i.toNat) = some (.slice A0 (rd_L6 xs i).length c0) ∧ (rd_L6 xs i).length ≤ c0 ∧ (Kd.int .i64).C w A0 (rd_L6 xs i).length (rd_L6 xs i) := by
  obtain ⟨ad, c, e, _, hK, hc0⟩ := Kd.C_get h ([] : List Int) i h0 h1
  have hc : ∀ j u, c[j]? = some u → w.cell? (ad.add (i.toNat * 1 + j)) = some u := hc0
  obtain ⟨A0, c0, rfl, l0, g0⟩ := hK
  exact ⟨ad, A0, c0, e, by have hq := hc 0 _ rfl; rwa [Nat.mul_one, Nat.add_zero] at hq, l0, g0⟩

end Go.Proofs.YtjoncjnmhhimhaaDoor.PLA
namespace Go.Proofs.YtjoncjnmhhimhaaDoor.PLA
open Go.RowKit Go.Proofs.YtjoncjnmhhimhaaDoor.Hand Go.Proofs.YtjoncjnmhhimhaaDoorW.PrintWords Go.Proofs.YtjoncjnmhhimhaaDoorW.PrintLast Go.Proofs.YtjoncjnmhhimhaaDoorW.PrintMore
attribute [local go_sem] max2_int min2_int max_two min_two max_three min_three max_four min_four   -- for this text's walks alone
set_option linter.unusedVariables false
set_option linter.unusedSimpArgs false

-- BY CONTRACT: function 24 (pyxlaw13_awake)

-- BY CONTRACT: function 25 (params_Get)

-- BY CONTRACT: function 30 (params_ByOID)

-- BY CONTRACT: function 32 (params_ByName)

/-! ### slices_Index_int_int: function 57 -/
def slices_Index_int_int.l0 : Nat → List Int → Int → Int → Int → Option (Int)
  | 0, _, _, _, _ => none
  | k + 1, x0, x1, x7, x8 => if x8 < x7 then (if 0 ≤ x8 then (if x8 < (x0.length : Int) then (if x1 = (rd x0 x8) then (some x8) else (slices_Index_int_int.l0 k x0 x1 x7 (wrap64 (x8 + 1)))) else (none)) else (none)) else (some (-1))
def slices_Index_int_int.f (k : Nat) (l0 : List Int) (a1 : Int) : Option (Int) := slices_Index_int_int.l0 k l0 a1 (l0.length : Int) 0
theorem slices_Index_int_int.mono_l : ∀ k, (∀ y0 y1 y2 y3, LeO (slices_Index_int_int.l0 k y0 y1 y2 y3) (slices_Index_int_int.l0 (k + 1) y0 y1 y2 y3))
  | 0 => fun _ _ _ _ r h => by simp [slices_Index_int_int.l0] at h
  | k + 1 => by
    have ih0 := slices_Index_int_int.mono_l k
    · intro y0 y1 y2 y3
      unfold slices_Index_int_int.l0
      repeat' first
      | (with_reducible exact ih0 _ _ _ _)
      | (with_reducible exact LeO.refl _)
      | (with_reducible exact LeO.none _)
      | (with_reducible refine LeO.ite ?_ ?_)
      | (with_reducible refine LeO.bind ?_ (fun _ => ?_))
      | exact ih0 _ _ _ _
      | exact LeO.none _
      | refine LeO.ite ?_ ?_
      | refine LeO.bind ?_ (fun _ => ?_)
theorem slices_Index_int_int.mono : ∀ a0 a1 k, LeO (slices_Index_int_int.f k a0 a1) (slices_Index_int_int.f (k + 1) a0 a1) := by
  intro a0 a1 k
  have ih0 := slices_Index_int_int.mono_l k
  unfold slices_Index_int_int.f
  repeat' first
      | (with_reducible exact ih0 _ _ _ _)
      | (with_reducible exact LeO.refl _)
      | (with_reducible exact LeO.none _)
      | (with_reducible refine LeO.ite ?_ ?_)
      | (with_reducible refine LeO.bind ?_ (fun _ => ?_))
      | exact ih0 _ _ _ _
      | exact LeO.none _
      | refine LeO.ite ?_ ?_
      | refine LeO.bind ?_ (fun _ => ?_)
set_option maxHeartbeats 8000000 in
set_option maxRecDepth 100000 in
theorem slices_Index_int_int.calls (k : Nat) (A0 : Option Addr) (c0 : Nat) (l0 : List Int) (a1 : Int) (r : Int) (w : World) (hr0 : Kd.C (Kd.int .i64) w A0 l0.length l0) (hc0 : l0.length ≤ c0) (h : slices_Index_int_int.f k l0 a1 = some r) :
    Calls Tryd.prog 57 #[.slice A0 l0.length c0, .int .i64 a1] w fun e w' => e = .returned (.int .i64 r) ∧ Drawn0 w w' := by
  have HR0 := Aside0.mk hr0
  have HC0 := Aside0.mk hc0
  clear hr0 hc0
  have H : (slices_Index_int_int.l0 k l0 a1 (l0.length : Int) 0) = some r := h
  clear h
  have H' := Aside0.mk H
  clear H
  go_enter Tryd.func57, Tryd.ntmps57
  go_wp2
  go_loopg [8] k (fun kq v8 w' => ∃ (x8_1 : Int), v8 = .int .i64 x8_1 ∧ Aside0 (slices_Index_int_int.l0 kq l0 a1 (l0.length : Int) x8_1 = some r) ∧ Aside0 (kq ≤ k) ∧ Drawn0 w w')
  case atStart => exact ⟨(0), (by first | rfl | (simp; done) | (simp [*]; done)), H', ⟨Nat.le_refl _⟩, by repeat (first | exact Drawn0.refl _ | apply Drawn0.step)⟩
  case round =>
    clear H'
    try clear p2
    obtain ⟨x8_1, rfl, HA, HK1, ⟨m1, rfl⟩⟩ := hrel
    cases gk with
    | zero => exact absurd HA.out (by simp [slices_Index_int_int.l0])
    | succ k1 =>
      have H := HA.out
      clear HA
      simp only [slices_Index_int_int.l0] at H
      by_cases c3 : x8_1 < (l0.length : Int)
      · rw [if_pos c3] at H
        have c3b0 : decide (x8_1 < (l0.length : Int)) = true := decide_eq_true c3
        clear c3
        by_cases c4 : 0 ≤ x8_1
        · rw [if_pos c4] at H
          have c4b0 : decide (0 ≤ x8_1) = true := decide_eq_true c4
          clear c4
          by_cases c5 : x8_1 < (l0.length : Int)
          · rw [if_pos c5] at H
            have c5b0 : decide (x8_1 < (l0.length : Int)) = true := decide_eq_true c5
            clear c5
            by_cases c6 : a1 = (rd l0 x8_1)
            · rw [if_pos c6] at H
              have c6b0 : (a1 == (rd l0 x8_1)) = true := beq_iff_eq.mpr c6
              have c6b1 : (a1 != (rd l0 x8_1)) = false := bne_eq_false_iff_eq.mpr c6
              clear c6
              obtain rfl := Option.some.inj H
              have p101 : 0 ≤ (x8_1 : Int) := of_decide_eq_true (by first | (with_reducible assumption) | assumption)
              have q101 : x8_1 < (l0.length : Int) := of_decide_eq_true (by first | (with_reducible assumption) | assumption)
              obtain ⟨ad101, e101, hx101_0⟩ := Kd.at_int HR0.out x8_1 p101 q101
              cases e101
              replace p101 := eq_true p101
              replace q101 := eq_true q101
              go_wp2
              go_ret
              exact ⟨by first | rfl | (simp; done) | (simp [*]; done), by repeat (first | exact Drawn0.refl _ | apply Drawn0.step)⟩
            · rw [if_neg c6] at H
              have c6b0 : (a1 == (rd l0 x8_1)) = false := beq_eq_false_iff_ne.mpr c6
              have c6b1 : (a1 != (rd l0 x8_1)) = true := bne_iff_ne.mpr c6
              have H' := Aside0.mk H
              clear H
              have p101 : 0 ≤ (x8_1 : Int) := of_decide_eq_true (by first | (with_reducible assumption) | assumption)
              have q101 : x8_1 < (l0.length : Int) := of_decide_eq_true (by first | (with_reducible assumption) | assumption)
              obtain ⟨ad101, e101, hx101_0⟩ := Kd.at_int HR0.out x8_1 p101 q101
              cases e101
              replace p101 := eq_true p101
              replace q101 := eq_true q101
              go_wp2
              go_roundg k1
              case measure => have := HK1.out; omega
              case rel => exact ⟨(wrap64 (x8_1 + 1)), (by first | rfl | (simp; done) | (simp [*]; done)), H', ⟨by have := HK1.out; omega⟩, by repeat (first | exact Drawn0.refl _ | apply Drawn0.step)⟩
          · rw [if_neg c5] at H
            exact absurd H (by simp)
        · rw [if_neg c4] at H
          exact absurd H (by simp)
      · rw [if_neg c3] at H
        have c3b0 : decide (x8_1 < (l0.length : Int)) = false := decide_eq_false c3
        clear c3
        obtain rfl := Option.some.inj H
        go_wp2
        go_ret
        exact ⟨by first | rfl | (simp; done) | (simp [*]; done), by repeat (first | exact Drawn0.refl _ | apply Drawn0.step)⟩

/-! ### slices_Contains_int_int: function 35 -/
def slices_Contains_int_int.f (k : Nat) (l0 : List Int) (a1 : Int) : Option (Bool) := (slices_Index_int_int.f k l0 a1).bind fun t102 => (some (decide (t102 ≥ 0)))
theorem slices_Contains_int_int.mono : ∀ a0 a1 k, LeO (slices_Contains_int_int.f k a0 a1) (slices_Contains_int_int.f (k + 1) a0 a1) := by
  intro a0 a1 k
  unfold slices_Contains_int_int.f
  repeat' first
      | (with_reducible exact slices_Index_int_int.mono _ _ _)
      | (with_reducible exact LeO.refl _)
      | (with_reducible exact LeO.none _)
      | (with_reducible refine LeO.ite ?_ ?_)
      | (with_reducible refine LeO.bind ?_ (fun _ => ?_))
      | exact slices_Index_int_int.mono _ _ _
      | exact LeO.none _
      | refine LeO.ite ?_ ?_
      | refine LeO.bind ?_ (fun _ => ?_)
set_option maxHeartbeats 8000000 in
set_option maxRecDepth 100000 in
theorem slices_Contains_int_int.calls (k : Nat) (A0 : Option Addr) (c0 : Nat) (l0 : List Int) (a1 : Int) (r : Bool) (w : World) (hr0 : Kd.C (Kd.int .i64) w A0 l0.length l0) (hc0 : l0.length ≤ c0) (h : slices_Contains_int_int.f k l0 a1 = some r) :
    Calls Tryd.prog 35 #[.slice A0 l0.length c0, .int .i64 a1] w fun e w' => e = .returned (.bool r) ∧ Drawn0 w w' := by
  have HR0 := Aside0.mk hr0
  have HC0 := Aside0.mk hc0
  clear hr0 hc0
  have H : ((slices_Index_int_int.f k l0 a1).bind fun t102 => (some (decide (t102 ≥ 0)))) = some r := h
  clear h
  replace H := Option.bind_eq_some_iff.mp H
  obtain ⟨t102, A30, H⟩ := H
  replace H : (some (decide (t102 ≥ 0))) = some r := H
  have A3 := Aside0.mk A30
  clear A30
  obtain rfl := Option.some.inj H
  go_enter Tryd.func35, Tryd.ntmps35
  go_wp2_with (first | ((with_reducible refine gate_callee (f := 57) rfl ?_); refine goesL_ (some 7) rfl rfl Tryd.func57 (by kernel_rfl) rfl #[.slice A0 l0.length c0, .int .i64 a1] rfl (by (try simp only [List.map_toArray, List.map_cons, List.map_nil]); first | done | rfl | (simp only [List.length_drop, List.length_take]; rfl)) ?_; (with_reducible refine (slices_Index_int_int.calls k _ _ l0 a1 t102 _ ?side1 ?side2 A3.out).mono ?_); (case side1 => repeat (first | exact HR0.out | (with_reducible refine Kd.C_alloc ?_ _) | (with_reducible refine Kd.C_drewN ?_ _) | (with_reducible refine Kd.C_drew ?_))); (case side2 => exact HC0.out); rintro e w' ⟨rfl, ⟨nd, rfl⟩⟩; refine ⟨_, rfl, ?_⟩))
  go_ret
  exact ⟨by first | rfl | (simp; done) | (simp [*]; done), by repeat (first | exact Drawn0.refl _ | apply Drawn0.step)⟩

end Go.Proofs.YtjoncjnmhhimhaaDoor.PLA
namespace Go.Proofs.YtjoncjnmhhimhaaDoor.PLA
open Go.RowKit Go.Proofs.YtjoncjnmhhimhaaDoor.Hand Go.Proofs.YtjoncjnmhhimhaaDoorW.PrintWords Go.Proofs.YtjoncjnmhhimhaaDoorW.PrintLast Go.Proofs.YtjoncjnmhhimhaaDoorW.PrintMore
attribute [local go_sem] max2_int min2_int max_two min_two max_three min_three max_four min_four   -- for this text's walks alone
set_option linter.unusedVariables false
set_option linter.unusedSimpArgs false

/-! ### pyxlaw13_ParamsApart: function 11 -/
def pyxlaw13_ParamsApart.j0 : Nat → Bool → Int → Int → ByteArray → Int → Int → Int → Int → List Int → Int → Int → Int → Int → ByteArray → Int → Int → Int → Int → List Int → Int → Int → Option (Bool)
  | 0, _, _, _, _, _, _, _, _, _, _, _, _, _, _, _, _, _, _, _, _, _ => none
  | k + 1, x35, x118000, x118001, x118002, x118003, x118004, x118005, x118006, x118007, x118008, x118009, x132000, x132001, x132002, x132003, x132004, x132005, x132006, x132007, x132008, x132009 => if x35 = true then (none) else ((params_ByName.f x118002).bind fun bt132 => (if bt132.2.2.2.2.2.2.2.2.2.2 = true then (if bt132.1 = x118000 then (if ((x118002.toList == x132002.toList) == (x118000 == x132000)) = true then (if x118008 = 0 then (if x118009 = 0 then ((params_ByOID.f x118007).bind fun t146 => ((slices_Contains_int_int.f k t146 x118000).bind fun t149 => (some t149))) else (if ((x118009 == x132009) == (x118000 == x132000)) = true then ((params_ByOID.f x118007).bind fun t150 => ((slices_Contains_int_int.f k t150 x118000).bind fun t153 => (some t153))) else (none))) else (if ((x118008 == x132008) == (x118000 == x132000)) = true then (if x118009 = 0 then ((params_ByOID.f x118007).bind fun t154 => ((slices_Contains_int_int.f k t154 x118000).bind fun t157 => (some t157))) else (none)) else (none))) else (none)) else (none)) else (none)))
def pyxlaw13_ParamsApart.f (k : Nat) (a0 : Int) (a1 : Int) : Option (Bool) := (pyxlaw13_awake.f).bind fun t103 => (if t103 = true then ((params_Get.f (wrap64 (1 + (Int.tmod (wrap64 (a0)) 25)))).bind fun bt104 => ((params_Get.f (wrap64 (1 + (Int.tmod (wrap64 (a1)) 25)))).bind fun bt118 => (if bt104.2.2.2.2.2.2.2.2.2.2 = true then (pyxlaw13_ParamsApart.j0 k (!bt118.2.2.2.2.2.2.2.2.2.2) bt104.1 bt104.2.1 bt104.2.2.1 bt104.2.2.2.1 bt104.2.2.2.2.1 bt104.2.2.2.2.2.1 bt104.2.2.2.2.2.2.1 bt104.2.2.2.2.2.2.2.1 bt104.2.2.2.2.2.2.2.2.1 bt104.2.2.2.2.2.2.2.2.2.1 bt118.1 bt118.2.1 bt118.2.2.1 bt118.2.2.2.1 bt118.2.2.2.2.1 bt118.2.2.2.2.2.1 bt118.2.2.2.2.2.2.1 bt118.2.2.2.2.2.2.2.1 bt118.2.2.2.2.2.2.2.2.1 bt118.2.2.2.2.2.2.2.2.2.1) else (pyxlaw13_ParamsApart.j0 k true bt104.1 bt104.2.1 bt104.2.2.1 bt104.2.2.2.1 bt104.2.2.2.2.1 bt104.2.2.2.2.2.1 bt104.2.2.2.2.2.2.1 bt104.2.2.2.2.2.2.2.1 bt104.2.2.2.2.2.2.2.2.1 bt104.2.2.2.2.2.2.2.2.2.1 bt118.1 bt118.2.1 bt118.2.2.1 bt118.2.2.2.1 bt118.2.2.2.2.1 bt118.2.2.2.2.2.1 bt118.2.2.2.2.2.2.1 bt118.2.2.2.2.2.2.2.1 bt118.2.2.2.2.2.2.2.2.1 bt118.2.2.2.2.2.2.2.2.2.1)))) else (none))
theorem pyxlaw13_ParamsApart.mono_l : ∀ k, (∀ y0 y1 y2 y3 y4 y5 y6 y7 y8 y9 y10 y11 y12 y13 y14 y15 y16 y17 y18 y19 y20, LeO (pyxlaw13_ParamsApart.j0 k y0 y1 y2 y3 y4 y5 y6 y7 y8 y9 y10 y11 y12 y13 y14 y15 y16 y17 y18 y19 y20) (pyxlaw13_ParamsApart.j0 (k + 1) y0 y1 y2 y3 y4 y5 y6 y7 y8 y9 y10 y11 y12 y13 y14 y15 y16 y17 y18 y19 y20))
  | 0 => fun _ _ _ _ _ _ _ _ _ _ _ _ _ _ _ _ _ _ _ _ _ r h => by simp [pyxlaw13_ParamsApart.j0] at h
  | k + 1 => by
    have ih0 := pyxlaw13_ParamsApart.mono_l k
    · intro y0 y1 y2 y3 y4 y5 y6 y7 y8 y9 y10 y11 y12 y13 y14 y15 y16 y17 y18 y19 y20
      unfold pyxlaw13_ParamsApart.j0
      repeat' first
      | (with_reducible exact ih0 _ _ _ _ _ _ _ _ _ _ _ _ _ _ _ _ _ _ _ _ _)
      | (with_reducible exact slices_Contains_int_int.mono _ _ _)
      | (with_reducible exact LeO.refl _)
      | (with_reducible exact LeO.none _)
      | (with_reducible refine LeO.ite ?_ ?_)
      | (with_reducible refine LeO.bind ?_ (fun _ => ?_))
      | exact ih0 _ _ _ _ _ _ _ _ _ _ _ _ _ _ _ _ _ _ _ _ _
      | exact slices_Contains_int_int.mono _ _ _
      | exact LeO.none _
      | refine LeO.ite ?_ ?_
      | refine LeO.bind ?_ (fun _ => ?_)
theorem pyxlaw13_ParamsApart.mono : ∀ a0 a1 k, LeO (pyxlaw13_ParamsApart.f k a0 a1) (pyxlaw13_ParamsApart.f (k + 1) a0 a1) := by
  intro a0 a1 k
  have ih0 := pyxlaw13_ParamsApart.mono_l k
  unfold pyxlaw13_ParamsApart.f
  repeat' first
      | (with_reducible exact ih0 _ _ _ _ _ _ _ _ _ _ _ _ _ _ _ _ _ _ _ _ _)
      | (with_reducible exact slices_Contains_int_int.mono _ _ _)
      | (with_reducible exact LeO.refl _)
      | (with_reducible exact LeO.none _)
      | (with_reducible refine LeO.ite ?_ ?_)
      | (with_reducible refine LeO.bind ?_ (fun _ => ?_))
      | exact ih0 _ _ _ _ _ _ _ _ _ _ _ _ _ _ _ _ _ _ _ _ _
      | exact slices_Contains_int_int.mono _ _ _
      | exact LeO.none _
      | refine LeO.ite ?_ ?_
      | refine LeO.bind ?_ (fun _ => ?_)
def pyxlaw13_ParamsApart.T9 : Bool × List (List Nat × List Nat) := (true, [([], []), ([0], [0]), ([1], [1]), ([2, 1], [1, 2]), ([1], [1]), ([4, 1], [1, 4]), ([3, 5, 1], [1, 3, 5]), ([1, 6], [1, 6]), ([7, 1], [7]), ([8], [8]), ([9, 8], [8, 9]), ([8], [8]), ([11, 8], [8, 11]), ([10, 12, 8], [8, 10, 12]), ([8], [8]), ([13, 14, 8], [8, 13, 14]), ([8, 15], [8, 15]), ([16, 8], [16]), ([17], [17]), ([18, 17], [17, 18]), ([19, 17], [17, 19]), ([20, 17, 17], [17, 20]), ([21], [21]), ([22, 21], [21, 22]), ([21], [21]), ([24, 21], [21, 24]), ([23, 25, 21], [21, 23, 25]), ([21], [21]), ([26, 27, 21], [21, 26, 27]), ([21, 28, 17], [17, 21, 28]), ([17, 29], [17, 29]), ([30, 21], [30]), ([31], [31]), ([32, 31], [31, 32]), ([33, 31], [31, 33]), ([34, 31, 31], [31, 34]), ([35], [35]), ([36, 35], [35, 36]), ([35], [35]), ([38, 35], [35, 38]), ([37, 39, 35], [35, 37, 39]), ([35], [35]), ([40, 41, 35], [35, 40, 41]), ([35, 42, 31], [31, 35, 42]), ([31, 43], [31, 43]), ([44, 35], [44]), ([45], [45]), ([46, 45], [45, 46]), ([47, 45, 45], [45, 47]), ([45], [45]), ([49, 45], [45, 49]), ([48, 50, 48, 45], [45, 48, 50]), ([45, 51], [45, 51]), ([52, 51, 0, 1, 2, 3, 4, 5, 6, 7, 8, 9, 10, 11, 12, 13, 14, 15, 16, 17, 18, 19, 20, 21, 22, 23, 24, 25, 26, 27, 28, 29, 30, 31, 32, 33, 34, 35, 36, 37, 38, 39, 40, 41, 42, 43, 44, 45, 46, 47, 48, 49, 50, 51, 52], [52])])
def pyxlaw13_ParamsApart.B9 : List Nat := [0, 1, 3, 7, 3, 19, 63, 127, 255, 511, 1023, 511, 2559, 8191, 511, 32767, 65535, 131071, 262143, 524287, 1048575, 2097151, 4194303, 8388607, 4194303, 20971519, 67108863, 4194303, 268435455, 536870911, 1073741823, 2147483647, 4294967295, 8589934591, 17179869183, 34359738367, 68719476735, 137438953471, 68719476735, 343597383679, 1099511627775, 68719476735, 4398046511103, 8796093022207, 17592186044415, 35184372088831, 70368744177663, 140737488355327, 281474976710655, 70368744177663, 633318697598975, 2251799813685247, 4503599627370495, 9007199254740991]
theorem pyxlaw13_ParamsApart.tab9 : rtab .any (opsOf Tryd.f11 9) = pyxlaw13_ParamsApart.T9 := by kernel_rfl
theorem pyxlaw13_ParamsApart.bits9 : waitsOk pyxlaw13_ParamsApart.T9.2 pyxlaw13_ParamsApart.B9 = true := by kernel_rfl
set_option maxHeartbeats 8000000 in
set_option maxRecDepth 100000 in
theorem apart_leaf0 (kj6 : Nat) (a0 a1 : Int) (t104 : Int) (t105 : Int) (t106 : ByteArray) (t107 : Int) (t108 : Int) (t109 : Int) (t110 : Int) (t111 : List Int) (t114 : Int) (t115 : Int) (t118 : Int) (t119 : Int) (t120 : ByteArray) (t121 : Int) (t122 : Int) (t123 : Int) (t124 : Int) (t125 : List Int) (t128 : Int) (t129 : Int) (t132 : Int) (t133 : Int) (t134 : ByteArray) (t135 : Int) (t136 : Int) (t137 : Int) (t138 : Int) (t139 : List Int) (t142 : Int) (t143 : Int) (t146 : List Int) (t149 : Bool) (w : World) (HLd : LaidOk w)
    (A5 : Aside0 (params_Get.f (wrap64 (1 + (Int.tmod (wrap64 (a0)) 25))) = some (t104, t105, t106, t107, t108, t109, t110, t111, t114, t115, true))) (A6 : Aside0 (params_Get.f (wrap64 (1 + (Int.tmod (wrap64 (a1)) 25))) = some (t118, t119, t120, t121, t122, t123, t124, t125, t128, t129, true))) (A7 : Aside0 (params_ByName.f t106 = some (t132, t133, t134, t135, t136, t137, t138, t139, t142, t143, true)))
    (A26 : Aside0 (params_ByOID.f t111 = some t146)) (A27 : Aside0 (slices_Contains_int_int.f kj6 t146 t104 = some t149)) (c22 : t132 = t104) (c23 : ((t106.toList == t120.toList) == (t104 == t118)) = true) (c24 : t114 = 0) (c25 : t115 = 0) :
    Calls Tryd.prog 11 #[.int .u8 a0, .int .u8 a1] w fun e w' => e = .returned (.bool t149) ∧ Below w.heap.size w w' := by
  have hu37 := Tryd.underlying37
  have c22b0 : (t132 == t104) = true := beq_iff_eq.mpr c22
  have c22b1 : (t132 != t104) = false := bne_eq_false_iff_eq.mpr c22
  have c23b0 : ((t106.toList == t120.toList) == (t104 == t118)) = true := c23
  (try (have c23b1 : decide ((t106.toList == t120.toList) = (t104 == t118)) = true := by simpa using c23))
  (try (have c23b2 : ((t106.toList == t120.toList) == (t104 == t118)) = true := by simpa using c23))
  have c24b0 : (t114 == 0) = true := beq_iff_eq.mpr c24
  have c24b1 : (t114 != 0) = false := bne_eq_false_iff_eq.mpr c24
  have c25b0 : (t115 == 0) = true := beq_iff_eq.mpr c25
  have c25b1 : (t115 != 0) = false := bne_eq_false_iff_eq.mpr c25
  clear c22 c23 c24 c25
  go_enter Tryd.func11, Tryd.ntmps11
  go_wp2_with fail
  refine (pyxlaw13_awake.calls true w HLd rfl).mono ?_
  rintro e w1 ⟨rfl, hb1⟩
  have HB0 := Aside0.mk hb1
  clear hb1
  go_wp2_with fail
  refine (params_Get.calls _ t104 t105 t106 t107 t108 t109 t110 t111 t114 t115 true _ (HLd.below HB0.out) A5.out).mono ?_
  rintro e v0_ ⟨v, rfl, hR, hB⟩
  have HOn := Aside0.mk (Kd.R_lower hR HB0.out.size)
  have HBn := Aside0.mk (HB0.out.trans (hB.mono HB0.out.size))
  clear hR hB HB0
  obtain ⟨Ao12, co12, e1⟩ := Kd.R_slice HOn.out
  subst e1
  go_wp2_with fail
  have BK117 := Aside0.mk (blk_new v0_ (.cells #[.int .i64 t104, .int .i64 t105, .string t106, .int .i64 t107, .int .i64 t108, .int .i64 t109, .int .i64 t110, .slice Ao12 t111.length co12, .int .i64 t114, .int .u32 t115] 37))
  have HO_118007 := Aside0.mk (Kd.R_alloc HOn.out (.cells #[.int .i64 t104, .int .i64 t105, .string t106, .int .i64 t107, .int .i64 t108, .int .i64 t109, .int .i64 t110, .slice Ao12 t111.length co12, .int .i64 t114, .int .u32 t115] 37))
  have HB := Aside0.mk (below_alloc HBn.out (.cells #[.int .i64 t104, .int .i64 t105, .string t106, .int .i64 t107, .int .i64 t108, .int .i64 t109, .int .i64 t110, .slice Ao12 t111.length co12, .int .i64 t114, .int .u32 t115] 37))
  have GE117 := Aside0.mk HBn.out.size
  clear HOn HBn
  generalize v0_.alloc (.cells #[.int .i64 t104, .int .i64 t105, .string t106, .int .i64 t107, .int .i64 t108, .int .i64 t109, .int .i64 t110, .slice Ao12 t111.length co12, .int .i64 t114, .int .u32 t115] 37) = w0_ at BK117 HO_118007 HB ⊢
  generalize v0_.heap.size = gb117 at BK117 GE117 ⊢
  refine (params_Get.calls _ t118 t119 t120 t121 t122 t123 t124 t125 t128 t129 true _ (HLd.below HB.out) A6.out).mono ?_
  rintro e v1_ ⟨v, rfl, hR, hB⟩
  have HO_118007' := Aside0.mk (Kd.R_below HO_118007.out hB)
  clear HO_118007
  have HO_118007 := HO_118007'
  clear HO_118007'
  have BK117' := Aside0.mk (blk_below BK117.out hB)
  clear BK117
  have BK117 := BK117'
  clear BK117'
  have HOn := Aside0.mk (Kd.R_lower hR HB.out.size)
  have HBn := Aside0.mk (HB.out.trans (hB.mono HB.out.size))
  clear hR hB HB
  obtain ⟨Ao17, co17, e1⟩ := Kd.R_slice HOn.out
  subst e1
  have xn : (v1_.alloc (.cells #[.int .i64 t118, .int .i64 t119, .string t120, .int .i64 t121, .int .i64 t122, .int .i64 t123, .int .i64 t124, .slice Ao17 t125.length co17, .int .i64 t128, .int .u32 t129] 37)).cell? ⟨gb117, 2, none⟩ = some (.string t106) := (blk_cell (blk_alloc BK117.out (.cells #[.int .i64 t118, .int .i64 t119, .string t120, .int .i64 t121, .int .i64 t122, .int .i64 t123, .int .i64 t124, .slice Ao17 t125.length co17, .int .i64 t128, .int .u32 t129] 37)) 2).trans rfl
  go_wp2_with fail
  clear xn
  have BK131 := Aside0.mk (blk_new v1_ (.cells #[.int .i64 t118, .int .i64 t119, .string t120, .int .i64 t121, .int .i64 t122, .int .i64 t123, .int .i64 t124, .slice Ao17 t125.length co17, .int .i64 t128, .int .u32 t129] 37))
  have HO_132007 := Aside0.mk (Kd.R_alloc HOn.out (.cells #[.int .i64 t118, .int .i64 t119, .string t120, .int .i64 t121, .int .i64 t122, .int .i64 t123, .int .i64 t124, .slice Ao17 t125.length co17, .int .i64 t128, .int .u32 t129] 37))
  have HB := Aside0.mk (below_alloc HBn.out (.cells #[.int .i64 t118, .int .i64 t119, .string t120, .int .i64 t121, .int .i64 t122, .int .i64 t123, .int .i64 t124, .slice Ao17 t125.length co17, .int .i64 t128, .int .u32 t129] 37))
  have GE131 := Aside0.mk HBn.out.size
  have HO_118007' := Aside0.mk (Kd.R_alloc HO_118007.out (.cells #[.int .i64 t118, .int .i64 t119, .string t120, .int .i64 t121, .int .i64 t122, .int .i64 t123, .int .i64 t124, .slice Ao17 t125.length co17, .int .i64 t128, .int .u32 t129] 37))
  clear HO_118007
  have HO_118007 := HO_118007'
  clear HO_118007'
  have BK117' := Aside0.mk (blk_alloc BK117.out (.cells #[.int .i64 t118, .int .i64 t119, .string t120, .int .i64 t121, .int .i64 t122, .int .i64 t123, .int .i64 t124, .slice Ao17 t125.length co17, .int .i64 t128, .int .u32 t129] 37))
  clear BK117
  have BK117 := BK117'
  clear BK117'
  clear HOn HBn
  generalize v1_.alloc (.cells #[.int .i64 t118, .int .i64 t119, .string t120, .int .i64 t121, .int .i64 t122, .int .i64 t123, .int .i64 t124, .slice Ao17 t125.length co17, .int .i64 t128, .int .u32 t129] 37) = w1_ at BK131 HO_132007 HB HO_118007 BK117 ⊢
  generalize v1_.heap.size = gb131 at BK131 GE131 ⊢
  refine (params_ByName.calls _ t132 t133 t134 t135 t136 t137 t138 t139 t142 t143 true _ (HLd.below HB.out) A7.out).mono ?_
  rintro e v2_ ⟨v, rfl, hR, hB⟩
  have HO_118007' := Aside0.mk (Kd.R_below HO_118007.out hB)
  clear HO_118007
  have HO_118007 := HO_118007'
  clear HO_118007'
  have BK117' := Aside0.mk (blk_below BK117.out hB)
  clear BK117
  have BK117 := BK117'
  clear BK117'
  have HO_132007' := Aside0.mk (Kd.R_below HO_132007.out hB)
  clear HO_132007
  have HO_132007 := HO_132007'
  clear HO_132007'
  have BK131' := Aside0.mk (blk_below BK131.out hB)
  clear BK131
  have BK131 := BK131'
  clear BK131'
  have HOn := Aside0.mk (Kd.R_lower hR HB.out.size)
  have HBn := Aside0.mk (HB.out.trans (hB.mono HB.out.size))
  clear hR hB HB
  obtain ⟨Ao35, co35, e1⟩ := Kd.R_slice HOn.out
  subst e1
  have xa : (v2_.alloc (.cells #[.int .i64 t132, .int .i64 t133, .string t134, .int .i64 t135, .int .i64 t136, .int .i64 t137, .int .i64 t138, .slice Ao35 t139.length co35, .int .i64 t142, .int .u32 t143] 37)).cell? ⟨gb117, 0, none⟩ = some (.int .i64 t104) := (blk_cell (blk_alloc BK117.out (.cells #[.int .i64 t132, .int .i64 t133, .string t134, .int .i64 t135, .int .i64 t136, .int .i64 t137, .int .i64 t138, .slice Ao35 t139.length co35, .int .i64 t142, .int .u32 t143] 37)) 0).trans rfl
  have xb : (v2_.alloc (.cells #[.int .i64 t132, .int .i64 t133, .string t134, .int .i64 t135, .int .i64 t136, .int .i64 t137, .int .i64 t138, .slice Ao35 t139.length co35, .int .i64 t142, .int .u32 t143] 37)).cell? ⟨gb131, 0, none⟩ = some (.int .i64 t118) := (blk_cell (blk_alloc BK131.out (.cells #[.int .i64 t132, .int .i64 t133, .string t134, .int .i64 t135, .int .i64 t136, .int .i64 t137, .int .i64 t138, .slice Ao35 t139.length co35, .int .i64 t142, .int .u32 t143] 37)) 0).trans rfl
  go_wp2_with fail
  clear xa xb
  have BK145 := Aside0.mk (blk_new v2_ (.cells #[.int .i64 t132, .int .i64 t133, .string t134, .int .i64 t135, .int .i64 t136, .int .i64 t137, .int .i64 t138, .slice Ao35 t139.length co35, .int .i64 t142, .int .u32 t143] 37))
  have HO141 := Aside0.mk (Kd.R_alloc HOn.out (.cells #[.int .i64 t132, .int .i64 t133, .string t134, .int .i64 t135, .int .i64 t136, .int .i64 t137, .int .i64 t138, .slice Ao35 t139.length co35, .int .i64 t142, .int .u32 t143] 37))
  have HB := Aside0.mk (below_alloc HBn.out (.cells #[.int .i64 t132, .int .i64 t133, .string t134, .int .i64 t135, .int .i64 t136, .int .i64 t137, .int .i64 t138, .slice Ao35 t139.length co35, .int .i64 t142, .int .u32 t143] 37))
  have GE145 := Aside0.mk HBn.out.size
  have HO_118007' := Aside0.mk (Kd.R_alloc HO_118007.out (.cells #[.int .i64 t132, .int .i64 t133, .string t134, .int .i64 t135, .int .i64 t136, .int .i64 t137, .int .i64 t138, .slice Ao35 t139.length co35, .int .i64 t142, .int .u32 t143] 37))
  clear HO_118007
  have HO_118007 := HO_118007'
  clear HO_118007'
  have BK117' := Aside0.mk (blk_alloc BK117.out (.cells #[.int .i64 t132, .int .i64 t133, .string t134, .int .i64 t135, .int .i64 t136, .int .i64 t137, .int .i64 t138, .slice Ao35 t139.length co35, .int .i64 t142, .int .u32 t143] 37))
  clear BK117
  have BK117 := BK117'
  clear BK117'
  have HO_132007' := Aside0.mk (Kd.R_alloc HO_132007.out (.cells #[.int .i64 t132, .int .i64 t133, .string t134, .int .i64 t135, .int .i64 t136, .int .i64 t137, .int .i64 t138, .slice Ao35 t139.length co35, .int .i64 t142, .int .u32 t143] 37))
  clear HO_132007
  have HO_132007 := HO_132007'
  clear HO_132007'
  have BK131' := Aside0.mk (blk_alloc BK131.out (.cells #[.int .i64 t132, .int .i64 t133, .string t134, .int .i64 t135, .int .i64 t136, .int .i64 t137, .int .i64 t138, .slice Ao35 t139.length co35, .int .i64 t142, .int .u32 t143] 37))
  clear BK131
  have BK131 := BK131'
  clear BK131'
  clear HOn HBn
  generalize v2_.alloc (.cells #[.int .i64 t132, .int .i64 t133, .string t134, .int .i64 t135, .int .i64 t136, .int .i64 t137, .int .i64 t138, .slice Ao35 t139.length co35, .int .i64 t142, .int .u32 t143] 37) = w38 at BK145 HO141 HB HO_118007 BK117 HO_132007 BK131 ⊢
  generalize v2_.heap.size = gb145 at BK145 GE145 ⊢
  have n0_ := Aside0.mk (Kd.R_drew HO_118007.out)
  have n1_ := Aside0.mk (Kd.R_drew HO_132007.out)
  have n2_ := Aside0.mk (Kd.R_drew HO141.out)
  have n3_ := Aside0.mk (blk_drew BK117.out)
  have n4_ := Aside0.mk (blk_drew BK131.out)
  have n5_ := Aside0.mk (blk_drew BK145.out)
  have n6_ := Aside0.mk (below_drew1 HB.out)
  clear HO_118007
  clear HO_132007
  clear HO141
  clear BK117
  clear BK131
  clear BK145
  clear HB
  have HO_118007 := n0_
  have HO_132007 := n1_
  have HO141 := n2_
  have BK117 := n3_
  have BK131 := n4_
  have BK145 := n5_
  have HB := n6_
  clear n0_ n1_ n2_ n3_ n4_ n5_ n6_
  refine start_ (n := 54) (S := fun w' => w'.cell? ⟨gb145, 0, none⟩ = some (.int .i64 t132) ∧ w'.cell? ⟨gb145, 1, none⟩ = some (.int .i64 t133) ∧ w'.cell? ⟨gb145, 2, none⟩ = some (.string t134) ∧ w'.cell? ⟨gb145, 3, none⟩ = some (.int .i64 t135) ∧ w'.cell? ⟨gb145, 4, none⟩ = some (.int .i64 t136) ∧ w'.cell? ⟨gb145, 5, none⟩ = some (.int .i64 t137) ∧ w'.cell? ⟨gb145, 6, none⟩ = some (.int .i64 t138) ∧ w'.cell? ⟨gb145, 7, none⟩ = some (.slice Ao35 t139.length co35) ∧ w'.cell? ⟨gb145, 8, none⟩ = some (.int .i64 t142) ∧ w'.cell? ⟨gb145, 9, none⟩ = some (.int .u32 t143) ∧ w'.cell? ⟨gb117, 0, none⟩ = some (.int .i64 t104) ∧ w'.cell? ⟨gb117, 1, none⟩ = some (.int .i64 t105) ∧ w'.cell? ⟨gb117, 2, none⟩ = some (.string t106) ∧ w'.cell? ⟨gb117, 3, none⟩ = some (.int .i64 t107) ∧ w'.cell? ⟨gb117, 4, none⟩ = some (.int .i64 t108) ∧ w'.cell? ⟨gb117, 5, none⟩ = some (.int .i64 t109) ∧ w'.cell? ⟨gb117, 6, none⟩ = some (.int .i64 t110) ∧ w'.cell? ⟨gb117, 7, none⟩ = some (.slice Ao12 t111.length co12) ∧ w'.cell? ⟨gb117, 8, none⟩ = some (.int .i64 t114) ∧ w'.cell? ⟨gb117, 9, none⟩ = some (.int .u32 t115) ∧ w'.cell? ⟨gb131, 0, none⟩ = some (.int .i64 t118) ∧ w'.cell? ⟨gb131, 1, none⟩ = some (.int .i64 t119) ∧ w'.cell? ⟨gb131, 2, none⟩ = some (.string t120) ∧ w'.cell? ⟨gb131, 3, none⟩ = some (.int .i64 t121) ∧ w'.cell? ⟨gb131, 4, none⟩ = some (.int .i64 t122) ∧ w'.cell? ⟨gb131, 5, none⟩ = some (.int .i64 t123) ∧ w'.cell? ⟨gb131, 6, none⟩ = some (.int .i64 t124) ∧ w'.cell? ⟨gb131, 7, none⟩ = some (.slice Ao17 t125.length co17) ∧ w'.cell? ⟨gb131, 8, none⟩ = some (.int .i64 t128) ∧ w'.cell? ⟨gb131, 9, none⟩ = some (.int .u32 t129)) (ds := []) (Hand.bv 54 0x0) (by kernel_rfl) rfl rfl ⟨(blk_cell BK145.out 0).trans rfl, (blk_cell BK145.out 1).trans rfl, (blk_cell BK145.out 2).trans rfl, (blk_cell BK145.out 3).trans rfl, (blk_cell BK145.out 4).trans rfl, (blk_cell BK145.out 5).trans rfl, (blk_cell BK145.out 6).trans rfl, (blk_cell BK145.out 7).trans rfl, (blk_cell BK145.out 8).trans rfl, (blk_cell BK145.out 9).trans rfl, (blk_cell BK117.out 0).trans rfl, (blk_cell BK117.out 1).trans rfl, (blk_cell BK117.out 2).trans rfl, (blk_cell BK117.out 3).trans rfl, (blk_cell BK117.out 4).trans rfl, (blk_cell BK117.out 5).trans rfl, (blk_cell BK117.out 6).trans rfl, (blk_cell BK117.out 7).trans rfl, (blk_cell BK117.out 8).trans rfl, (blk_cell BK117.out 9).trans rfl, (blk_cell BK131.out 0).trans rfl, (blk_cell BK131.out 1).trans rfl, (blk_cell BK131.out 2).trans rfl, (blk_cell BK131.out 3).trans rfl, (blk_cell BK131.out 4).trans rfl, (blk_cell BK131.out 5).trans rfl, (blk_cell BK131.out 6).trans rfl, (blk_cell BK131.out 7).trans rfl, (blk_cell BK131.out 8).trans rfl, (blk_cell BK131.out 9).trans rfl⟩ (fun hHeld => ?_); refine with_tabW pyxlaw13_ParamsApart.tab9 pyxlaw13_ParamsApart.bits9 (fun HT_ HW_ => ?_)
  generalize w38.drew = w39 at HO_118007 HO_132007 HO141 BK117 BK131 BK145 HB hHeld ⊢
  refine pure_ (i := 0) (N := some 47) (v := ?_) (a' := ?_) (Hand.bv 54 0x1) rfl rfl (any_of HT_.out (by kernel_rfl)) (fun _ _ _ h => h) (Or.inl ⟨by rfl, ?_⟩) ?_ ?_
  rotate_left
  · intro w'
    go_simp
    with_reducible rfl
  rotate_left
  · simp only [Act.put, List.setIfInBounds_toArray, List.set_cons_zero, List.set_cons_succ, i64_w, i32_w]
    rfl
  refine pure_ (i := 1) (N := some 48) (v := ?_) (a' := ?_) (Hand.bv 54 0x3) rfl rfl (any_of HT_.out (by kernel_rfl)) (fun _ _ _ h => h) (Or.inl ⟨by rfl, ?_⟩) ?_ ?_
  rotate_left
  · intro w'
    go_simp
    with_reducible rfl
  rotate_left
  · simp only [Act.put, List.setIfInBounds_toArray, List.set_cons_zero, List.set_cons_succ, i64_w, i32_w]
    rfl
  refine pure_ (i := 2) (N := some 49) (v := ?_) (a' := ?_) (Hand.bv 54 0x7) rfl rfl (any_of HT_.out (by kernel_rfl)) (fun _ _ _ h => h) (Or.inl ⟨by rfl, ?_⟩) ?_ ?_
  rotate_left
  · intro w'
    go_simp
    with_reducible rfl
  rotate_left
  · simp only [Act.put, List.setIfInBounds_toArray, List.set_cons_zero, List.set_cons_succ, i64_w, i32_w]
    rfl
  refine pure_ (i := 4) (N := some 51) (v := ?_) (a' := ?_) (Hand.bv 54 0x17) rfl rfl (any_of HT_.out (by kernel_rfl)) (fun _ _ _ h => h) (Or.inl ⟨by rfl, ?_⟩) ?_ ?_
  rotate_left
  · intro w'
    go_simp
    with_reducible rfl
  rotate_left
  · simp only [Act.put, List.setIfInBounds_toArray, List.set_cons_zero, List.set_cons_succ, i64_w, i32_w]
    rfl
  refine take_ (i := 3) (N := some 50) (v := ?_) (a' := ?_) (Hand.bv 54 0x1f) rfl rfl (take_ofW HT_.out HW_.out (by kernel_rfl)) (fun _ _ _ h => h) (Or.inl ⟨by rfl, ?_⟩) hHeld ?_ ?_
  rotate_left
  · rintro w' ⟨s0, s1, s2, s3, s4, s5, s6, s7, s8, s9, s10, s11, s12, s13, s14, s15, s16, s17, s18, s19, s20, s21, s22, s23, s24, s25, s26, s27, s28, s29⟩
    go_simp
    with_reducible rfl
  rotate_left
  · simp only [Act.put, List.setIfInBounds_toArray, List.set_cons_zero, List.set_cons_succ, i64_w, i32_w]
    rfl
  refine take_ (i := 5) (N := some 52) (v := ?_) (a' := ?_) (Hand.bv 54 0x3f) rfl rfl (take_ofW HT_.out HW_.out (by kernel_rfl)) (fun _ _ _ h => h) (Or.inl ⟨by rfl, ?_⟩) hHeld ?_ ?_
  rotate_left
  · rintro w' ⟨s0, s1, s2, s3, s4, s5, s6, s7, s8, s9, s10, s11, s12, s13, s14, s15, s16, s17, s18, s19, s20, s21, s22, s23, s24, s25, s26, s27, s28, s29⟩
    go_simp
    with_reducible rfl
  rotate_left
  · simp only [Act.put, List.setIfInBounds_toArray, List.set_cons_zero, List.set_cons_succ, i64_w, i32_w]
    rfl
  refine pure_ (i := 6) (N := some 53) (v := ?_) (a' := ?_) (Hand.bv 54 0x7f) rfl rfl (any_of HT_.out (by kernel_rfl)) (fun _ _ _ h => h) (Or.inl ⟨by rfl, ?_⟩) ?_ ?_
  rotate_left
  · intro w'
    go_simp
    with_reducible rfl
  rotate_left
  · simp only [Act.put, List.setIfInBounds_toArray, List.set_cons_zero, List.set_cons_succ, i64_w, i32_w]
    rfl
  refine pure_ (i := 7) (N := some 54) (v := ?_) (a' := ?_) (Hand.bv 54 0xff) rfl rfl (any_of HT_.out (by kernel_rfl)) (fun _ _ _ h => h) (Or.inl ⟨by rfl, ?_⟩) ?_ ?_
  rotate_left
  · intro w'
    go_simp
    with_reducible rfl
  rotate_left
  · simp only [Act.put, List.setIfInBounds_toArray, List.set_cons_zero, List.set_cons_succ, i64_w, i32_w]
    rfl
  refine pure_ (i := 8) (N := some 55) (v := ?_) (a' := ?_) (Hand.bv 54 0x1ff) rfl rfl (any_of HT_.out (by kernel_rfl)) (fun _ _ _ h => h) (Or.inl ⟨by rfl, ?_⟩) ?_ ?_
  rotate_left
  · intro w'
    go_simp
    with_reducible rfl
  rotate_left
  · simp only [Act.put, List.setIfInBounds_toArray, List.set_cons_zero, List.set_cons_succ, i64_w, i32_w]
    rfl
  refine pure_ (i := 9) (N := some 56) (v := ?_) (a' := ?_) (Hand.bv 54 0x3ff) rfl rfl (any_of HT_.out (by kernel_rfl)) (fun _ _ _ h => h) (Or.inl ⟨by rfl, ?_⟩) ?_ ?_
  rotate_left
  · intro w'
    go_simp
    with_reducible rfl
  rotate_left
  · simp only [Act.put, List.setIfInBounds_toArray, List.set_cons_zero, List.set_cons_succ, i64_w, i32_w]
    rfl
  refine pure_ (i := 11) (N := some 58) (v := ?_) (a' := ?_) (Hand.bv 54 0xbff) rfl rfl (any_of HT_.out (by kernel_rfl)) (fun _ _ _ h => h) (Or.inl ⟨by rfl, ?_⟩) ?_ ?_
  rotate_left
  · intro w'
    go_simp
    with_reducible rfl
  rotate_left
  · simp only [Act.put, List.setIfInBounds_toArray, List.set_cons_zero, List.set_cons_succ, i64_w, i32_w]
    rfl
  refine pure_ (i := 14) (N := some 61) (v := ?_) (a' := ?_) (Hand.bv 54 0x4bff) rfl rfl (any_of HT_.out (by kernel_rfl)) (fun _ _ _ h => h) (Or.inl ⟨by rfl, ?_⟩) ?_ ?_
  rotate_left
  · intro w'
    go_simp
    with_reducible rfl
  rotate_left
  · simp only [Act.put, List.setIfInBounds_toArray, List.set_cons_zero, List.set_cons_succ, i64_w, i32_w]
    rfl
  refine take_ (i := 10) (N := some 57) (v := ?_) (a' := ?_) (Hand.bv 54 0x4fff) rfl rfl (take_ofW HT_.out HW_.out (by kernel_rfl)) (fun _ _ _ h => h) (Or.inl ⟨by rfl, ?_⟩) hHeld ?_ ?_
  rotate_left
  · rintro w' ⟨s0, s1, s2, s3, s4, s5, s6, s7, s8, s9, s10, s11, s12, s13, s14, s15, s16, s17, s18, s19, s20, s21, s22, s23, s24, s25, s26, s27, s28, s29⟩
    go_simp
    with_reducible rfl
  rotate_left
  · simp only [Act.put, List.setIfInBounds_toArray, List.set_cons_zero, List.set_cons_succ, i64_w, i32_w]
    rfl
  refine take_ (i := 12) (N := some 59) (v := ?_) (a' := ?_) (Hand.bv 54 0x5fff) rfl rfl (take_ofW HT_.out HW_.out (by kernel_rfl)) (fun _ _ _ h => h) (Or.inl ⟨by rfl, ?_⟩) hHeld ?_ ?_
  rotate_left
  · rintro w' ⟨s0, s1, s2, s3, s4, s5, s6, s7, s8, s9, s10, s11, s12, s13, s14, s15, s16, s17, s18, s19, s20, s21, s22, s23, s24, s25, s26, s27, s28, s29⟩
    go_simp
    with_reducible rfl
  rotate_left
  · simp only [Act.put, List.setIfInBounds_toArray, List.set_cons_zero, List.set_cons_succ, i64_w, i32_w]
    rfl
  refine pure_ (i := 13) (N := some 60) (v := ?_) (a' := ?_) (Hand.bv 54 0x7fff) rfl rfl (any_of HT_.out (by kernel_rfl)) (fun _ _ _ h => h) (Or.inl ⟨by rfl, ?_⟩) ?_ ?_
  rotate_left
  · intro w'
    go_simp
    with_reducible rfl
  rotate_left
  · simp only [Act.put, List.setIfInBounds_toArray, List.set_cons_zero, List.set_cons_succ, i64_w, i32_w]
    rfl
  refine pure_ (i := 15) (N := some 62) (v := ?_) (a' := ?_) (Hand.bv 54 0xffff) rfl rfl (any_of HT_.out (by kernel_rfl)) (fun _ _ _ h => h) (Or.inl ⟨by rfl, ?_⟩) ?_ ?_
  rotate_left
  · intro w'
    go_simp
    with_reducible rfl
  rotate_left
  · simp only [Act.put, List.setIfInBounds_toArray, List.set_cons_zero, List.set_cons_succ, i64_w, i32_w]
    rfl
  refine pure_ (i := 16) (N := some 63) (v := ?_) (a' := ?_) (Hand.bv 54 0x1ffff) rfl rfl (any_of HT_.out (by kernel_rfl)) (fun _ _ _ h => h) (Or.inl ⟨by rfl, ?_⟩) ?_ ?_
  rotate_left
  · intro w'
    go_simp
    with_reducible rfl
  rotate_left
  · simp only [Act.put, List.setIfInBounds_toArray, List.set_cons_zero, List.set_cons_succ, i64_w, i32_w]
    rfl
  refine pure_ (i := 17) (N := some 64) (v := ?_) (a' := ?_) (Hand.bv 54 0x3ffff) rfl rfl (any_of HT_.out (by kernel_rfl)) (fun _ _ _ h => h) (Or.inl ⟨by rfl, ?_⟩) ?_ ?_
  rotate_left
  · intro w'
    go_simp
    with_reducible rfl
  rotate_left
  · simp only [Act.put, List.setIfInBounds_toArray, List.set_cons_zero, List.set_cons_succ, i64_w, i32_w]
    rfl
  refine pure_ (i := 18) (N := some 65) (v := ?_) (a' := ?_) (Hand.bv 54 0x7ffff) rfl rfl (any_of HT_.out (by kernel_rfl)) (fun _ _ _ h => h) (Or.inl ⟨by rfl, ?_⟩) ?_ ?_
  rotate_left
  · intro w'
    go_simp
    with_reducible rfl
  rotate_left
  · simp only [Act.put, List.setIfInBounds_toArray, List.set_cons_zero, List.set_cons_succ, i64_w, i32_w]
    rfl
  refine take_ (i := 19) (N := some 66) (v := ?_) (a' := ?_) (Hand.bv 54 0xfffff) rfl rfl (take_ofW HT_.out HW_.out (by kernel_rfl)) (fun _ _ _ h => h) (Or.inl ⟨by rfl, ?_⟩) hHeld ?_ ?_
  rotate_left
  · rintro w' ⟨s0, s1, s2, s3, s4, s5, s6, s7, s8, s9, s10, s11, s12, s13, s14, s15, s16, s17, s18, s19, s20, s21, s22, s23, s24, s25, s26, s27, s28, s29⟩
    go_simp
    with_reducible rfl
  rotate_left
  · simp only [Act.put, List.setIfInBounds_toArray, List.set_cons_zero, List.set_cons_succ, i64_w, i32_w]
    rfl
  refine pure_ (i := 20) (N := some 67) (v := ?_) (a' := ?_) (Hand.bv 54 0x1fffff) rfl rfl (any_of HT_.out (by kernel_rfl)) (fun _ _ _ h => h) (Or.inl ⟨by rfl, ?_⟩) ?_ ?_
  rotate_left
  · intro w'
    go_simp
    with_reducible rfl
  rotate_left
  · simp only [Act.put, List.setIfInBounds_toArray, List.set_cons_zero, List.set_cons_succ, i64_w, i32_w]
    rfl
  refine pure_ (i := 21) (N := some 68) (v := ?_) (a' := ?_) (Hand.bv 54 0x3fffff) rfl rfl (any_of HT_.out (by kernel_rfl)) (fun _ _ _ h => h) (Or.inl ⟨by rfl, ?_⟩) ?_ ?_
  rotate_left
  · intro w'
    go_simp
    with_reducible rfl
  rotate_left
  · simp only [Act.put, List.setIfInBounds_toArray, List.set_cons_zero, List.set_cons_succ, i64_w, i32_w]
    rfl
  refine pure_ (i := 22) (N := some 69) (v := undef) (a' := ?_) (Hand.bv 54 0x7fffff) rfl rfl (any_of HT_.out (by kernel_rfl)) (fun _ _ _ h => h) (Or.inr ⟨by rfl, rfl⟩) ?_ ?_
  rotate_left
  · simp only [Act.put, List.setIfInBounds_toArray, List.set_cons_zero, List.set_cons_succ, i64_w, i32_w]
    rfl
  refine pure_ (i := 23) (N := some 70) (v := undef) (a' := ?_) (Hand.bv 54 0xffffff) rfl rfl (any_of HT_.out (by kernel_rfl)) (fun _ _ _ h => h) (Or.inr ⟨by rfl, rfl⟩) ?_ ?_
  rotate_left
  · simp only [Act.put, List.setIfInBounds_toArray, List.set_cons_zero, List.set_cons_succ, i64_w, i32_w]
    rfl
  refine pure_ (i := 24) (N := some 71) (v := undef) (a' := ?_) (Hand.bv 54 0x1ffffff) rfl rfl (any_of HT_.out (by kernel_rfl)) (fun _ _ _ h => h) (Or.inr ⟨by rfl, rfl⟩) ?_ ?_
  rotate_left
  · simp only [Act.put, List.setIfInBounds_toArray, List.set_cons_zero, List.set_cons_succ, i64_w, i32_w]
    rfl
  refine pure_ (i := 25) (N := some 72) (v := undef) (a' := ?_) (Hand.bv 54 0x3ffffff) rfl rfl (any_of HT_.out (by kernel_rfl)) (fun _ _ _ h => h) (Or.inr ⟨by rfl, rfl⟩) ?_ ?_
  rotate_left
  · simp only [Act.put, List.setIfInBounds_toArray, List.set_cons_zero, List.set_cons_succ, i64_w, i32_w]
    rfl
  refine pure_ (i := 26) (N := some 73) (v := undef) (a' := ?_) (Hand.bv 54 0x7ffffff) rfl rfl (any_of HT_.out (by kernel_rfl)) (fun _ _ _ h => h) (Or.inr ⟨by rfl, rfl⟩) ?_ ?_
  rotate_left
  · simp only [Act.put, List.setIfInBounds_toArray, List.set_cons_zero, List.set_cons_succ, i64_w, i32_w]
    rfl
  refine pure_ (i := 27) (N := some 74) (v := undef) (a' := ?_) (Hand.bv 54 0xfffffff) rfl rfl (any_of HT_.out (by kernel_rfl)) (fun _ _ _ h => h) (Or.inr ⟨by rfl, rfl⟩) ?_ ?_
  rotate_left
  · simp only [Act.put, List.setIfInBounds_toArray, List.set_cons_zero, List.set_cons_succ, i64_w, i32_w]
    rfl
  refine pure_ (i := 28) (N := some 75) (v := undef) (a' := ?_) (Hand.bv 54 0x1fffffff) rfl rfl (any_of HT_.out (by kernel_rfl)) (fun _ _ _ h => h) (Or.inr ⟨by rfl, rfl⟩) ?_ ?_
  rotate_left
  · simp only [Act.put, List.setIfInBounds_toArray, List.set_cons_zero, List.set_cons_succ, i64_w, i32_w]
    rfl
  refine pure_ (i := 29) (N := some 76) (v := ?_) (a' := ?_) (Hand.bv 54 0x3fffffff) rfl rfl (any_of HT_.out (by kernel_rfl)) (fun _ _ _ h => h) (Or.inl ⟨by rfl, ?_⟩) ?_ ?_
  rotate_left
  · intro w'
    go_simp
    with_reducible rfl
  rotate_left
  · simp only [Act.put, List.setIfInBounds_toArray, List.set_cons_zero, List.set_cons_succ, i64_w, i32_w]
    rfl
  refine pure_ (i := 30) (N := some 77) (v := ?_) (a' := ?_) (Hand.bv 54 0x7fffffff) rfl rfl (any_of HT_.out (by kernel_rfl)) (fun _ _ _ h => h) (Or.inl ⟨by rfl, ?_⟩) ?_ ?_
  rotate_left
  · intro w'
    go_simp
    with_reducible rfl
  rotate_left
  · simp only [Act.put, List.setIfInBounds_toArray, List.set_cons_zero, List.set_cons_succ, i64_w, i32_w]
    rfl
  refine pure_ (i := 31) (N := some 78) (v := ?_) (a' := ?_) (Hand.bv 54 0xffffffff) rfl rfl (any_of HT_.out (by kernel_rfl)) (fun _ _ _ h => h) (Or.inl ⟨by rfl, ?_⟩) ?_ ?_
  rotate_left
  · intro w'
    go_simp
    with_reducible rfl
  rotate_left
  · simp only [Act.put, List.setIfInBounds_toArray, List.set_cons_zero, List.set_cons_succ, i64_w, i32_w]
    rfl
  refine pure_ (i := 32) (N := some 79) (v := ?_) (a' := ?_) (Hand.bv 54 0x1ffffffff) rfl rfl (any_of HT_.out (by kernel_rfl)) (fun _ _ _ h => h) (Or.inl ⟨by rfl, ?_⟩) ?_ ?_
  rotate_left
  · intro w'
    go_simp
    with_reducible rfl
  rotate_left
  · simp only [Act.put, List.setIfInBounds_toArray, List.set_cons_zero, List.set_cons_succ, i64_w, i32_w]
    rfl
  refine take_ (i := 33) (N := some 80) (v := ?_) (a' := ?_) (Hand.bv 54 0x3ffffffff) rfl rfl (take_ofW HT_.out HW_.out (by kernel_rfl)) (fun _ _ _ h => h) (Or.inl ⟨by rfl, ?_⟩) hHeld ?_ ?_
  rotate_left
  · rintro w' ⟨s0, s1, s2, s3, s4, s5, s6, s7, s8, s9, s10, s11, s12, s13, s14, s15, s16, s17, s18, s19, s20, s21, s22, s23, s24, s25, s26, s27, s28, s29⟩
    go_simp
    with_reducible rfl
  rotate_left
  · simp only [Act.put, List.setIfInBounds_toArray, List.set_cons_zero, List.set_cons_succ, i64_w, i32_w]
    rfl
  refine pure_ (i := 34) (N := some 81) (v := ?_) (a' := ?_) (Hand.bv 54 0x7ffffffff) rfl rfl (any_of HT_.out (by kernel_rfl)) (fun _ _ _ h => h) (Or.inl ⟨by rfl, ?_⟩) ?_ ?_
  rotate_left
  · intro w'
    go_simp
    with_reducible rfl
  rotate_left
  · simp only [Act.put, List.setIfInBounds_toArray, List.set_cons_zero, List.set_cons_succ, i64_w, i32_w]
    rfl
  refine pure_ (i := 35) (N := some 82) (v := ?_) (a' := ?_) (Hand.bv 54 0xfffffffff) rfl rfl (any_of HT_.out (by kernel_rfl)) (fun _ _ _ h => h) (Or.inl ⟨by rfl, ?_⟩) ?_ ?_
  rotate_left
  · intro w'
    go_simp
    with_reducible rfl
  rotate_left
  · simp only [Act.put, List.setIfInBounds_toArray, List.set_cons_zero, List.set_cons_succ, i64_w, i32_w]
    rfl
  refine pure_ (i := 36) (N := some 83) (v := undef) (a' := ?_) (Hand.bv 54 0x1fffffffff) rfl rfl (any_of HT_.out (by kernel_rfl)) (fun _ _ _ h => h) (Or.inr ⟨by rfl, rfl⟩) ?_ ?_
  rotate_left
  · simp only [Act.put, List.setIfInBounds_toArray, List.set_cons_zero, List.set_cons_succ, i64_w, i32_w]
    rfl
  refine pure_ (i := 37) (N := some 84) (v := undef) (a' := ?_) (Hand.bv 54 0x3fffffffff) rfl rfl (any_of HT_.out (by kernel_rfl)) (fun _ _ _ h => h) (Or.inr ⟨by rfl, rfl⟩) ?_ ?_
  rotate_left
  · simp only [Act.put, List.setIfInBounds_toArray, List.set_cons_zero, List.set_cons_succ, i64_w, i32_w]
    rfl
  refine pure_ (i := 38) (N := some 85) (v := undef) (a' := ?_) (Hand.bv 54 0x7fffffffff) rfl rfl (any_of HT_.out (by kernel_rfl)) (fun _ _ _ h => h) (Or.inr ⟨by rfl, rfl⟩) ?_ ?_
  rotate_left
  · simp only [Act.put, List.setIfInBounds_toArray, List.set_cons_zero, List.set_cons_succ, i64_w, i32_w]
    rfl
  refine pure_ (i := 39) (N := some 86) (v := undef) (a' := ?_) (Hand.bv 54 0xffffffffff) rfl rfl (any_of HT_.out (by kernel_rfl)) (fun _ _ _ h => h) (Or.inr ⟨by rfl, rfl⟩) ?_ ?_
  rotate_left
  · simp only [Act.put, List.setIfInBounds_toArray, List.set_cons_zero, List.set_cons_succ, i64_w, i32_w]
    rfl
  refine pure_ (i := 40) (N := some 87) (v := undef) (a' := ?_) (Hand.bv 54 0x1ffffffffff) rfl rfl (any_of HT_.out (by kernel_rfl)) (fun _ _ _ h => h) (Or.inr ⟨by rfl, rfl⟩) ?_ ?_
  rotate_left
  · simp only [Act.put, List.setIfInBounds_toArray, List.set_cons_zero, List.set_cons_succ, i64_w, i32_w]
    rfl
  refine pure_ (i := 41) (N := some 88) (v := undef) (a' := ?_) (Hand.bv 54 0x3ffffffffff) rfl rfl (any_of HT_.out (by kernel_rfl)) (fun _ _ _ h => h) (Or.inr ⟨by rfl, rfl⟩) ?_ ?_
  rotate_left
  · simp only [Act.put, List.setIfInBounds_toArray, List.set_cons_zero, List.set_cons_succ, i64_w, i32_w]
    rfl
  refine pure_ (i := 42) (N := some 89) (v := undef) (a' := ?_) (Hand.bv 54 0x7ffffffffff) rfl rfl (any_of HT_.out (by kernel_rfl)) (fun _ _ _ h => h) (Or.inr ⟨by rfl, rfl⟩) ?_ ?_
  rotate_left
  · simp only [Act.put, List.setIfInBounds_toArray, List.set_cons_zero, List.set_cons_succ, i64_w, i32_w]
    rfl
  refine pure_ (i := 43) (N := some 90) (v := ?_) (a' := ?_) (Hand.bv 54 0xfffffffffff) rfl rfl (any_of HT_.out (by kernel_rfl)) (fun _ _ _ h => h) (Or.inl ⟨by rfl, ?_⟩) ?_ ?_
  rotate_left
  · intro w'
    go_simp
    with_reducible rfl
  rotate_left
  · simp only [Act.put, List.setIfInBounds_toArray, List.set_cons_zero, List.set_cons_succ, i64_w, i32_w]
    rfl
  refine pure_ (i := 44) (N := some 91) (v := ?_) (a' := ?_) (Hand.bv 54 0x1fffffffffff) rfl rfl (any_of HT_.out (by kernel_rfl)) (fun _ _ _ h => h) (Or.inl ⟨by rfl, ?_⟩) ?_ ?_
  rotate_left
  · intro w'
    go_simp
    with_reducible rfl
  rotate_left
  · simp only [Act.put, List.setIfInBounds_toArray, List.set_cons_zero, List.set_cons_succ, i64_w, i32_w]
    rfl
  refine pure_ (i := 45) (N := some 92) (v := ?_) (a' := ?_) (Hand.bv 54 0x3fffffffffff) rfl rfl (any_of HT_.out (by kernel_rfl)) (fun _ _ _ h => h) (Or.inl ⟨by rfl, ?_⟩) ?_ ?_
  rotate_left
  · intro w'
    go_simp
    with_reducible rfl
  rotate_left
  · simp only [Act.put, List.setIfInBounds_toArray, List.set_cons_zero, List.set_cons_succ, i64_w, i32_w]
    rfl
  refine pure_ (i := 46) (N := some 93) (v := ?_) (a' := ?_) (Hand.bv 54 0x7fffffffffff) rfl rfl (any_of HT_.out (by kernel_rfl)) (fun _ _ _ h => h) (Or.inl ⟨by rfl, ?_⟩) ?_ ?_
  rotate_left
  · intro w'
    go_simp
    with_reducible rfl
  rotate_left
  · simp only [Act.put, List.setIfInBounds_toArray, List.set_cons_zero, List.set_cons_succ, i64_w, i32_w]
    rfl
  refine pure_ (i := 49) (N := some 96) (v := ?_) (a' := ?_) (Hand.bv 54 0x27fffffffffff) rfl rfl (any_of HT_.out (by kernel_rfl)) (fun _ _ _ h => h) (Or.inl ⟨by rfl, ?_⟩) ?_ ?_
  rotate_left
  · intro w'
    go_simp
    with_reducible rfl
  rotate_left
  · simp only [Act.put, List.setIfInBounds_toArray, List.set_cons_zero, List.set_cons_succ, i64_w, i32_w]
    rfl
  refine take_ (i := 47) (N := some 94) (v := ?_) (a' := ?_) (Hand.bv 54 0x2ffffffffffff) rfl rfl (take_ofW HT_.out HW_.out (by kernel_rfl)) (fun _ _ _ h => h) (Or.inl ⟨by rfl, ?_⟩) hHeld ?_ ?_
  rotate_left
  · rintro w' ⟨s0, s1, s2, s3, s4, s5, s6, s7, s8, s9, s10, s11, s12, s13, s14, s15, s16, s17, s18, s19, s20, s21, s22, s23, s24, s25, s26, s27, s28, s29⟩
    go_simp
    with_reducible rfl
  rotate_left
  · simp only [Act.put, List.setIfInBounds_toArray, List.set_cons_zero, List.set_cons_succ, i64_w, i32_w]
    rfl
  refine take_ (i := 50) (N := some 97) (v := ?_) (a' := ?_) (Hand.bv 54 0x6ffffffffffff) rfl rfl (take_ofW HT_.out HW_.out (by kernel_rfl)) (fun _ _ _ h => h) (Or.inl ⟨by rfl, ?_⟩) hHeld ?_ ?_
  rotate_left
  · rintro w' ⟨s0, s1, s2, s3, s4, s5, s6, s7, s8, s9, s10, s11, s12, s13, s14, s15, s16, s17, s18, s19, s20, s21, s22, s23, s24, s25, s26, s27, s28, s29⟩
    go_simp
    with_reducible rfl
  rotate_left
  · simp only [Act.put, List.setIfInBounds_toArray, List.set_cons_zero, List.set_cons_succ, i64_w, i32_w]
    rfl
  refine one_ (i := 48) (N := some 95) (Hand.bv 54 0x7ffffffffffff) rfl rfl (one_of HT_.out (by kernel_rfl)) (by decide) (fun K hK => ?_)
  refine goes_ Tryd.func30 (by kernel_rfl) rfl #[.slice Ao12 t111.length co12] (by rfl) rfl rfl (by (try simp only [List.map_toArray, List.map_cons, List.map_nil]); first | done | rfl | (simp only [List.length_drop, List.length_take]; rfl)) ?_
  with_reducible refine (params_ByOID.calls _ _ t111 t146 _ ?side1 ?side2 ?side3 A26.out).mono ?_
  (case side1 => first | exact HLd | (exact LaidOk.below HLd (by repeat (first | (with_reducible first | exact HB.out | apply below_alloc | apply pw_below_drewN | apply below_drew1) | exact HB.out))) | (repeat (first | exact HLd | apply LaidOk.drewN | apply LaidOk.drew | apply LaidOk.alloc)))
  (case side2 => repeat (first | exact (Kd.R_reads' HO_118007.out).2.2 | (with_reducible refine Kd.C_alloc ?_ _) | (with_reducible refine Kd.C_drewN ?_ _) | (with_reducible refine Kd.C_drew ?_)))
  (case side3 => exact (Kd.R_reads' HO_118007.out).2.1)
  rintro e w40 ⟨v147, rfl, ho0, hb⟩
  refine ⟨_, rfl, ?_⟩
  have n0_ := Aside0.mk (Kd.R_below (by (with_reducible repeat (first | apply Kd.R_alloc | apply Kd.R_drewN | apply Kd.R_drew)); exact HO_118007.out) hb)
  have n1_ := Aside0.mk (Kd.R_below (by (with_reducible repeat (first | apply Kd.R_alloc | apply Kd.R_drewN | apply Kd.R_drew)); exact HO_132007.out) hb)
  have n2_ := Aside0.mk (Kd.R_below (by (with_reducible repeat (first | apply Kd.R_alloc | apply Kd.R_drewN | apply Kd.R_drew)); exact HO141.out) hb)
  have n3_ := Aside0.mk (Kd.R_lower ho0 (below_size (by repeat (first | (with_reducible first | exact HB.out | apply below_alloc | apply pw_below_drewN | apply below_drew1 | refine below_set ?_ GE117.out | refine below_set ?_ GE131.out | refine below_set ?_ GE145.out) | exact HB.out))))
  have n4_ := Aside0.mk (blk_below (g := gb117) (o := .cells #[.int .i64 t104, .int .i64 t105, .string t106, .int .i64 t107, .int .i64 t108, .int .i64 t109, .int .i64 t110, .slice Ao12 t111.length co12, .int .i64 t114, .int .u32 t115] 37 (0, 0)) (by (with_reducible repeat (first | refine blk_drewN ?_ _ | refine blk_drew ?_ | refine blk_alloc ?_ _)); exact BK117.out) hb)
  have n5_ := Aside0.mk (blk_below (g := gb131) (o := .cells #[.int .i64 t118, .int .i64 t119, .string t120, .int .i64 t121, .int .i64 t122, .int .i64 t123, .int .i64 t124, .slice Ao17 t125.length co17, .int .i64 t128, .int .u32 t129] 37 (0, 0)) (by (with_reducible repeat (first | refine blk_drewN ?_ _ | refine blk_drew ?_ | refine blk_alloc ?_ _)); exact BK131.out) hb)
  have n6_ := Aside0.mk (blk_below (g := gb145) (o := .cells #[.int .i64 t132, .int .i64 t133, .string t134, .int .i64 t135, .int .i64 t136, .int .i64 t137, .int .i64 t138, .slice Ao35 t139.length co35, .int .i64 t142, .int .u32 t143] 37 (0, 0)) (by (with_reducible repeat (first | refine blk_drewN ?_ _ | refine blk_drew ?_ | refine blk_alloc ?_ _)); exact BK145.out) hb)
  have n7_ := Aside0.mk (below_step (by repeat (first | (with_reducible first | exact HB.out | apply below_alloc | apply pw_below_drewN | apply below_drew1 | refine below_set ?_ GE117.out | refine below_set ?_ GE131.out | refine below_set ?_ GE145.out) | exact HB.out)) hb)
  clear HO_118007
  clear HO_132007
  clear HO141
  clear BK117
  clear BK131
  clear BK145
  clear HB
  have HO_118007 := n0_
  have HO_132007 := n1_
  have HO141 := n2_
  have HO148 := n3_
  have BK117 := n4_
  have BK131 := n5_
  have BK145 := n6_
  have HB := n7_
  clear n0_ n1_ n2_ n3_ n4_ n5_ n6_ n7_
  (try clear hb)
  (try clear hb2)
  (try clear hk)
  (try clear hi)
  (try clear ho0)
  obtain ⟨Ao41, co41, eo41⟩ := Kd.R_slice HO148.out
  (first | subst eo41 | (injection eo41 with f1_ f2_ f3_; have f4_ := f1_.symm; have f5_ := f3_.symm; clear f1_ f2_ f3_; subst f4_; subst f5_))
  refine hK.out _ _ ⟨(blk_cell BK145.out 0).trans rfl, (blk_cell BK145.out 1).trans rfl, (blk_cell BK145.out 2).trans rfl, (blk_cell BK145.out 3).trans rfl, (blk_cell BK145.out 4).trans rfl, (blk_cell BK145.out 5).trans rfl, (blk_cell BK145.out 6).trans rfl, (blk_cell BK145.out 7).trans rfl, (blk_cell BK145.out 8).trans rfl, (blk_cell BK145.out 9).trans rfl, (blk_cell BK117.out 0).trans rfl, (blk_cell BK117.out 1).trans rfl, (blk_cell BK117.out 2).trans rfl, (blk_cell BK117.out 3).trans rfl, (blk_cell BK117.out 4).trans rfl, (blk_cell BK117.out 5).trans rfl, (blk_cell BK117.out 6).trans rfl, (blk_cell BK117.out 7).trans rfl, (blk_cell BK117.out 8).trans rfl, (blk_cell BK117.out 9).trans rfl, (blk_cell BK131.out 0).trans rfl, (blk_cell BK131.out 1).trans rfl, (blk_cell BK131.out 2).trans rfl, (blk_cell BK131.out 3).trans rfl, (blk_cell BK131.out 4).trans rfl, (blk_cell BK131.out 5).trans rfl, (blk_cell BK131.out 6).trans rfl, (blk_cell BK131.out 7).trans rfl, (blk_cell BK131.out 8).trans rfl, (blk_cell BK131.out 9).trans rfl⟩ (fun hHeld => ?_)
  clear hK K
  refine norm_ (a' := ?_) ?_ ?_
  rotate_left
  · show Act.put _ (some 95) _ = _
    simp only [Act.put, List.setIfInBounds_toArray, List.set_cons_zero, List.set_cons_succ, i64_w, i32_w]
    rfl
  refine one_ (i := 51) (N := some 98) (Hand.bv 54 0xfffffffffffff) rfl rfl (one_of HT_.out (by kernel_rfl)) (by decide) (fun K hK => ?_)
  refine goes_ Tryd.func35 (by kernel_rfl) rfl #[.slice Ao41 t146.length co41, .int .i64 t104] (by rfl) rfl rfl (by (try simp only [List.map_toArray, List.map_cons, List.map_nil]); first | done | rfl | (simp only [List.length_drop, List.length_take]; rfl)) ?_
  with_reducible refine (slices_Contains_int_int.calls kj6 _ _ t146 t104 t149 _ ?side1 ?side2 A27.out).mono ?_
  (case side1 => repeat (first | exact (Kd.R_reads' HO148.out).2.2 | (with_reducible refine Kd.C_alloc ?_ _) | (with_reducible refine Kd.C_drewN ?_ _) | (with_reducible refine Kd.C_drew ?_)))
  (case side2 => exact (Kd.R_reads' HO148.out).2.1)
  rintro e w' ⟨rfl, ⟨nd, rfl⟩⟩
  refine ⟨_, rfl, ?_⟩
  refine hK.out _ _ ⟨(blk_cell BK145.out 0).trans rfl, (blk_cell BK145.out 1).trans rfl, (blk_cell BK145.out 2).trans rfl, (blk_cell BK145.out 3).trans rfl, (blk_cell BK145.out 4).trans rfl, (blk_cell BK145.out 5).trans rfl, (blk_cell BK145.out 6).trans rfl, (blk_cell BK145.out 7).trans rfl, (blk_cell BK145.out 8).trans rfl, (blk_cell BK145.out 9).trans rfl, (blk_cell BK117.out 0).trans rfl, (blk_cell BK117.out 1).trans rfl, (blk_cell BK117.out 2).trans rfl, (blk_cell BK117.out 3).trans rfl, (blk_cell BK117.out 4).trans rfl, (blk_cell BK117.out 5).trans rfl, (blk_cell BK117.out 6).trans rfl, (blk_cell BK117.out 7).trans rfl, (blk_cell BK117.out 8).trans rfl, (blk_cell BK117.out 9).trans rfl, (blk_cell BK131.out 0).trans rfl, (blk_cell BK131.out 1).trans rfl, (blk_cell BK131.out 2).trans rfl, (blk_cell BK131.out 3).trans rfl, (blk_cell BK131.out 4).trans rfl, (blk_cell BK131.out 5).trans rfl, (blk_cell BK131.out 6).trans rfl, (blk_cell BK131.out 7).trans rfl, (blk_cell BK131.out 8).trans rfl, (blk_cell BK131.out 9).trans rfl⟩ (fun hHeld => ?_)
  clear hK K
  refine norm_ (a' := ?_) ?_ ?_
  rotate_left
  · show Act.put _ (some 98) _ = _
    simp only [Act.put, List.setIfInBounds_toArray, List.set_cons_zero, List.set_cons_succ, i64_w, i32_w]
    rfl
  refine pure_ (i := 52) (N := some 99) (v := ?_) (a' := ?_) (Hand.bv 54 0x1fffffffffffff) rfl rfl (any_of HT_.out (by kernel_rfl)) (fun _ _ _ h => h) (Or.inl ⟨by rfl, ?_⟩) ?_ ?_
  rotate_left
  · intro w'
    go_simp
    with_reducible rfl
  rotate_left
  · simp only [Act.put, List.setIfInBounds_toArray, List.set_cons_zero, List.set_cons_succ, i64_w, i32_w]
    rfl
  refine pure_ (i := 53) (N := some 4) (v := ?_) (a' := ?_) (Hand.bv 54 0x3fffffffffffff) rfl rfl (any_of HT_.out (by kernel_rfl)) (fun _ _ _ h => h) (Or.inl ⟨by rfl, ?_⟩) ?_ ?_
  rotate_left
  · intro w'
    go_simp
    with_reducible rfl
  rotate_left
  · simp only [Act.put, List.setIfInBounds_toArray, List.set_cons_zero, List.set_cons_succ, i64_w, i32_w]
    rfl
  refine done_ (done_of HT_.out (by kernel_rfl)) ?_
  try go_wp2
  go_ret
  exact ⟨by first | rfl | (simp [errW_none, errW_some] <;> rfl) | (simp [*, errW_none, errW_some] <;> rfl), by repeat (first | (with_reducible first | exact HB.out | apply below_alloc | apply pw_below_drewN | apply below_drew1 | refine below_set ?_ GE117.out | refine below_set ?_ GE131.out | refine below_set ?_ GE145.out) | exact HB.out)⟩

set_option maxHeartbeats 8000000 in
set_option maxRecDepth 100000 in
theorem apart_leaf1 (kj6 : Nat) (a0 a1 : Int) (t104 : Int) (t105 : Int) (t106 : ByteArray) (t107 : Int) (t108 : Int) (t109 : Int) (t110 : Int) (t111 : List Int) (t114 : Int) (t115 : Int) (t118 : Int) (t119 : Int) (t120 : ByteArray) (t121 : Int) (t122 : Int) (t123 : Int) (t124 : Int) (t125 : List Int) (t128 : Int) (t129 : Int) (t132 : Int) (t133 : Int) (t134 : ByteArray) (t135 : Int) (t136 : Int) (t137 : Int) (t138 : Int) (t139 : List Int) (t142 : Int) (t143 : Int) (t150 : List Int) (t153 : Bool) (w : World) (HLd : LaidOk w)
    (A5 : Aside0 (params_Get.f (wrap64 (1 + (Int.tmod (wrap64 (a0)) 25))) = some (t104, t105, t106, t107, t108, t109, t110, t111, t114, t115, true))) (A6 : Aside0 (params_Get.f (wrap64 (1 + (Int.tmod (wrap64 (a1)) 25))) = some (t118, t119, t120, t121, t122, t123, t124, t125, t128, t129, true))) (A7 : Aside0 (params_ByName.f t106 = some (t132, t133, t134, t135, t136, t137, t138, t139, t142, t143, true)))
    (A43 : Aside0 (params_ByOID.f t111 = some t150)) (A44 : Aside0 (slices_Contains_int_int.f kj6 t150 t104 = some t153)) (c22 : t132 = t104) (c23 : ((t106.toList == t120.toList) == (t104 == t118)) = true) (c24 : t114 = 0) (c25 : ¬ t115 = 0) (c42 : ((t115 == t129) == (t104 == t118)) = true) :
    Calls Tryd.prog 11 #[.int .u8 a0, .int .u8 a1] w fun e w' => e = .returned (.bool t153) ∧ Below w.heap.size w w' := by
  have hu37 := Tryd.underlying37
  have c22b0 : (t132 == t104) = true := beq_iff_eq.mpr c22
  have c22b1 : (t132 != t104) = false := bne_eq_false_iff_eq.mpr c22
  have c23b0 : ((t106.toList == t120.toList) == (t104 == t118)) = true := c23
  (try (have c23b1 : decide ((t106.toList == t120.toList) = (t104 == t118)) = true := by simpa using c23))
  (try (have c23b2 : ((t106.toList == t120.toList) == (t104 == t118)) = true := by simpa using c23))
  have c24b0 : (t114 == 0) = true := beq_iff_eq.mpr c24
  have c24b1 : (t114 != 0) = false := bne_eq_false_iff_eq.mpr c24
  have c25b0 : (t115 == 0) = false := beq_eq_false_iff_ne.mpr c25
  have c25b1 : (t115 != 0) = true := bne_iff_ne.mpr c25
  have c42b0 : ((t115 == t129) == (t104 == t118)) = true := c42
  (try (have c42b1 : decide ((t115 == t129) = (t104 == t118)) = true := by simpa using c42))
  (try (have c42b2 : ((t115 == t129) == (t104 == t118)) = true := by simpa using c42))
  clear c22 c23 c24 c25 c42
  go_enter Tryd.func11, Tryd.ntmps11
  go_wp2_with fail
  refine (pyxlaw13_awake.calls true w HLd rfl).mono ?_
  rintro e w1 ⟨rfl, hb1⟩
  have HB0 := Aside0.mk hb1
  clear hb1
  go_wp2_with fail
  refine (params_Get.calls _ t104 t105 t106 t107 t108 t109 t110 t111 t114 t115 true _ (HLd.below HB0.out) A5.out).mono ?_
  rintro e v0_ ⟨v, rfl, hR, hB⟩
  have HOn := Aside0.mk (Kd.R_lower hR HB0.out.size)
  have HBn := Aside0.mk (HB0.out.trans (hB.mono HB0.out.size))
  clear hR hB HB0
  obtain ⟨Ao12, co12, e1⟩ := Kd.R_slice HOn.out
  subst e1
  go_wp2_with fail
  have BK117 := Aside0.mk (blk_new v0_ (.cells #[.int .i64 t104, .int .i64 t105, .string t106, .int .i64 t107, .int .i64 t108, .int .i64 t109, .int .i64 t110, .slice Ao12 t111.length co12, .int .i64 t114, .int .u32 t115] 37))
  have HO_118007 := Aside0.mk (Kd.R_alloc HOn.out (.cells #[.int .i64 t104, .int .i64 t105, .string t106, .int .i64 t107, .int .i64 t108, .int .i64 t109, .int .i64 t110, .slice Ao12 t111.length co12, .int .i64 t114, .int .u32 t115] 37))
  have HB := Aside0.mk (below_alloc HBn.out (.cells #[.int .i64 t104, .int .i64 t105, .string t106, .int .i64 t107, .int .i64 t108, .int .i64 t109, .int .i64 t110, .slice Ao12 t111.length co12, .int .i64 t114, .int .u32 t115] 37))
  have GE117 := Aside0.mk HBn.out.size
  clear HOn HBn
  generalize v0_.alloc (.cells #[.int .i64 t104, .int .i64 t105, .string t106, .int .i64 t107, .int .i64 t108, .int .i64 t109, .int .i64 t110, .slice Ao12 t111.length co12, .int .i64 t114, .int .u32 t115] 37) = w0_ at BK117 HO_118007 HB ⊢
  generalize v0_.heap.size = gb117 at BK117 GE117 ⊢
  refine (params_Get.calls _ t118 t119 t120 t121 t122 t123 t124 t125 t128 t129 true _ (HLd.below HB.out) A6.out).mono ?_
  rintro e v1_ ⟨v, rfl, hR, hB⟩
  have HO_118007' := Aside0.mk (Kd.R_below HO_118007.out hB)
  clear HO_118007
  have HO_118007 := HO_118007'
  clear HO_118007'
  have BK117' := Aside0.mk (blk_below BK117.out hB)
  clear BK117
  have BK117 := BK117'
  clear BK117'
  have HOn := Aside0.mk (Kd.R_lower hR HB.out.size)
  have HBn := Aside0.mk (HB.out.trans (hB.mono HB.out.size))
  clear hR hB HB
  obtain ⟨Ao17, co17, e1⟩ := Kd.R_slice HOn.out
  subst e1
  have xn : (v1_.alloc (.cells #[.int .i64 t118, .int .i64 t119, .string t120, .int .i64 t121, .int .i64 t122, .int .i64 t123, .int .i64 t124, .slice Ao17 t125.length co17, .int .i64 t128, .int .u32 t129] 37)).cell? ⟨gb117, 2, none⟩ = some (.string t106) := (blk_cell (blk_alloc BK117.out (.cells #[.int .i64 t118, .int .i64 t119, .string t120, .int .i64 t121, .int .i64 t122, .int .i64 t123, .int .i64 t124, .slice Ao17 t125.length co17, .int .i64 t128, .int .u32 t129] 37)) 2).trans rfl
  go_wp2_with fail
  clear xn
  have BK131 := Aside0.mk (blk_new v1_ (.cells #[.int .i64 t118, .int .i64 t119, .string t120, .int .i64 t121, .int .i64 t122, .int .i64 t123, .int .i64 t124, .slice Ao17 t125.length co17, .int .i64 t128, .int .u32 t129] 37))
  have HO_132007 := Aside0.mk (Kd.R_alloc HOn.out (.cells #[.int .i64 t118, .int .i64 t119, .string t120, .int .i64 t121, .int .i64 t122, .int .i64 t123, .int .i64 t124, .slice Ao17 t125.length co17, .int .i64 t128, .int .u32 t129] 37))
  have HB := Aside0.mk (below_alloc HBn.out (.cells #[.int .i64 t118, .int .i64 t119, .string t120, .int .i64 t121, .int .i64 t122, .int .i64 t123, .int .i64 t124, .slice Ao17 t125.length co17, .int .i64 t128, .int .u32 t129] 37))
  have GE131 := Aside0.mk HBn.out.size
  have HO_118007' := Aside0.mk (Kd.R_alloc HO_118007.out (.cells #[.int .i64 t118, .int .i64 t119, .string t120, .int .i64 t121, .int .i64 t122, .int .i64 t123, .int .i64 t124, .slice Ao17 t125.length co17, .int .i64 t128, .int .u32 t129] 37))
  clear HO_118007
  have HO_118007 := HO_118007'
  clear HO_118007'
  have BK117' := Aside0.mk (blk_alloc BK117.out (.cells #[.int .i64 t118, .int .i64 t119, .string t120, .int .i64 t121, .int .i64 t122, .int .i64 t123, .int .i64 t124, .slice Ao17 t125.length co17, .int .i64 t128, .int .u32 t129] 37))
  clear BK117
  have BK117 := BK117'
  clear BK117'
  clear HOn HBn
  generalize v1_.alloc (.cells #[.int .i64 t118, .int .i64 t119, .string t120, .int .i64 t121, .int .i64 t122, .int .i64 t123, .int .i64 t124, .slice Ao17 t125.length co17, .int .i64 t128, .int .u32 t129] 37) = w1_ at BK131 HO_132007 HB HO_118007 BK117 ⊢
  generalize v1_.heap.size = gb131 at BK131 GE131 ⊢
  refine (params_ByName.calls _ t132 t133 t134 t135 t136 t137 t138 t139 t142 t143 true _ (HLd.below HB.out) A7.out).mono ?_
  rintro e v2_ ⟨v, rfl, hR, hB⟩
  have HO_118007' := Aside0.mk (Kd.R_below HO_118007.out hB)
  clear HO_118007
  have HO_118007 := HO_118007'
  clear HO_118007'
  have BK117' := Aside0.mk (blk_below BK117.out hB)
  clear BK117
  have BK117 := BK117'
  clear BK117'
  have HO_132007' := Aside0.mk (Kd.R_below HO_132007.out hB)
  clear HO_132007
  have HO_132007 := HO_132007'
  clear HO_132007'
  have BK131' := Aside0.mk (blk_below BK131.out hB)
  clear BK131
  have BK131 := BK131'
  clear BK131'
  have HOn := Aside0.mk (Kd.R_lower hR HB.out.size)
  have HBn := Aside0.mk (HB.out.trans (hB.mono HB.out.size))
  clear hR hB HB
  obtain ⟨Ao52, co52, e1⟩ := Kd.R_slice HOn.out
  subst e1
  have xa : (v2_.alloc (.cells #[.int .i64 t132, .int .i64 t133, .string t134, .int .i64 t135, .int .i64 t136, .int .i64 t137, .int .i64 t138, .slice Ao52 t139.length co52, .int .i64 t142, .int .u32 t143] 37)).cell? ⟨gb117, 0, none⟩ = some (.int .i64 t104) := (blk_cell (blk_alloc BK117.out (.cells #[.int .i64 t132, .int .i64 t133, .string t134, .int .i64 t135, .int .i64 t136, .int .i64 t137, .int .i64 t138, .slice Ao52 t139.length co52, .int .i64 t142, .int .u32 t143] 37)) 0).trans rfl
  have xb : (v2_.alloc (.cells #[.int .i64 t132, .int .i64 t133, .string t134, .int .i64 t135, .int .i64 t136, .int .i64 t137, .int .i64 t138, .slice Ao52 t139.length co52, .int .i64 t142, .int .u32 t143] 37)).cell? ⟨gb131, 0, none⟩ = some (.int .i64 t118) := (blk_cell (blk_alloc BK131.out (.cells #[.int .i64 t132, .int .i64 t133, .string t134, .int .i64 t135, .int .i64 t136, .int .i64 t137, .int .i64 t138, .slice Ao52 t139.length co52, .int .i64 t142, .int .u32 t143] 37)) 0).trans rfl
  go_wp2_with fail
  clear xa xb
  have BK145 := Aside0.mk (blk_new v2_ (.cells #[.int .i64 t132, .int .i64 t133, .string t134, .int .i64 t135, .int .i64 t136, .int .i64 t137, .int .i64 t138, .slice Ao52 t139.length co52, .int .i64 t142, .int .u32 t143] 37))
  have HO141 := Aside0.mk (Kd.R_alloc HOn.out (.cells #[.int .i64 t132, .int .i64 t133, .string t134, .int .i64 t135, .int .i64 t136, .int .i64 t137, .int .i64 t138, .slice Ao52 t139.length co52, .int .i64 t142, .int .u32 t143] 37))
  have HB := Aside0.mk (below_alloc HBn.out (.cells #[.int .i64 t132, .int .i64 t133, .string t134, .int .i64 t135, .int .i64 t136, .int .i64 t137, .int .i64 t138, .slice Ao52 t139.length co52, .int .i64 t142, .int .u32 t143] 37))
  have GE145 := Aside0.mk HBn.out.size
  have HO_118007' := Aside0.mk (Kd.R_alloc HO_118007.out (.cells #[.int .i64 t132, .int .i64 t133, .string t134, .int .i64 t135, .int .i64 t136, .int .i64 t137, .int .i64 t138, .slice Ao52 t139.length co52, .int .i64 t142, .int .u32 t143] 37))
  clear HO_118007
  have HO_118007 := HO_118007'
  clear HO_118007'
  have BK117' := Aside0.mk (blk_alloc BK117.out (.cells #[.int .i64 t132, .int .i64 t133, .string t134, .int .i64 t135, .int .i64 t136, .int .i64 t137, .int .i64 t138, .slice Ao52 t139.length co52, .int .i64 t142, .int .u32 t143] 37))
  clear BK117
  have BK117 := BK117'
  clear BK117'
  have HO_132007' := Aside0.mk (Kd.R_alloc HO_132007.out (.cells #[.int .i64 t132, .int .i64 t133, .string t134, .int .i64 t135, .int .i64 t136, .int .i64 t137, .int .i64 t138, .slice Ao52 t139.length co52, .int .i64 t142, .int .u32 t143] 37))
  clear HO_132007
  have HO_132007 := HO_132007'
  clear HO_132007'
  have BK131' := Aside0.mk (blk_alloc BK131.out (.cells #[.int .i64 t132, .int .i64 t133, .string t134, .int .i64 t135, .int .i64 t136, .int .i64 t137, .int .i64 t138, .slice Ao52 t139.length co52, .int .i64 t142, .int .u32 t143] 37))
  clear BK131
  have BK131 := BK131'
  clear BK131'
  clear HOn HBn
  generalize v2_.alloc (.cells #[.int .i64 t132, .int .i64 t133, .string t134, .int .i64 t135, .int .i64 t136, .int .i64 t137, .int .i64 t138, .slice Ao52 t139.length co52, .int .i64 t142, .int .u32 t143] 37) = w55 at BK145 HO141 HB HO_118007 BK117 HO_132007 BK131 ⊢
  generalize v2_.heap.size = gb145 at BK145 GE145 ⊢
  have n0_ := Aside0.mk (Kd.R_drew HO_118007.out)
  have n1_ := Aside0.mk (Kd.R_drew HO_132007.out)
  have n2_ := Aside0.mk (Kd.R_drew HO141.out)
  have n3_ := Aside0.mk (blk_drew BK117.out)
  have n4_ := Aside0.mk (blk_drew BK131.out)
  have n5_ := Aside0.mk (blk_drew BK145.out)
  have n6_ := Aside0.mk (below_drew1 HB.out)
  clear HO_118007
  clear HO_132007
  clear HO141
  clear BK117
  clear BK131
  clear BK145
  clear HB
  have HO_118007 := n0_
  have HO_132007 := n1_
  have HO141 := n2_
  have BK117 := n3_
  have BK131 := n4_
  have BK145 := n5_
  have HB := n6_
  clear n0_ n1_ n2_ n3_ n4_ n5_ n6_
  refine start_ (n := 54) (S := fun w' => w'.cell? ⟨gb145, 0, none⟩ = some (.int .i64 t132) ∧ w'.cell? ⟨gb145, 1, none⟩ = some (.int .i64 t133) ∧ w'.cell? ⟨gb145, 2, none⟩ = some (.string t134) ∧ w'.cell? ⟨gb145, 3, none⟩ = some (.int .i64 t135) ∧ w'.cell? ⟨gb145, 4, none⟩ = some (.int .i64 t136) ∧ w'.cell? ⟨gb145, 5, none⟩ = some (.int .i64 t137) ∧ w'.cell? ⟨gb145, 6, none⟩ = some (.int .i64 t138) ∧ w'.cell? ⟨gb145, 7, none⟩ = some (.slice Ao52 t139.length co52) ∧ w'.cell? ⟨gb145, 8, none⟩ = some (.int .i64 t142) ∧ w'.cell? ⟨gb145, 9, none⟩ = some (.int .u32 t143) ∧ w'.cell? ⟨gb117, 0, none⟩ = some (.int .i64 t104) ∧ w'.cell? ⟨gb117, 1, none⟩ = some (.int .i64 t105) ∧ w'.cell? ⟨gb117, 2, none⟩ = some (.string t106) ∧ w'.cell? ⟨gb117, 3, none⟩ = some (.int .i64 t107) ∧ w'.cell? ⟨gb117, 4, none⟩ = some (.int .i64 t108) ∧ w'.cell? ⟨gb117, 5, none⟩ = some (.int .i64 t109) ∧ w'.cell? ⟨gb117, 6, none⟩ = some (.int .i64 t110) ∧ w'.cell? ⟨gb117, 7, none⟩ = some (.slice Ao12 t111.length co12) ∧ w'.cell? ⟨gb117, 8, none⟩ = some (.int .i64 t114) ∧ w'.cell? ⟨gb117, 9, none⟩ = some (.int .u32 t115) ∧ w'.cell? ⟨gb131, 0, none⟩ = some (.int .i64 t118) ∧ w'.cell? ⟨gb131, 1, none⟩ = some (.int .i64 t119) ∧ w'.cell? ⟨gb131, 2, none⟩ = some (.string t120) ∧ w'.cell? ⟨gb131, 3, none⟩ = some (.int .i64 t121) ∧ w'.cell? ⟨gb131, 4, none⟩ = some (.int .i64 t122) ∧ w'.cell? ⟨gb131, 5, none⟩ = some (.int .i64 t123) ∧ w'.cell? ⟨gb131, 6, none⟩ = some (.int .i64 t124) ∧ w'.cell? ⟨gb131, 7, none⟩ = some (.slice Ao17 t125.length co17) ∧ w'.cell? ⟨gb131, 8, none⟩ = some (.int .i64 t128) ∧ w'.cell? ⟨gb131, 9, none⟩ = some (.int .u32 t129)) (ds := []) (Hand.bv 54 0x0) (by kernel_rfl) rfl rfl ⟨(blk_cell BK145.out 0).trans rfl, (blk_cell BK145.out 1).trans rfl, (blk_cell BK145.out 2).trans rfl, (blk_cell BK145.out 3).trans rfl, (blk_cell BK145.out 4).trans rfl, (blk_cell BK145.out 5).trans rfl, (blk_cell BK145.out 6).trans rfl, (blk_cell BK145.out 7).trans rfl, (blk_cell BK145.out 8).trans rfl, (blk_cell BK145.out 9).trans rfl, (blk_cell BK117.out 0).trans rfl, (blk_cell BK117.out 1).trans rfl, (blk_cell BK117.out 2).trans rfl, (blk_cell BK117.out 3).trans rfl, (blk_cell BK117.out 4).trans rfl, (blk_cell BK117.out 5).trans rfl, (blk_cell BK117.out 6).trans rfl, (blk_cell BK117.out 7).trans rfl, (blk_cell BK117.out 8).trans rfl, (blk_cell BK117.out 9).trans rfl, (blk_cell BK131.out 0).trans rfl, (blk_cell BK131.out 1).trans rfl, (blk_cell BK131.out 2).trans rfl, (blk_cell BK131.out 3).trans rfl, (blk_cell BK131.out 4).trans rfl, (blk_cell BK131.out 5).trans rfl, (blk_cell BK131.out 6).trans rfl, (blk_cell BK131.out 7).trans rfl, (blk_cell BK131.out 8).trans rfl, (blk_cell BK131.out 9).trans rfl⟩ (fun hHeld => ?_); refine with_tabW pyxlaw13_ParamsApart.tab9 pyxlaw13_ParamsApart.bits9 (fun HT_ HW_ => ?_)
  generalize w55.drew = w56 at HO_118007 HO_132007 HO141 BK117 BK131 BK145 HB hHeld ⊢
  refine pure_ (i := 0) (N := some 47) (v := ?_) (a' := ?_) (Hand.bv 54 0x1) rfl rfl (any_of HT_.out (by kernel_rfl)) (fun _ _ _ h => h) (Or.inl ⟨by rfl, ?_⟩) ?_ ?_
  rotate_left
  · intro w'
    go_simp
    with_reducible rfl
  rotate_left
  · simp only [Act.put, List.setIfInBounds_toArray, List.set_cons_zero, List.set_cons_succ, i64_w, i32_w]
    rfl
  refine pure_ (i := 1) (N := some 48) (v := ?_) (a' := ?_) (Hand.bv 54 0x3) rfl rfl (any_of HT_.out (by kernel_rfl)) (fun _ _ _ h => h) (Or.inl ⟨by rfl, ?_⟩) ?_ ?_
  rotate_left
  · intro w'
    go_simp
    with_reducible rfl
  rotate_left
  · simp only [Act.put, List.setIfInBounds_toArray, List.set_cons_zero, List.set_cons_succ, i64_w, i32_w]
    rfl
  refine pure_ (i := 2) (N := some 49) (v := ?_) (a' := ?_) (Hand.bv 54 0x7) rfl rfl (any_of HT_.out (by kernel_rfl)) (fun _ _ _ h => h) (Or.inl ⟨by rfl, ?_⟩) ?_ ?_
  rotate_left
  · intro w'
    go_simp
    with_reducible rfl
  rotate_left
  · simp only [Act.put, List.setIfInBounds_toArray, List.set_cons_zero, List.set_cons_succ, i64_w, i32_w]
    rfl
  refine pure_ (i := 4) (N := some 51) (v := ?_) (a' := ?_) (Hand.bv 54 0x17) rfl rfl (any_of HT_.out (by kernel_rfl)) (fun _ _ _ h => h) (Or.inl ⟨by rfl, ?_⟩) ?_ ?_
  rotate_left
  · intro w'
    go_simp
    with_reducible rfl
  rotate_left
  · simp only [Act.put, List.setIfInBounds_toArray, List.set_cons_zero, List.set_cons_succ, i64_w, i32_w]
    rfl
  refine take_ (i := 3) (N := some 50) (v := ?_) (a' := ?_) (Hand.bv 54 0x1f) rfl rfl (take_ofW HT_.out HW_.out (by kernel_rfl)) (fun _ _ _ h => h) (Or.inl ⟨by rfl, ?_⟩) hHeld ?_ ?_
  rotate_left
  · rintro w' ⟨s0, s1, s2, s3, s4, s5, s6, s7, s8, s9, s10, s11, s12, s13, s14, s15, s16, s17, s18, s19, s20, s21, s22, s23, s24, s25, s26, s27, s28, s29⟩
    go_simp
    with_reducible rfl
  rotate_left
  · simp only [Act.put, List.setIfInBounds_toArray, List.set_cons_zero, List.set_cons_succ, i64_w, i32_w]
    rfl
  refine take_ (i := 5) (N := some 52) (v := ?_) (a' := ?_) (Hand.bv 54 0x3f) rfl rfl (take_ofW HT_.out HW_.out (by kernel_rfl)) (fun _ _ _ h => h) (Or.inl ⟨by rfl, ?_⟩) hHeld ?_ ?_
  rotate_left
  · rintro w' ⟨s0, s1, s2, s3, s4, s5, s6, s7, s8, s9, s10, s11, s12, s13, s14, s15, s16, s17, s18, s19, s20, s21, s22, s23, s24, s25, s26, s27, s28, s29⟩
    go_simp
    with_reducible rfl
  rotate_left
  · simp only [Act.put, List.setIfInBounds_toArray, List.set_cons_zero, List.set_cons_succ, i64_w, i32_w]
    rfl
  refine pure_ (i := 6) (N := some 53) (v := ?_) (a' := ?_) (Hand.bv 54 0x7f) rfl rfl (any_of HT_.out (by kernel_rfl)) (fun _ _ _ h => h) (Or.inl ⟨by rfl, ?_⟩) ?_ ?_
  rotate_left
  · intro w'
    go_simp
    with_reducible rfl
  rotate_left
  · simp only [Act.put, List.setIfInBounds_toArray, List.set_cons_zero, List.set_cons_succ, i64_w, i32_w]
    rfl
  refine pure_ (i := 7) (N := some 54) (v := ?_) (a' := ?_) (Hand.bv 54 0xff) rfl rfl (any_of HT_.out (by kernel_rfl)) (fun _ _ _ h => h) (Or.inl ⟨by rfl, ?_⟩) ?_ ?_
  rotate_left
  · intro w'
    go_simp
    with_reducible rfl
  rotate_left
  · simp only [Act.put, List.setIfInBounds_toArray, List.set_cons_zero, List.set_cons_succ, i64_w, i32_w]
    rfl
  refine pure_ (i := 8) (N := some 55) (v := ?_) (a' := ?_) (Hand.bv 54 0x1ff) rfl rfl (any_of HT_.out (by kernel_rfl)) (fun _ _ _ h => h) (Or.inl ⟨by rfl, ?_⟩) ?_ ?_
  rotate_left
  · intro w'
    go_simp
    with_reducible rfl
  rotate_left
  · simp only [Act.put, List.setIfInBounds_toArray, List.set_cons_zero, List.set_cons_succ, i64_w, i32_w]
    rfl
  refine pure_ (i := 9) (N := some 56) (v := ?_) (a' := ?_) (Hand.bv 54 0x3ff) rfl rfl (any_of HT_.out (by kernel_rfl)) (fun _ _ _ h => h) (Or.inl ⟨by rfl, ?_⟩) ?_ ?_
  rotate_left
  · intro w'
    go_simp
    with_reducible rfl
  rotate_left
  · simp only [Act.put, List.setIfInBounds_toArray, List.set_cons_zero, List.set_cons_succ, i64_w, i32_w]
    rfl
  refine pure_ (i := 11) (N := some 58) (v := ?_) (a' := ?_) (Hand.bv 54 0xbff) rfl rfl (any_of HT_.out (by kernel_rfl)) (fun _ _ _ h => h) (Or.inl ⟨by rfl, ?_⟩) ?_ ?_
  rotate_left
  · intro w'
    go_simp
    with_reducible rfl
  rotate_left
  · simp only [Act.put, List.setIfInBounds_toArray, List.set_cons_zero, List.set_cons_succ, i64_w, i32_w]
    rfl
  refine pure_ (i := 14) (N := some 61) (v := ?_) (a' := ?_) (Hand.bv 54 0x4bff) rfl rfl (any_of HT_.out (by kernel_rfl)) (fun _ _ _ h => h) (Or.inl ⟨by rfl, ?_⟩) ?_ ?_
  rotate_left
  · intro w'
    go_simp
    with_reducible rfl
  rotate_left
  · simp only [Act.put, List.setIfInBounds_toArray, List.set_cons_zero, List.set_cons_succ, i64_w, i32_w]
    rfl
  refine take_ (i := 10) (N := some 57) (v := ?_) (a' := ?_) (Hand.bv 54 0x4fff) rfl rfl (take_ofW HT_.out HW_.out (by kernel_rfl)) (fun _ _ _ h => h) (Or.inl ⟨by rfl, ?_⟩) hHeld ?_ ?_
  rotate_left
  · rintro w' ⟨s0, s1, s2, s3, s4, s5, s6, s7, s8, s9, s10, s11, s12, s13, s14, s15, s16, s17, s18, s19, s20, s21, s22, s23, s24, s25, s26, s27, s28, s29⟩
    go_simp
    with_reducible rfl
  rotate_left
  · simp only [Act.put, List.setIfInBounds_toArray, List.set_cons_zero, List.set_cons_succ, i64_w, i32_w]
    rfl
  refine take_ (i := 12) (N := some 59) (v := ?_) (a' := ?_) (Hand.bv 54 0x5fff) rfl rfl (take_ofW HT_.out HW_.out (by kernel_rfl)) (fun _ _ _ h => h) (Or.inl ⟨by rfl, ?_⟩) hHeld ?_ ?_
  rotate_left
  · rintro w' ⟨s0, s1, s2, s3, s4, s5, s6, s7, s8, s9, s10, s11, s12, s13, s14, s15, s16, s17, s18, s19, s20, s21, s22, s23, s24, s25, s26, s27, s28, s29⟩
    go_simp
    with_reducible rfl
  rotate_left
  · simp only [Act.put, List.setIfInBounds_toArray, List.set_cons_zero, List.set_cons_succ, i64_w, i32_w]
    rfl
  refine pure_ (i := 13) (N := some 60) (v := ?_) (a' := ?_) (Hand.bv 54 0x7fff) rfl rfl (any_of HT_.out (by kernel_rfl)) (fun _ _ _ h => h) (Or.inl ⟨by rfl, ?_⟩) ?_ ?_
  rotate_left
  · intro w'
    go_simp
    with_reducible rfl
  rotate_left
  · simp only [Act.put, List.setIfInBounds_toArray, List.set_cons_zero, List.set_cons_succ, i64_w, i32_w]
    rfl
  refine pure_ (i := 15) (N := some 62) (v := ?_) (a' := ?_) (Hand.bv 54 0xffff) rfl rfl (any_of HT_.out (by kernel_rfl)) (fun _ _ _ h => h) (Or.inl ⟨by rfl, ?_⟩) ?_ ?_
  rotate_left
  · intro w'
    go_simp
    with_reducible rfl
  rotate_left
  · simp only [Act.put, List.setIfInBounds_toArray, List.set_cons_zero, List.set_cons_succ, i64_w, i32_w]
    rfl
  refine pure_ (i := 16) (N := some 63) (v := ?_) (a' := ?_) (Hand.bv 54 0x1ffff) rfl rfl (any_of HT_.out (by kernel_rfl)) (fun _ _ _ h => h) (Or.inl ⟨by rfl, ?_⟩) ?_ ?_
  rotate_left
  · intro w'
    go_simp
    with_reducible rfl
  rotate_left
  · simp only [Act.put, List.setIfInBounds_toArray, List.set_cons_zero, List.set_cons_succ, i64_w, i32_w]
    rfl
  refine pure_ (i := 17) (N := some 64) (v := ?_) (a' := ?_) (Hand.bv 54 0x3ffff) rfl rfl (any_of HT_.out (by kernel_rfl)) (fun _ _ _ h => h) (Or.inl ⟨by rfl, ?_⟩) ?_ ?_
  rotate_left
  · intro w'
    go_simp
    with_reducible rfl
  rotate_left
  · simp only [Act.put, List.setIfInBounds_toArray, List.set_cons_zero, List.set_cons_succ, i64_w, i32_w]
    rfl
  refine pure_ (i := 18) (N := some 65) (v := ?_) (a' := ?_) (Hand.bv 54 0x7ffff) rfl rfl (any_of HT_.out (by kernel_rfl)) (fun _ _ _ h => h) (Or.inl ⟨by rfl, ?_⟩) ?_ ?_
  rotate_left
  · intro w'
    go_simp
    with_reducible rfl
  rotate_left
  · simp only [Act.put, List.setIfInBounds_toArray, List.set_cons_zero, List.set_cons_succ, i64_w, i32_w]
    rfl
  refine take_ (i := 19) (N := some 66) (v := ?_) (a' := ?_) (Hand.bv 54 0xfffff) rfl rfl (take_ofW HT_.out HW_.out (by kernel_rfl)) (fun _ _ _ h => h) (Or.inl ⟨by rfl, ?_⟩) hHeld ?_ ?_
  rotate_left
  · rintro w' ⟨s0, s1, s2, s3, s4, s5, s6, s7, s8, s9, s10, s11, s12, s13, s14, s15, s16, s17, s18, s19, s20, s21, s22, s23, s24, s25, s26, s27, s28, s29⟩
    go_simp
    with_reducible rfl
  rotate_left
  · simp only [Act.put, List.setIfInBounds_toArray, List.set_cons_zero, List.set_cons_succ, i64_w, i32_w]
    rfl
  refine pure_ (i := 20) (N := some 67) (v := ?_) (a' := ?_) (Hand.bv 54 0x1fffff) rfl rfl (any_of HT_.out (by kernel_rfl)) (fun _ _ _ h => h) (Or.inl ⟨by rfl, ?_⟩) ?_ ?_
  rotate_left
  · intro w'
    go_simp
    with_reducible rfl
  rotate_left
  · simp only [Act.put, List.setIfInBounds_toArray, List.set_cons_zero, List.set_cons_succ, i64_w, i32_w]
    rfl
  refine pure_ (i := 21) (N := some 68) (v := ?_) (a' := ?_) (Hand.bv 54 0x3fffff) rfl rfl (any_of HT_.out (by kernel_rfl)) (fun _ _ _ h => h) (Or.inl ⟨by rfl, ?_⟩) ?_ ?_
  rotate_left
  · intro w'
    go_simp
    with_reducible rfl
  rotate_left
  · simp only [Act.put, List.setIfInBounds_toArray, List.set_cons_zero, List.set_cons_succ, i64_w, i32_w]
    rfl
  refine pure_ (i := 22) (N := some 69) (v := undef) (a' := ?_) (Hand.bv 54 0x7fffff) rfl rfl (any_of HT_.out (by kernel_rfl)) (fun _ _ _ h => h) (Or.inr ⟨by rfl, rfl⟩) ?_ ?_
  rotate_left
  · simp only [Act.put, List.setIfInBounds_toArray, List.set_cons_zero, List.set_cons_succ, i64_w, i32_w]
    rfl
  refine pure_ (i := 23) (N := some 70) (v := undef) (a' := ?_) (Hand.bv 54 0xffffff) rfl rfl (any_of HT_.out (by kernel_rfl)) (fun _ _ _ h => h) (Or.inr ⟨by rfl, rfl⟩) ?_ ?_
  rotate_left
  · simp only [Act.put, List.setIfInBounds_toArray, List.set_cons_zero, List.set_cons_succ, i64_w, i32_w]
    rfl
  refine pure_ (i := 24) (N := some 71) (v := undef) (a' := ?_) (Hand.bv 54 0x1ffffff) rfl rfl (any_of HT_.out (by kernel_rfl)) (fun _ _ _ h => h) (Or.inr ⟨by rfl, rfl⟩) ?_ ?_
  rotate_left
  · simp only [Act.put, List.setIfInBounds_toArray, List.set_cons_zero, List.set_cons_succ, i64_w, i32_w]
    rfl
  refine pure_ (i := 25) (N := some 72) (v := undef) (a' := ?_) (Hand.bv 54 0x3ffffff) rfl rfl (any_of HT_.out (by kernel_rfl)) (fun _ _ _ h => h) (Or.inr ⟨by rfl, rfl⟩) ?_ ?_
  rotate_left
  · simp only [Act.put, List.setIfInBounds_toArray, List.set_cons_zero, List.set_cons_succ, i64_w, i32_w]
    rfl
  refine pure_ (i := 26) (N := some 73) (v := undef) (a' := ?_) (Hand.bv 54 0x7ffffff) rfl rfl (any_of HT_.out (by kernel_rfl)) (fun _ _ _ h => h) (Or.inr ⟨by rfl, rfl⟩) ?_ ?_
  rotate_left
  · simp only [Act.put, List.setIfInBounds_toArray, List.set_cons_zero, List.set_cons_succ, i64_w, i32_w]
    rfl
  refine pure_ (i := 27) (N := some 74) (v := undef) (a' := ?_) (Hand.bv 54 0xfffffff) rfl rfl (any_of HT_.out (by kernel_rfl)) (fun _ _ _ h => h) (Or.inr ⟨by rfl, rfl⟩) ?_ ?_
  rotate_left
  · simp only [Act.put, List.setIfInBounds_toArray, List.set_cons_zero, List.set_cons_succ, i64_w, i32_w]
    rfl
  refine pure_ (i := 28) (N := some 75) (v := undef) (a' := ?_) (Hand.bv 54 0x1fffffff) rfl rfl (any_of HT_.out (by kernel_rfl)) (fun _ _ _ h => h) (Or.inr ⟨by rfl, rfl⟩) ?_ ?_
  rotate_left
  · simp only [Act.put, List.setIfInBounds_toArray, List.set_cons_zero, List.set_cons_succ, i64_w, i32_w]
    rfl
  refine pure_ (i := 29) (N := some 76) (v := ?_) (a' := ?_) (Hand.bv 54 0x3fffffff) rfl rfl (any_of HT_.out (by kernel_rfl)) (fun _ _ _ h => h) (Or.inl ⟨by rfl, ?_⟩) ?_ ?_
  rotate_left
  · intro w'
    go_simp
    with_reducible rfl
  rotate_left
  · simp only [Act.put, List.setIfInBounds_toArray, List.set_cons_zero, List.set_cons_succ, i64_w, i32_w]
    rfl
  refine pure_ (i := 30) (N := some 77) (v := ?_) (a' := ?_) (Hand.bv 54 0x7fffffff) rfl rfl (any_of HT_.out (by kernel_rfl)) (fun _ _ _ h => h) (Or.inl ⟨by rfl, ?_⟩) ?_ ?_
  rotate_left
  · intro w'
    go_simp
    with_reducible rfl
  rotate_left
  · simp only [Act.put, List.setIfInBounds_toArray, List.set_cons_zero, List.set_cons_succ, i64_w, i32_w]
    rfl
  refine pure_ (i := 31) (N := some 78) (v := ?_) (a' := ?_) (Hand.bv 54 0xffffffff) rfl rfl (any_of HT_.out (by kernel_rfl)) (fun _ _ _ h => h) (Or.inl ⟨by rfl, ?_⟩) ?_ ?_
  rotate_left
  · intro w'
    go_simp
    with_reducible rfl
  rotate_left
  · simp only [Act.put, List.setIfInBounds_toArray, List.set_cons_zero, List.set_cons_succ, i64_w, i32_w]
    rfl
  refine pure_ (i := 32) (N := some 79) (v := ?_) (a' := ?_) (Hand.bv 54 0x1ffffffff) rfl rfl (any_of HT_.out (by kernel_rfl)) (fun _ _ _ h => h) (Or.inl ⟨by rfl, ?_⟩) ?_ ?_
  rotate_left
  · intro w'
    go_simp
    with_reducible rfl
  rotate_left
  · simp only [Act.put, List.setIfInBounds_toArray, List.set_cons_zero, List.set_cons_succ, i64_w, i32_w]
    rfl
  refine take_ (i := 33) (N := some 80) (v := ?_) (a' := ?_) (Hand.bv 54 0x3ffffffff) rfl rfl (take_ofW HT_.out HW_.out (by kernel_rfl)) (fun _ _ _ h => h) (Or.inl ⟨by rfl, ?_⟩) hHeld ?_ ?_
  rotate_left
  · rintro w' ⟨s0, s1, s2, s3, s4, s5, s6, s7, s8, s9, s10, s11, s12, s13, s14, s15, s16, s17, s18, s19, s20, s21, s22, s23, s24, s25, s26, s27, s28, s29⟩
    go_simp
    with_reducible rfl
  rotate_left
  · simp only [Act.put, List.setIfInBounds_toArray, List.set_cons_zero, List.set_cons_succ, i64_w, i32_w]
    rfl
  refine pure_ (i := 34) (N := some 81) (v := ?_) (a' := ?_) (Hand.bv 54 0x7ffffffff) rfl rfl (any_of HT_.out (by kernel_rfl)) (fun _ _ _ h => h) (Or.inl ⟨by rfl, ?_⟩) ?_ ?_
  rotate_left
  · intro w'
    go_simp
    with_reducible rfl
  rotate_left
  · simp only [Act.put, List.setIfInBounds_toArray, List.set_cons_zero, List.set_cons_succ, i64_w, i32_w]
    rfl
  refine pure_ (i := 35) (N := some 82) (v := ?_) (a' := ?_) (Hand.bv 54 0xfffffffff) rfl rfl (any_of HT_.out (by kernel_rfl)) (fun _ _ _ h => h) (Or.inl ⟨by rfl, ?_⟩) ?_ ?_
  rotate_left
  · intro w'
    go_simp
    with_reducible rfl
  rotate_left
  · simp only [Act.put, List.setIfInBounds_toArray, List.set_cons_zero, List.set_cons_succ, i64_w, i32_w]
    rfl
  refine pure_ (i := 36) (N := some 83) (v := ?_) (a' := ?_) (Hand.bv 54 0x1fffffffff) rfl rfl (any_of HT_.out (by kernel_rfl)) (fun _ _ _ h => h) (Or.inl ⟨by rfl, ?_⟩) ?_ ?_
  rotate_left
  · intro w'
    go_simp
    with_reducible rfl
  rotate_left
  · simp only [Act.put, List.setIfInBounds_toArray, List.set_cons_zero, List.set_cons_succ, i64_w, i32_w]
    rfl
  refine pure_ (i := 38) (N := some 85) (v := ?_) (a' := ?_) (Hand.bv 54 0x5fffffffff) rfl rfl (any_of HT_.out (by kernel_rfl)) (fun _ _ _ h => h) (Or.inl ⟨by rfl, ?_⟩) ?_ ?_
  rotate_left
  · intro w'
    go_simp
    with_reducible rfl
  rotate_left
  · simp only [Act.put, List.setIfInBounds_toArray, List.set_cons_zero, List.set_cons_succ, i64_w, i32_w]
    rfl
  refine pure_ (i := 41) (N := some 88) (v := ?_) (a' := ?_) (Hand.bv 54 0x25fffffffff) rfl rfl (any_of HT_.out (by kernel_rfl)) (fun _ _ _ h => h) (Or.inl ⟨by rfl, ?_⟩) ?_ ?_
  rotate_left
  · intro w'
    go_simp
    with_reducible rfl
  rotate_left
  · simp only [Act.put, List.setIfInBounds_toArray, List.set_cons_zero, List.set_cons_succ, i64_w, i32_w]
    rfl
  refine take_ (i := 37) (N := some 84) (v := ?_) (a' := ?_) (Hand.bv 54 0x27fffffffff) rfl rfl (take_ofW HT_.out HW_.out (by kernel_rfl)) (fun _ _ _ h => h) (Or.inl ⟨by rfl, ?_⟩) hHeld ?_ ?_
  rotate_left
  · rintro w' ⟨s0, s1, s2, s3, s4, s5, s6, s7, s8, s9, s10, s11, s12, s13, s14, s15, s16, s17, s18, s19, s20, s21, s22, s23, s24, s25, s26, s27, s28, s29⟩
    go_simp
    with_reducible rfl
  rotate_left
  · simp only [Act.put, List.setIfInBounds_toArray, List.set_cons_zero, List.set_cons_succ, i64_w, i32_w]
    rfl
  refine take_ (i := 39) (N := some 86) (v := ?_) (a' := ?_) (Hand.bv 54 0x2ffffffffff) rfl rfl (take_ofW HT_.out HW_.out (by kernel_rfl)) (fun _ _ _ h => h) (Or.inl ⟨by rfl, ?_⟩) hHeld ?_ ?_
  rotate_left
  · rintro w' ⟨s0, s1, s2, s3, s4, s5, s6, s7, s8, s9, s10, s11, s12, s13, s14, s15, s16, s17, s18, s19, s20, s21, s22, s23, s24, s25, s26, s27, s28, s29⟩
    go_simp
    with_reducible rfl
  rotate_left
  · simp only [Act.put, List.setIfInBounds_toArray, List.set_cons_zero, List.set_cons_succ, i64_w, i32_w]
    rfl
  refine pure_ (i := 40) (N := some 87) (v := ?_) (a' := ?_) (Hand.bv 54 0x3ffffffffff) rfl rfl (any_of HT_.out (by kernel_rfl)) (fun _ _ _ h => h) (Or.inl ⟨by rfl, ?_⟩) ?_ ?_
  rotate_left
  · intro w'
    go_simp
    with_reducible rfl
  rotate_left
  · simp only [Act.put, List.setIfInBounds_toArray, List.set_cons_zero, List.set_cons_succ, i64_w, i32_w]
    rfl
  refine pure_ (i := 42) (N := some 89) (v := ?_) (a' := ?_) (Hand.bv 54 0x7ffffffffff) rfl rfl (any_of HT_.out (by kernel_rfl)) (fun _ _ _ h => h) (Or.inl ⟨by rfl, ?_⟩) ?_ ?_
  rotate_left
  · intro w'
    go_simp
    with_reducible rfl
  rotate_left
  · simp only [Act.put, List.setIfInBounds_toArray, List.set_cons_zero, List.set_cons_succ, i64_w, i32_w]
    rfl
  refine pure_ (i := 43) (N := some 90) (v := ?_) (a' := ?_) (Hand.bv 54 0xfffffffffff) rfl rfl (any_of HT_.out (by kernel_rfl)) (fun _ _ _ h => h) (Or.inl ⟨by rfl, ?_⟩) ?_ ?_
  rotate_left
  · intro w'
    go_simp
    with_reducible rfl
  rotate_left
  · simp only [Act.put, List.setIfInBounds_toArray, List.set_cons_zero, List.set_cons_succ, i64_w, i32_w]
    rfl
  refine pure_ (i := 44) (N := some 91) (v := ?_) (a' := ?_) (Hand.bv 54 0x1fffffffffff) rfl rfl (any_of HT_.out (by kernel_rfl)) (fun _ _ _ h => h) (Or.inl ⟨by rfl, ?_⟩) ?_ ?_
  rotate_left
  · intro w'
    go_simp
    with_reducible rfl
  rotate_left
  · simp only [Act.put, List.setIfInBounds_toArray, List.set_cons_zero, List.set_cons_succ, i64_w, i32_w]
    rfl
  refine pure_ (i := 45) (N := some 92) (v := ?_) (a' := ?_) (Hand.bv 54 0x3fffffffffff) rfl rfl (any_of HT_.out (by kernel_rfl)) (fun _ _ _ h => h) (Or.inl ⟨by rfl, ?_⟩) ?_ ?_
  rotate_left
  · intro w'
    go_simp
    with_reducible rfl
  rotate_left
  · simp only [Act.put, List.setIfInBounds_toArray, List.set_cons_zero, List.set_cons_succ, i64_w, i32_w]
    rfl
  refine pure_ (i := 46) (N := some 93) (v := ?_) (a' := ?_) (Hand.bv 54 0x7fffffffffff) rfl rfl (any_of HT_.out (by kernel_rfl)) (fun _ _ _ h => h) (Or.inl ⟨by rfl, ?_⟩) ?_ ?_
  rotate_left
  · intro w'
    go_simp
    with_reducible rfl
  rotate_left
  · simp only [Act.put, List.setIfInBounds_toArray, List.set_cons_zero, List.set_cons_succ, i64_w, i32_w]
    rfl
  refine pure_ (i := 49) (N := some 96) (v := ?_) (a' := ?_) (Hand.bv 54 0x27fffffffffff) rfl rfl (any_of HT_.out (by kernel_rfl)) (fun _ _ _ h => h) (Or.inl ⟨by rfl, ?_⟩) ?_ ?_
  rotate_left
  · intro w'
    go_simp
    with_reducible rfl
  rotate_left
  · simp only [Act.put, List.setIfInBounds_toArray, List.set_cons_zero, List.set_cons_succ, i64_w, i32_w]
    rfl
  refine take_ (i := 47) (N := some 94) (v := ?_) (a' := ?_) (Hand.bv 54 0x2ffffffffffff) rfl rfl (take_ofW HT_.out HW_.out (by kernel_rfl)) (fun _ _ _ h => h) (Or.inl ⟨by rfl, ?_⟩) hHeld ?_ ?_
  rotate_left
  · rintro w' ⟨s0, s1, s2, s3, s4, s5, s6, s7, s8, s9, s10, s11, s12, s13, s14, s15, s16, s17, s18, s19, s20, s21, s22, s23, s24, s25, s26, s27, s28, s29⟩
    go_simp
    with_reducible rfl
  rotate_left
  · simp only [Act.put, List.setIfInBounds_toArray, List.set_cons_zero, List.set_cons_succ, i64_w, i32_w]
    rfl
  refine take_ (i := 50) (N := some 97) (v := ?_) (a' := ?_) (Hand.bv 54 0x6ffffffffffff) rfl rfl (take_ofW HT_.out HW_.out (by kernel_rfl)) (fun _ _ _ h => h) (Or.inl ⟨by rfl, ?_⟩) hHeld ?_ ?_
  rotate_left
  · rintro w' ⟨s0, s1, s2, s3, s4, s5, s6, s7, s8, s9, s10, s11, s12, s13, s14, s15, s16, s17, s18, s19, s20, s21, s22, s23, s24, s25, s26, s27, s28, s29⟩
    go_simp
    with_reducible rfl
  rotate_left
  · simp only [Act.put, List.setIfInBounds_toArray, List.set_cons_zero, List.set_cons_succ, i64_w, i32_w]
    rfl
  refine one_ (i := 48) (N := some 95) (Hand.bv 54 0x7ffffffffffff) rfl rfl (one_of HT_.out (by kernel_rfl)) (by decide) (fun K hK => ?_)
  refine goes_ Tryd.func30 (by kernel_rfl) rfl #[.slice Ao12 t111.length co12] (by rfl) rfl rfl (by (try simp only [List.map_toArray, List.map_cons, List.map_nil]); first | done | rfl | (simp only [List.length_drop, List.length_take]; rfl)) ?_
  with_reducible refine (params_ByOID.calls _ _ t111 t150 _ ?side1 ?side2 ?side3 A43.out).mono ?_
  (case side1 => first | exact HLd | (exact LaidOk.below HLd (by repeat (first | (with_reducible first | exact HB.out | apply below_alloc | apply pw_below_drewN | apply below_drew1) | exact HB.out))) | (repeat (first | exact HLd | apply LaidOk.drewN | apply LaidOk.drew | apply LaidOk.alloc)))
  (case side2 => repeat (first | exact (Kd.R_reads' HO_118007.out).2.2 | (with_reducible refine Kd.C_alloc ?_ _) | (with_reducible refine Kd.C_drewN ?_ _) | (with_reducible refine Kd.C_drew ?_)))
  (case side3 => exact (Kd.R_reads' HO_118007.out).2.1)
  rintro e w57 ⟨v151, rfl, ho0, hb⟩
  refine ⟨_, rfl, ?_⟩
  have n0_ := Aside0.mk (Kd.R_below (by (with_reducible repeat (first | apply Kd.R_alloc | apply Kd.R_drewN | apply Kd.R_drew)); exact HO_118007.out) hb)
  have n1_ := Aside0.mk (Kd.R_below (by (with_reducible repeat (first | apply Kd.R_alloc | apply Kd.R_drewN | apply Kd.R_drew)); exact HO_132007.out) hb)
  have n2_ := Aside0.mk (Kd.R_below (by (with_reducible repeat (first | apply Kd.R_alloc | apply Kd.R_drewN | apply Kd.R_drew)); exact HO141.out) hb)
  have n3_ := Aside0.mk (Kd.R_lower ho0 (below_size (by repeat (first | (with_reducible first | exact HB.out | apply below_alloc | apply pw_below_drewN | apply below_drew1 | refine below_set ?_ GE117.out | refine below_set ?_ GE131.out | refine below_set ?_ GE145.out) | exact HB.out))))
  have n4_ := Aside0.mk (blk_below (g := gb117) (o := .cells #[.int .i64 t104, .int .i64 t105, .string t106, .int .i64 t107, .int .i64 t108, .int .i64 t109, .int .i64 t110, .slice Ao12 t111.length co12, .int .i64 t114, .int .u32 t115] 37 (0, 0)) (by (with_reducible repeat (first | refine blk_drewN ?_ _ | refine blk_drew ?_ | refine blk_alloc ?_ _)); exact BK117.out) hb)
  have n5_ := Aside0.mk (blk_below (g := gb131) (o := .cells #[.int .i64 t118, .int .i64 t119, .string t120, .int .i64 t121, .int .i64 t122, .int .i64 t123, .int .i64 t124, .slice Ao17 t125.length co17, .int .i64 t128, .int .u32 t129] 37 (0, 0)) (by (with_reducible repeat (first | refine blk_drewN ?_ _ | refine blk_drew ?_ | refine blk_alloc ?_ _)); exact BK131.out) hb)
  have n6_ := Aside0.mk (blk_below (g := gb145) (o := .cells #[.int .i64 t132, .int .i64 t133, .string t134, .int .i64 t135, .int .i64 t136, .int .i64 t137, .int .i64 t138, .slice Ao52 t139.length co52, .int .i64 t142, .int .u32 t143] 37 (0, 0)) (by (with_reducible repeat (first | refine blk_drewN ?_ _ | refine blk_drew ?_ | refine blk_alloc ?_ _)); exact BK145.out) hb)
  have n7_ := Aside0.mk (below_step (by repeat (first | (with_reducible first | exact HB.out | apply below_alloc | apply pw_below_drewN | apply below_drew1 | refine below_set ?_ GE117.out | refine below_set ?_ GE131.out | refine below_set ?_ GE145.out) | exact HB.out)) hb)
  clear HO_118007
  clear HO_132007
  clear HO141
  clear BK117
  clear BK131
  clear BK145
  clear HB
  have HO_118007 := n0_
  have HO_132007 := n1_
  have HO141 := n2_
  have HO152 := n3_
  have BK117 := n4_
  have BK131 := n5_
  have BK145 := n6_
  have HB := n7_
  clear n0_ n1_ n2_ n3_ n4_ n5_ n6_ n7_
  (try clear hb)
  (try clear hb2)
  (try clear hk)
  (try clear hi)
  (try clear ho0)
  obtain ⟨Ao58, co58, eo58⟩ := Kd.R_slice HO152.out
  (first | subst eo58 | (injection eo58 with f1_ f2_ f3_; have f4_ := f1_.symm; have f5_ := f3_.symm; clear f1_ f2_ f3_; subst f4_; subst f5_))
  refine hK.out _ _ ⟨(blk_cell BK145.out 0).trans rfl, (blk_cell BK145.out 1).trans rfl, (blk_cell BK145.out 2).trans rfl, (blk_cell BK145.out 3).trans rfl, (blk_cell BK145.out 4).trans rfl, (blk_cell BK145.out 5).trans rfl, (blk_cell BK145.out 6).trans rfl, (blk_cell BK145.out 7).trans rfl, (blk_cell BK145.out 8).trans rfl, (blk_cell BK145.out 9).trans rfl, (blk_cell BK117.out 0).trans rfl, (blk_cell BK117.out 1).trans rfl, (blk_cell BK117.out 2).trans rfl, (blk_cell BK117.out 3).trans rfl, (blk_cell BK117.out 4).trans rfl, (blk_cell BK117.out 5).trans rfl, (blk_cell BK117.out 6).trans rfl, (blk_cell BK117.out 7).trans rfl, (blk_cell BK117.out 8).trans rfl, (blk_cell BK117.out 9).trans rfl, (blk_cell BK131.out 0).trans rfl, (blk_cell BK131.out 1).trans rfl, (blk_cell BK131.out 2).trans rfl, (blk_cell BK131.out 3).trans rfl, (blk_cell BK131.out 4).trans rfl, (blk_cell BK131.out 5).trans rfl, (blk_cell BK131.out 6).trans rfl, (blk_cell BK131.out 7).trans rfl, (blk_cell BK131.out 8).trans rfl, (blk_cell BK131.out 9).trans rfl⟩ (fun hHeld => ?_)
  clear hK K
  refine norm_ (a' := ?_) ?_ ?_
  rotate_left
  · show Act.put _ (some 95) _ = _
    simp only [Act.put, List.setIfInBounds_toArray, List.set_cons_zero, List.set_cons_succ, i64_w, i32_w]
    rfl
  refine one_ (i := 51) (N := some 98) (Hand.bv 54 0xfffffffffffff) rfl rfl (one_of HT_.out (by kernel_rfl)) (by decide) (fun K hK => ?_)
  refine goes_ Tryd.func35 (by kernel_rfl) rfl #[.slice Ao58 t150.length co58, .int .i64 t104] (by rfl) rfl rfl (by (try simp only [List.map_toArray, List.map_cons, List.map_nil]); first | done | rfl | (simp only [List.length_drop, List.length_take]; rfl)) ?_
  with_reducible refine (slices_Contains_int_int.calls kj6 _ _ t150 t104 t153 _ ?side1 ?side2 A44.out).mono ?_
  (case side1 => repeat (first | exact (Kd.R_reads' HO152.out).2.2 | (with_reducible refine Kd.C_alloc ?_ _) | (with_reducible refine Kd.C_drewN ?_ _) | (with_reducible refine Kd.C_drew ?_)))
  (case side2 => exact (Kd.R_reads' HO152.out).2.1)
  rintro e w' ⟨rfl, ⟨nd, rfl⟩⟩
  refine ⟨_, rfl, ?_⟩
  refine hK.out _ _ ⟨(blk_cell BK145.out 0).trans rfl, (blk_cell BK145.out 1).trans rfl, (blk_cell BK145.out 2).trans rfl, (blk_cell BK145.out 3).trans rfl, (blk_cell BK145.out 4).trans rfl, (blk_cell BK145.out 5).trans rfl, (blk_cell BK145.out 6).trans rfl, (blk_cell BK145.out 7).trans rfl, (blk_cell BK145.out 8).trans rfl, (blk_cell BK145.out 9).trans rfl, (blk_cell BK117.out 0).trans rfl, (blk_cell BK117.out 1).trans rfl, (blk_cell BK117.out 2).trans rfl, (blk_cell BK117.out 3).trans rfl, (blk_cell BK117.out 4).trans rfl, (blk_cell BK117.out 5).trans rfl, (blk_cell BK117.out 6).trans rfl, (blk_cell BK117.out 7).trans rfl, (blk_cell BK117.out 8).trans rfl, (blk_cell BK117.out 9).trans rfl, (blk_cell BK131.out 0).trans rfl, (blk_cell BK131.out 1).trans rfl, (blk_cell BK131.out 2).trans rfl, (blk_cell BK131.out 3).trans rfl, (blk_cell BK131.out 4).trans rfl, (blk_cell BK131.out 5).trans rfl, (blk_cell BK131.out 6).trans rfl, (blk_cell BK131.out 7).trans rfl, (blk_cell BK131.out 8).trans rfl, (blk_cell BK131.out 9).trans rfl⟩ (fun hHeld => ?_)
  clear hK K
  refine norm_ (a' := ?_) ?_ ?_
  rotate_left
  · show Act.put _ (some 98) _ = _
    simp only [Act.put, List.setIfInBounds_toArray, List.set_cons_zero, List.set_cons_succ, i64_w, i32_w]
    rfl
  refine pure_ (i := 52) (N := some 99) (v := ?_) (a' := ?_) (Hand.bv 54 0x1fffffffffffff) rfl rfl (any_of HT_.out (by kernel_rfl)) (fun _ _ _ h => h) (Or.inl ⟨by rfl, ?_⟩) ?_ ?_
  rotate_left
  · intro w'
    go_simp
    with_reducible rfl
  rotate_left
  · simp only [Act.put, List.setIfInBounds_toArray, List.set_cons_zero, List.set_cons_succ, i64_w, i32_w]
    rfl
  refine pure_ (i := 53) (N := some 4) (v := ?_) (a' := ?_) (Hand.bv 54 0x3fffffffffffff) rfl rfl (any_of HT_.out (by kernel_rfl)) (fun _ _ _ h => h) (Or.inl ⟨by rfl, ?_⟩) ?_ ?_
  rotate_left
  · intro w'
    go_simp
    with_reducible rfl
  rotate_left
  · simp only [Act.put, List.setIfInBounds_toArray, List.set_cons_zero, List.set_cons_succ, i64_w, i32_w]
    rfl
  refine done_ (done_of HT_.out (by kernel_rfl)) ?_
  try go_wp2
  go_ret
  exact ⟨by first | rfl | (simp [errW_none, errW_some] <;> rfl) | (simp [*, errW_none, errW_some] <;> rfl), by repeat (first | (with_reducible first | exact HB.out | apply below_alloc | apply pw_below_drewN | apply below_drew1 | refine below_set ?_ GE117.out | refine below_set ?_ GE131.out | refine below_set ?_ GE145.out) | exact HB.out)⟩

set_option maxHeartbeats 8000000 in
set_option maxRecDepth 100000 in
theorem apart_leaf2 (kj6 : Nat) (a0 a1 : Int) (t104 : Int) (t105 : Int) (t106 : ByteArray) (t107 : Int) (t108 : Int) (t109 : Int) (t110 : Int) (t111 : List Int) (t114 : Int) (t115 : Int) (t118 : Int) (t119 : Int) (t120 : ByteArray) (t121 : Int) (t122 : Int) (t123 : Int) (t124 : Int) (t125 : List Int) (t128 : Int) (t129 : Int) (t132 : Int) (t133 : Int) (t134 : ByteArray) (t135 : Int) (t136 : Int) (t137 : Int) (t138 : Int) (t139 : List Int) (t142 : Int) (t143 : Int) (t154 : List Int) (t157 : Bool) (w : World) (HLd : LaidOk w)
    (A5 : Aside0 (params_Get.f (wrap64 (1 + (Int.tmod (wrap64 (a0)) 25))) = some (t104, t105, t106, t107, t108, t109, t110, t111, t114, t115, true))) (A6 : Aside0 (params_Get.f (wrap64 (1 + (Int.tmod (wrap64 (a1)) 25))) = some (t118, t119, t120, t121, t122, t123, t124, t125, t128, t129, true))) (A7 : Aside0 (params_ByName.f t106 = some (t132, t133, t134, t135, t136, t137, t138, t139, t142, t143, true)))
    (A61 : Aside0 (params_ByOID.f t111 = some t154)) (A62 : Aside0 (slices_Contains_int_int.f kj6 t154 t104 = some t157)) (c22 : t132 = t104) (c23 : ((t106.toList == t120.toList) == (t104 == t118)) = true) (c24 : ¬ t114 = 0) (c59 : ((t114 == t128) == (t104 == t118)) = true) (c25 : t115 = 0) :
    Calls Tryd.prog 11 #[.int .u8 a0, .int .u8 a1] w fun e w' => e = .returned (.bool t157) ∧ Below w.heap.size w w' := by
  have hu37 := Tryd.underlying37
  have c22b0 : (t132 == t104) = true := beq_iff_eq.mpr c22
  have c22b1 : (t132 != t104) = false := bne_eq_false_iff_eq.mpr c22
  have c23b0 : ((t106.toList == t120.toList) == (t104 == t118)) = true := c23
  (try (have c23b1 : decide ((t106.toList == t120.toList) = (t104 == t118)) = true := by simpa using c23))
  (try (have c23b2 : ((t106.toList == t120.toList) == (t104 == t118)) = true := by simpa using c23))
  have c24b0 : (t114 == 0) = false := beq_eq_false_iff_ne.mpr c24
  have c24b1 : (t114 != 0) = true := bne_iff_ne.mpr c24
  have c59b0 : ((t114 == t128) == (t104 == t118)) = true := c59
  (try (have c59b1 : decide ((t114 == t128) = (t104 == t118)) = true := by simpa using c59))
  (try (have c59b2 : ((t114 == t128) == (t104 == t118)) = true := by simpa using c59))
  have c25b0 : (t115 == 0) = true := beq_iff_eq.mpr c25
  have c25b1 : (t115 != 0) = false := bne_eq_false_iff_eq.mpr c25
  clear c22 c23 c24 c59 c25
  go_enter Tryd.func11, Tryd.ntmps11
  go_wp2_with fail
  refine (pyxlaw13_awake.calls true w HLd rfl).mono ?_
  rintro e w1 ⟨rfl, hb1⟩
  have HB0 := Aside0.mk hb1
  clear hb1
  go_wp2_with fail
  refine (params_Get.calls _ t104 t105 t106 t107 t108 t109 t110 t111 t114 t115 true _ (HLd.below HB0.out) A5.out).mono ?_
  rintro e v0_ ⟨v, rfl, hR, hB⟩
  have HOn := Aside0.mk (Kd.R_lower hR HB0.out.size)
  have HBn := Aside0.mk (HB0.out.trans (hB.mono HB0.out.size))
  clear hR hB HB0
  obtain ⟨Ao12, co12, e1⟩ := Kd.R_slice HOn.out
  subst e1
  go_wp2_with fail
  have BK117 := Aside0.mk (blk_new v0_ (.cells #[.int .i64 t104, .int .i64 t105, .string t106, .int .i64 t107, .int .i64 t108, .int .i64 t109, .int .i64 t110, .slice Ao12 t111.length co12, .int .i64 t114, .int .u32 t115] 37))
  have HO_118007 := Aside0.mk (Kd.R_alloc HOn.out (.cells #[.int .i64 t104, .int .i64 t105, .string t106, .int .i64 t107, .int .i64 t108, .int .i64 t109, .int .i64 t110, .slice Ao12 t111.length co12, .int .i64 t114, .int .u32 t115] 37))
  have HB := Aside0.mk (below_alloc HBn.out (.cells #[.int .i64 t104, .int .i64 t105, .string t106, .int .i64 t107, .int .i64 t108, .int .i64 t109, .int .i64 t110, .slice Ao12 t111.length co12, .int .i64 t114, .int .u32 t115] 37))
  have GE117 := Aside0.mk HBn.out.size
  clear HOn HBn
  generalize v0_.alloc (.cells #[.int .i64 t104, .int .i64 t105, .string t106, .int .i64 t107, .int .i64 t108, .int .i64 t109, .int .i64 t110, .slice Ao12 t111.length co12, .int .i64 t114, .int .u32 t115] 37) = w0_ at BK117 HO_118007 HB ⊢
  generalize v0_.heap.size = gb117 at BK117 GE117 ⊢
  refine (params_Get.calls _ t118 t119 t120 t121 t122 t123 t124 t125 t128 t129 true _ (HLd.below HB.out) A6.out).mono ?_
  rintro e v1_ ⟨v, rfl, hR, hB⟩
  have HO_118007' := Aside0.mk (Kd.R_below HO_118007.out hB)
  clear HO_118007
  have HO_118007 := HO_118007'
  clear HO_118007'
  have BK117' := Aside0.mk (blk_below BK117.out hB)
  clear BK117
  have BK117 := BK117'
  clear BK117'
  have HOn := Aside0.mk (Kd.R_lower hR HB.out.size)
  have HBn := Aside0.mk (HB.out.trans (hB.mono HB.out.size))
  clear hR hB HB
  obtain ⟨Ao17, co17, e1⟩ := Kd.R_slice HOn.out
  subst e1
  have xn : (v1_.alloc (.cells #[.int .i64 t118, .int .i64 t119, .string t120, .int .i64 t121, .int .i64 t122, .int .i64 t123, .int .i64 t124, .slice Ao17 t125.length co17, .int .i64 t128, .int .u32 t129] 37)).cell? ⟨gb117, 2, none⟩ = some (.string t106) := (blk_cell (blk_alloc BK117.out (.cells #[.int .i64 t118, .int .i64 t119, .string t120, .int .i64 t121, .int .i64 t122, .int .i64 t123, .int .i64 t124, .slice Ao17 t125.length co17, .int .i64 t128, .int .u32 t129] 37)) 2).trans rfl
  go_wp2_with fail
  clear xn
  have BK131 := Aside0.mk (blk_new v1_ (.cells #[.int .i64 t118, .int .i64 t119, .string t120, .int .i64 t121, .int .i64 t122, .int .i64 t123, .int .i64 t124, .slice Ao17 t125.length co17, .int .i64 t128, .int .u32 t129] 37))
  have HO_132007 := Aside0.mk (Kd.R_alloc HOn.out (.cells #[.int .i64 t118, .int .i64 t119, .string t120, .int .i64 t121, .int .i64 t122, .int .i64 t123, .int .i64 t124, .slice Ao17 t125.length co17, .int .i64 t128, .int .u32 t129] 37))
  have HB := Aside0.mk (below_alloc HBn.out (.cells #[.int .i64 t118, .int .i64 t119, .string t120, .int .i64 t121, .int .i64 t122, .int .i64 t123, .int .i64 t124, .slice Ao17 t125.length co17, .int .i64 t128, .int .u32 t129] 37))
  have GE131 := Aside0.mk HBn.out.size
  have HO_118007' := Aside0.mk (Kd.R_alloc HO_118007.out (.cells #[.int .i64 t118, .int .i64 t119, .string t120, .int .i64 t121, .int .i64 t122, .int .i64 t123, .int .i64 t124, .slice Ao17 t125.length co17, .int .i64 t128, .int .u32 t129] 37))
  clear HO_118007
  have HO_118007 := HO_118007'
  clear HO_118007'
  have BK117' := Aside0.mk (blk_alloc BK117.out (.cells #[.int .i64 t118, .int .i64 t119, .string t120, .int .i64 t121, .int .i64 t122, .int .i64 t123, .int .i64 t124, .slice Ao17 t125.length co17, .int .i64 t128, .int .u32 t129] 37))
  clear BK117
  have BK117 := BK117'
  clear BK117'
  clear HOn HBn
  generalize v1_.alloc (.cells #[.int .i64 t118, .int .i64 t119, .string t120, .int .i64 t121, .int .i64 t122, .int .i64 t123, .int .i64 t124, .slice Ao17 t125.length co17, .int .i64 t128, .int .u32 t129] 37) = w1_ at BK131 HO_132007 HB HO_118007 BK117 ⊢
  generalize v1_.heap.size = gb131 at BK131 GE131 ⊢
  refine (params_ByName.calls _ t132 t133 t134 t135 t136 t137 t138 t139 t142 t143 true _ (HLd.below HB.out) A7.out).mono ?_
  rintro e v2_ ⟨v, rfl, hR, hB⟩
  have HO_118007' := Aside0.mk (Kd.R_below HO_118007.out hB)
  clear HO_118007
  have HO_118007 := HO_118007'
  clear HO_118007'
  have BK117' := Aside0.mk (blk_below BK117.out hB)
  clear BK117
  have BK117 := BK117'
  clear BK117'
  have HO_132007' := Aside0.mk (Kd.R_below HO_132007.out hB)
  clear HO_132007
  have HO_132007 := HO_132007'
  clear HO_132007'
  have BK131' := Aside0.mk (blk_below BK131.out hB)
  clear BK131
  have BK131 := BK131'
  clear BK131'
  have HOn := Aside0.mk (Kd.R_lower hR HB.out.size)
  have HBn := Aside0.mk (HB.out.trans (hB.mono HB.out.size))
  clear hR hB HB
  obtain ⟨Ao70, co70, e1⟩ := Kd.R_slice HOn.out
  subst e1
  have xa : (v2_.alloc (.cells #[.int .i64 t132, .int .i64 t133, .string t134, .int .i64 t135, .int .i64 t136, .int .i64 t137, .int .i64 t138, .slice Ao70 t139.length co70, .int .i64 t142, .int .u32 t143] 37)).cell? ⟨gb117, 0, none⟩ = some (.int .i64 t104) := (blk_cell (blk_alloc BK117.out (.cells #[.int .i64 t132, .int .i64 t133, .string t134, .int .i64 t135, .int .i64 t136, .int .i64 t137, .int .i64 t138, .slice Ao70 t139.length co70, .int .i64 t142, .int .u32 t143] 37)) 0).trans rfl
  have xb : (v2_.alloc (.cells #[.int .i64 t132, .int .i64 t133, .string t134, .int .i64 t135, .int .i64 t136, .int .i64 t137, .int .i64 t138, .slice Ao70 t139.length co70, .int .i64 t142, .int .u32 t143] 37)).cell? ⟨gb131, 0, none⟩ = some (.int .i64 t118) := (blk_cell (blk_alloc BK131.out (.cells #[.int .i64 t132, .int .i64 t133, .string t134, .int .i64 t135, .int .i64 t136, .int .i64 t137, .int .i64 t138, .slice Ao70 t139.length co70, .int .i64 t142, .int .u32 t143] 37)) 0).trans rfl
  go_wp2_with fail
  clear xa xb
  have BK145 := Aside0.mk (blk_new v2_ (.cells #[.int .i64 t132, .int .i64 t133, .string t134, .int .i64 t135, .int .i64 t136, .int .i64 t137, .int .i64 t138, .slice Ao70 t139.length co70, .int .i64 t142, .int .u32 t143] 37))
  have HO141 := Aside0.mk (Kd.R_alloc HOn.out (.cells #[.int .i64 t132, .int .i64 t133, .string t134, .int .i64 t135, .int .i64 t136, .int .i64 t137, .int .i64 t138, .slice Ao70 t139.length co70, .int .i64 t142, .int .u32 t143] 37))
  have HB := Aside0.mk (below_alloc HBn.out (.cells #[.int .i64 t132, .int .i64 t133, .string t134, .int .i64 t135, .int .i64 t136, .int .i64 t137, .int .i64 t138, .slice Ao70 t139.length co70, .int .i64 t142, .int .u32 t143] 37))
  have GE145 := Aside0.mk HBn.out.size
  have HO_118007' := Aside0.mk (Kd.R_alloc HO_118007.out (.cells #[.int .i64 t132, .int .i64 t133, .string t134, .int .i64 t135, .int .i64 t136, .int .i64 t137, .int .i64 t138, .slice Ao70 t139.length co70, .int .i64 t142, .int .u32 t143] 37))
  clear HO_118007
  have HO_118007 := HO_118007'
  clear HO_118007'
  have BK117' := Aside0.mk (blk_alloc BK117.out (.cells #[.int .i64 t132, .int .i64 t133, .string t134, .int .i64 t135, .int .i64 t136, .int .i64 t137, .int .i64 t138, .slice Ao70 t139.length co70, .int .i64 t142, .int .u32 t143] 37))
  clear BK117
  have BK117 := BK117'
  clear BK117'
  have HO_132007' := Aside0.mk (Kd.R_alloc HO_132007.out (.cells #[.int .i64 t132, .int .i64 t133, .string t134, .int .i64 t135, .int .i64 t136, .int .i64 t137, .int .i64 t138, .slice Ao70 t139.length co70, .int .i64 t142, .int .u32 t143] 37))
  clear HO_132007
  have HO_132007 := HO_132007'
  clear HO_132007'
  have BK131' := Aside0.mk (blk_alloc BK131.out (.cells #[.int .i64 t132, .int .i64 t133, .string t134, .int .i64 t135, .int .i64 t136, .int .i64 t137, .int .i64 t138, .slice Ao70 t139.length co70, .int .i64 t142, .int .u32 t143] 37))
  clear BK131
  have BK131 := BK131'
  clear BK131'
  clear HOn HBn
  generalize v2_.alloc (.cells #[.int .i64 t132, .int .i64 t133, .string t134, .int .i64 t135, .int .i64 t136, .int .i64 t137, .int .i64 t138, .slice Ao70 t139.length co70, .int .i64 t142, .int .u32 t143] 37) = w73 at BK145 HO141 HB HO_118007 BK117 HO_132007 BK131 ⊢
  generalize v2_.heap.size = gb145 at BK145 GE145 ⊢
  have n0_ := Aside0.mk (Kd.R_drew HO_118007.out)
  have n1_ := Aside0.mk (Kd.R_drew HO_132007.out)
  have n2_ := Aside0.mk (Kd.R_drew HO141.out)
  have n3_ := Aside0.mk (blk_drew BK117.out)
  have n4_ := Aside0.mk (blk_drew BK131.out)
  have n5_ := Aside0.mk (blk_drew BK145.out)
  have n6_ := Aside0.mk (below_drew1 HB.out)
  clear HO_118007
  clear HO_132007
  clear HO141
  clear BK117
  clear BK131
  clear BK145
  clear HB
  have HO_118007 := n0_
  have HO_132007 := n1_
  have HO141 := n2_
  have BK117 := n3_
  have BK131 := n4_
  have BK145 := n5_
  have HB := n6_
  clear n0_ n1_ n2_ n3_ n4_ n5_ n6_
  refine start_ (n := 54) (S := fun w' => w'.cell? ⟨gb145, 0, none⟩ = some (.int .i64 t132) ∧ w'.cell? ⟨gb145, 1, none⟩ = some (.int .i64 t133) ∧ w'.cell? ⟨gb145, 2, none⟩ = some (.string t134) ∧ w'.cell? ⟨gb145, 3, none⟩ = some (.int .i64 t135) ∧ w'.cell? ⟨gb145, 4, none⟩ = some (.int .i64 t136) ∧ w'.cell? ⟨gb145, 5, none⟩ = some (.int .i64 t137) ∧ w'.cell? ⟨gb145, 6, none⟩ = some (.int .i64 t138) ∧ w'.cell? ⟨gb145, 7, none⟩ = some (.slice Ao70 t139.length co70) ∧ w'.cell? ⟨gb145, 8, none⟩ = some (.int .i64 t142) ∧ w'.cell? ⟨gb145, 9, none⟩ = some (.int .u32 t143) ∧ w'.cell? ⟨gb117, 0, none⟩ = some (.int .i64 t104) ∧ w'.cell? ⟨gb117, 1, none⟩ = some (.int .i64 t105) ∧ w'.cell? ⟨gb117, 2, none⟩ = some (.string t106) ∧ w'.cell? ⟨gb117, 3, none⟩ = some (.int .i64 t107) ∧ w'.cell? ⟨gb117, 4, none⟩ = some (.int .i64 t108) ∧ w'.cell? ⟨gb117, 5, none⟩ = some (.int .i64 t109) ∧ w'.cell? ⟨gb117, 6, none⟩ = some (.int .i64 t110) ∧ w'.cell? ⟨gb117, 7, none⟩ = some (.slice Ao12 t111.length co12) ∧ w'.cell? ⟨gb117, 8, none⟩ = some (.int .i64 t114) ∧ w'.cell? ⟨gb117, 9, none⟩ = some (.int .u32 t115) ∧ w'.cell? ⟨gb131, 0, none⟩ = some (.int .i64 t118) ∧ w'.cell? ⟨gb131, 1, none⟩ = some (.int .i64 t119) ∧ w'.cell? ⟨gb131, 2, none⟩ = some (.string t120) ∧ w'.cell? ⟨gb131, 3, none⟩ = some (.int .i64 t121) ∧ w'.cell? ⟨gb131, 4, none⟩ = some (.int .i64 t122) ∧ w'.cell? ⟨gb131, 5, none⟩ = some (.int .i64 t123) ∧ w'.cell? ⟨gb131, 6, none⟩ = some (.int .i64 t124) ∧ w'.cell? ⟨gb131, 7, none⟩ = some (.slice Ao17 t125.length co17) ∧ w'.cell? ⟨gb131, 8, none⟩ = some (.int .i64 t128) ∧ w'.cell? ⟨gb131, 9, none⟩ = some (.int .u32 t129)) (ds := []) (Hand.bv 54 0x0) (by kernel_rfl) rfl rfl ⟨(blk_cell BK145.out 0).trans rfl, (blk_cell BK145.out 1).trans rfl, (blk_cell BK145.out 2).trans rfl, (blk_cell BK145.out 3).trans rfl, (blk_cell BK145.out 4).trans rfl, (blk_cell BK145.out 5).trans rfl, (blk_cell BK145.out 6).trans rfl, (blk_cell BK145.out 7).trans rfl, (blk_cell BK145.out 8).trans rfl, (blk_cell BK145.out 9).trans rfl, (blk_cell BK117.out 0).trans rfl, (blk_cell BK117.out 1).trans rfl, (blk_cell BK117.out 2).trans rfl, (blk_cell BK117.out 3).trans rfl, (blk_cell BK117.out 4).trans rfl, (blk_cell BK117.out 5).trans rfl, (blk_cell BK117.out 6).trans rfl, (blk_cell BK117.out 7).trans rfl, (blk_cell BK117.out 8).trans rfl, (blk_cell BK117.out 9).trans rfl, (blk_cell BK131.out 0).trans rfl, (blk_cell BK131.out 1).trans rfl, (blk_cell BK131.out 2).trans rfl, (blk_cell BK131.out 3).trans rfl, (blk_cell BK131.out 4).trans rfl, (blk_cell BK131.out 5).trans rfl, (blk_cell BK131.out 6).trans rfl, (blk_cell BK131.out 7).trans rfl, (blk_cell BK131.out 8).trans rfl, (blk_cell BK131.out 9).trans rfl⟩ (fun hHeld => ?_); refine with_tabW pyxlaw13_ParamsApart.tab9 pyxlaw13_ParamsApart.bits9 (fun HT_ HW_ => ?_)
  generalize w73.drew = w74 at HO_118007 HO_132007 HO141 BK117 BK131 BK145 HB hHeld ⊢
  refine pure_ (i := 0) (N := some 47) (v := ?_) (a' := ?_) (Hand.bv 54 0x1) rfl rfl (any_of HT_.out (by kernel_rfl)) (fun _ _ _ h => h) (Or.inl ⟨by rfl, ?_⟩) ?_ ?_
  rotate_left
  · intro w'
    go_simp
    with_reducible rfl
  rotate_left
  · simp only [Act.put, List.setIfInBounds_toArray, List.set_cons_zero, List.set_cons_succ, i64_w, i32_w]
    rfl
  refine pure_ (i := 1) (N := some 48) (v := ?_) (a' := ?_) (Hand.bv 54 0x3) rfl rfl (any_of HT_.out (by kernel_rfl)) (fun _ _ _ h => h) (Or.inl ⟨by rfl, ?_⟩) ?_ ?_
  rotate_left
  · intro w'
    go_simp
    with_reducible rfl
  rotate_left
  · simp only [Act.put, List.setIfInBounds_toArray, List.set_cons_zero, List.set_cons_succ, i64_w, i32_w]
    rfl
  refine pure_ (i := 2) (N := some 49) (v := ?_) (a' := ?_) (Hand.bv 54 0x7) rfl rfl (any_of HT_.out (by kernel_rfl)) (fun _ _ _ h => h) (Or.inl ⟨by rfl, ?_⟩) ?_ ?_
  rotate_left
  · intro w'
    go_simp
    with_reducible rfl
  rotate_left
  · simp only [Act.put, List.setIfInBounds_toArray, List.set_cons_zero, List.set_cons_succ, i64_w, i32_w]
    rfl
  refine pure_ (i := 4) (N := some 51) (v := ?_) (a' := ?_) (Hand.bv 54 0x17) rfl rfl (any_of HT_.out (by kernel_rfl)) (fun _ _ _ h => h) (Or.inl ⟨by rfl, ?_⟩) ?_ ?_
  rotate_left
  · intro w'
    go_simp
    with_reducible rfl
  rotate_left
  · simp only [Act.put, List.setIfInBounds_toArray, List.set_cons_zero, List.set_cons_succ, i64_w, i32_w]
    rfl
  refine take_ (i := 3) (N := some 50) (v := ?_) (a' := ?_) (Hand.bv 54 0x1f) rfl rfl (take_ofW HT_.out HW_.out (by kernel_rfl)) (fun _ _ _ h => h) (Or.inl ⟨by rfl, ?_⟩) hHeld ?_ ?_
  rotate_left
  · rintro w' ⟨s0, s1, s2, s3, s4, s5, s6, s7, s8, s9, s10, s11, s12, s13, s14, s15, s16, s17, s18, s19, s20, s21, s22, s23, s24, s25, s26, s27, s28, s29⟩
    go_simp
    with_reducible rfl
  rotate_left
  · simp only [Act.put, List.setIfInBounds_toArray, List.set_cons_zero, List.set_cons_succ, i64_w, i32_w]
    rfl
  refine take_ (i := 5) (N := some 52) (v := ?_) (a' := ?_) (Hand.bv 54 0x3f) rfl rfl (take_ofW HT_.out HW_.out (by kernel_rfl)) (fun _ _ _ h => h) (Or.inl ⟨by rfl, ?_⟩) hHeld ?_ ?_
  rotate_left
  · rintro w' ⟨s0, s1, s2, s3, s4, s5, s6, s7, s8, s9, s10, s11, s12, s13, s14, s15, s16, s17, s18, s19, s20, s21, s22, s23, s24, s25, s26, s27, s28, s29⟩
    go_simp
    with_reducible rfl
  rotate_left
  · simp only [Act.put, List.setIfInBounds_toArray, List.set_cons_zero, List.set_cons_succ, i64_w, i32_w]
    rfl
  refine pure_ (i := 6) (N := some 53) (v := ?_) (a' := ?_) (Hand.bv 54 0x7f) rfl rfl (any_of HT_.out (by kernel_rfl)) (fun _ _ _ h => h) (Or.inl ⟨by rfl, ?_⟩) ?_ ?_
  rotate_left
  · intro w'
    go_simp
    with_reducible rfl
  rotate_left
  · simp only [Act.put, List.setIfInBounds_toArray, List.set_cons_zero, List.set_cons_succ, i64_w, i32_w]
    rfl
  refine pure_ (i := 7) (N := some 54) (v := ?_) (a' := ?_) (Hand.bv 54 0xff) rfl rfl (any_of HT_.out (by kernel_rfl)) (fun _ _ _ h => h) (Or.inl ⟨by rfl, ?_⟩) ?_ ?_
  rotate_left
  · intro w'
    go_simp
    with_reducible rfl
  rotate_left
  · simp only [Act.put, List.setIfInBounds_toArray, List.set_cons_zero, List.set_cons_succ, i64_w, i32_w]
    rfl
  refine pure_ (i := 8) (N := some 55) (v := ?_) (a' := ?_) (Hand.bv 54 0x1ff) rfl rfl (any_of HT_.out (by kernel_rfl)) (fun _ _ _ h => h) (Or.inl ⟨by rfl, ?_⟩) ?_ ?_
  rotate_left
  · intro w'
    go_simp
    with_reducible rfl
  rotate_left
  · simp only [Act.put, List.setIfInBounds_toArray, List.set_cons_zero, List.set_cons_succ, i64_w, i32_w]
    rfl
  refine pure_ (i := 9) (N := some 56) (v := ?_) (a' := ?_) (Hand.bv 54 0x3ff) rfl rfl (any_of HT_.out (by kernel_rfl)) (fun _ _ _ h => h) (Or.inl ⟨by rfl, ?_⟩) ?_ ?_
  rotate_left
  · intro w'
    go_simp
    with_reducible rfl
  rotate_left
  · simp only [Act.put, List.setIfInBounds_toArray, List.set_cons_zero, List.set_cons_succ, i64_w, i32_w]
    rfl
  refine pure_ (i := 11) (N := some 58) (v := ?_) (a' := ?_) (Hand.bv 54 0xbff) rfl rfl (any_of HT_.out (by kernel_rfl)) (fun _ _ _ h => h) (Or.inl ⟨by rfl, ?_⟩) ?_ ?_
  rotate_left
  · intro w'
    go_simp
    with_reducible rfl
  rotate_left
  · simp only [Act.put, List.setIfInBounds_toArray, List.set_cons_zero, List.set_cons_succ, i64_w, i32_w]
    rfl
  refine pure_ (i := 14) (N := some 61) (v := ?_) (a' := ?_) (Hand.bv 54 0x4bff) rfl rfl (any_of HT_.out (by kernel_rfl)) (fun _ _ _ h => h) (Or.inl ⟨by rfl, ?_⟩) ?_ ?_
  rotate_left
  · intro w'
    go_simp
    with_reducible rfl
  rotate_left
  · simp only [Act.put, List.setIfInBounds_toArray, List.set_cons_zero, List.set_cons_succ, i64_w, i32_w]
    rfl
  refine take_ (i := 10) (N := some 57) (v := ?_) (a' := ?_) (Hand.bv 54 0x4fff) rfl rfl (take_ofW HT_.out HW_.out (by kernel_rfl)) (fun _ _ _ h => h) (Or.inl ⟨by rfl, ?_⟩) hHeld ?_ ?_
  rotate_left
  · rintro w' ⟨s0, s1, s2, s3, s4, s5, s6, s7, s8, s9, s10, s11, s12, s13, s14, s15, s16, s17, s18, s19, s20, s21, s22, s23, s24, s25, s26, s27, s28, s29⟩
    go_simp
    with_reducible rfl
  rotate_left
  · simp only [Act.put, List.setIfInBounds_toArray, List.set_cons_zero, List.set_cons_succ, i64_w, i32_w]
    rfl
  refine take_ (i := 12) (N := some 59) (v := ?_) (a' := ?_) (Hand.bv 54 0x5fff) rfl rfl (take_ofW HT_.out HW_.out (by kernel_rfl)) (fun _ _ _ h => h) (Or.inl ⟨by rfl, ?_⟩) hHeld ?_ ?_
  rotate_left
  · rintro w' ⟨s0, s1, s2, s3, s4, s5, s6, s7, s8, s9, s10, s11, s12, s13, s14, s15, s16, s17, s18, s19, s20, s21, s22, s23, s24, s25, s26, s27, s28, s29⟩
    go_simp
    with_reducible rfl
  rotate_left
  · simp only [Act.put, List.setIfInBounds_toArray, List.set_cons_zero, List.set_cons_succ, i64_w, i32_w]
    rfl
  refine pure_ (i := 13) (N := some 60) (v := ?_) (a' := ?_) (Hand.bv 54 0x7fff) rfl rfl (any_of HT_.out (by kernel_rfl)) (fun _ _ _ h => h) (Or.inl ⟨by rfl, ?_⟩) ?_ ?_
  rotate_left
  · intro w'
    go_simp
    with_reducible rfl
  rotate_left
  · simp only [Act.put, List.setIfInBounds_toArray, List.set_cons_zero, List.set_cons_succ, i64_w, i32_w]
    rfl
  refine pure_ (i := 15) (N := some 62) (v := ?_) (a' := ?_) (Hand.bv 54 0xffff) rfl rfl (any_of HT_.out (by kernel_rfl)) (fun _ _ _ h => h) (Or.inl ⟨by rfl, ?_⟩) ?_ ?_
  rotate_left
  · intro w'
    go_simp
    with_reducible rfl
  rotate_left
  · simp only [Act.put, List.setIfInBounds_toArray, List.set_cons_zero, List.set_cons_succ, i64_w, i32_w]
    rfl
  refine pure_ (i := 16) (N := some 63) (v := ?_) (a' := ?_) (Hand.bv 54 0x1ffff) rfl rfl (any_of HT_.out (by kernel_rfl)) (fun _ _ _ h => h) (Or.inl ⟨by rfl, ?_⟩) ?_ ?_
  rotate_left
  · intro w'
    go_simp
    with_reducible rfl
  rotate_left
  · simp only [Act.put, List.setIfInBounds_toArray, List.set_cons_zero, List.set_cons_succ, i64_w, i32_w]
    rfl
  refine pure_ (i := 17) (N := some 64) (v := ?_) (a' := ?_) (Hand.bv 54 0x3ffff) rfl rfl (any_of HT_.out (by kernel_rfl)) (fun _ _ _ h => h) (Or.inl ⟨by rfl, ?_⟩) ?_ ?_
  rotate_left
  · intro w'
    go_simp
    with_reducible rfl
  rotate_left
  · simp only [Act.put, List.setIfInBounds_toArray, List.set_cons_zero, List.set_cons_succ, i64_w, i32_w]
    rfl
  refine pure_ (i := 18) (N := some 65) (v := ?_) (a' := ?_) (Hand.bv 54 0x7ffff) rfl rfl (any_of HT_.out (by kernel_rfl)) (fun _ _ _ h => h) (Or.inl ⟨by rfl, ?_⟩) ?_ ?_
  rotate_left
  · intro w'
    go_simp
    with_reducible rfl
  rotate_left
  · simp only [Act.put, List.setIfInBounds_toArray, List.set_cons_zero, List.set_cons_succ, i64_w, i32_w]
    rfl
  refine take_ (i := 19) (N := some 66) (v := ?_) (a' := ?_) (Hand.bv 54 0xfffff) rfl rfl (take_ofW HT_.out HW_.out (by kernel_rfl)) (fun _ _ _ h => h) (Or.inl ⟨by rfl, ?_⟩) hHeld ?_ ?_
  rotate_left
  · rintro w' ⟨s0, s1, s2, s3, s4, s5, s6, s7, s8, s9, s10, s11, s12, s13, s14, s15, s16, s17, s18, s19, s20, s21, s22, s23, s24, s25, s26, s27, s28, s29⟩
    go_simp
    with_reducible rfl
  rotate_left
  · simp only [Act.put, List.setIfInBounds_toArray, List.set_cons_zero, List.set_cons_succ, i64_w, i32_w]
    rfl
  refine pure_ (i := 20) (N := some 67) (v := ?_) (a' := ?_) (Hand.bv 54 0x1fffff) rfl rfl (any_of HT_.out (by kernel_rfl)) (fun _ _ _ h => h) (Or.inl ⟨by rfl, ?_⟩) ?_ ?_
  rotate_left
  · intro w'
    go_simp
    with_reducible rfl
  rotate_left
  · simp only [Act.put, List.setIfInBounds_toArray, List.set_cons_zero, List.set_cons_succ, i64_w, i32_w]
    rfl
  refine pure_ (i := 21) (N := some 68) (v := ?_) (a' := ?_) (Hand.bv 54 0x3fffff) rfl rfl (any_of HT_.out (by kernel_rfl)) (fun _ _ _ h => h) (Or.inl ⟨by rfl, ?_⟩) ?_ ?_
  rotate_left
  · intro w'
    go_simp
    with_reducible rfl
  rotate_left
  · simp only [Act.put, List.setIfInBounds_toArray, List.set_cons_zero, List.set_cons_succ, i64_w, i32_w]
    rfl
  refine pure_ (i := 22) (N := some 69) (v := ?_) (a' := ?_) (Hand.bv 54 0x7fffff) rfl rfl (any_of HT_.out (by kernel_rfl)) (fun _ _ _ h => h) (Or.inl ⟨by rfl, ?_⟩) ?_ ?_
  rotate_left
  · intro w'
    go_simp
    with_reducible rfl
  rotate_left
  · simp only [Act.put, List.setIfInBounds_toArray, List.set_cons_zero, List.set_cons_succ, i64_w, i32_w]
    rfl
  refine pure_ (i := 24) (N := some 71) (v := ?_) (a' := ?_) (Hand.bv 54 0x17fffff) rfl rfl (any_of HT_.out (by kernel_rfl)) (fun _ _ _ h => h) (Or.inl ⟨by rfl, ?_⟩) ?_ ?_
  rotate_left
  · intro w'
    go_simp
    with_reducible rfl
  rotate_left
  · simp only [Act.put, List.setIfInBounds_toArray, List.set_cons_zero, List.set_cons_succ, i64_w, i32_w]
    rfl
  refine pure_ (i := 27) (N := some 74) (v := ?_) (a' := ?_) (Hand.bv 54 0x97fffff) rfl rfl (any_of HT_.out (by kernel_rfl)) (fun _ _ _ h => h) (Or.inl ⟨by rfl, ?_⟩) ?_ ?_
  rotate_left
  · intro w'
    go_simp
    with_reducible rfl
  rotate_left
  · simp only [Act.put, List.setIfInBounds_toArray, List.set_cons_zero, List.set_cons_succ, i64_w, i32_w]
    rfl
  refine take_ (i := 23) (N := some 70) (v := ?_) (a' := ?_) (Hand.bv 54 0x9ffffff) rfl rfl (take_ofW HT_.out HW_.out (by kernel_rfl)) (fun _ _ _ h => h) (Or.inl ⟨by rfl, ?_⟩) hHeld ?_ ?_
  rotate_left
  · rintro w' ⟨s0, s1, s2, s3, s4, s5, s6, s7, s8, s9, s10, s11, s12, s13, s14, s15, s16, s17, s18, s19, s20, s21, s22, s23, s24, s25, s26, s27, s28, s29⟩
    go_simp
    with_reducible rfl
  rotate_left
  · simp only [Act.put, List.setIfInBounds_toArray, List.set_cons_zero, List.set_cons_succ, i64_w, i32_w]
    rfl
  refine take_ (i := 25) (N := some 72) (v := ?_) (a' := ?_) (Hand.bv 54 0xbffffff) rfl rfl (take_ofW HT_.out HW_.out (by kernel_rfl)) (fun _ _ _ h => h) (Or.inl ⟨by rfl, ?_⟩) hHeld ?_ ?_
  rotate_left
  · rintro w' ⟨s0, s1, s2, s3, s4, s5, s6, s7, s8, s9, s10, s11, s12, s13, s14, s15, s16, s17, s18, s19, s20, s21, s22, s23, s24, s25, s26, s27, s28, s29⟩
    go_simp
    with_reducible rfl
  rotate_left
  · simp only [Act.put, List.setIfInBounds_toArray, List.set_cons_zero, List.set_cons_succ, i64_w, i32_w]
    rfl
  refine pure_ (i := 26) (N := some 73) (v := ?_) (a' := ?_) (Hand.bv 54 0xfffffff) rfl rfl (any_of HT_.out (by kernel_rfl)) (fun _ _ _ h => h) (Or.inl ⟨by rfl, ?_⟩) ?_ ?_
  rotate_left
  · intro w'
    go_simp
    with_reducible rfl
  rotate_left
  · simp only [Act.put, List.setIfInBounds_toArray, List.set_cons_zero, List.set_cons_succ, i64_w, i32_w]
    rfl
  refine pure_ (i := 28) (N := some 75) (v := ?_) (a' := ?_) (Hand.bv 54 0x1fffffff) rfl rfl (any_of HT_.out (by kernel_rfl)) (fun _ _ _ h => h) (Or.inl ⟨by rfl, ?_⟩) ?_ ?_
  rotate_left
  · intro w'
    go_simp
    with_reducible rfl
  rotate_left
  · simp only [Act.put, List.setIfInBounds_toArray, List.set_cons_zero, List.set_cons_succ, i64_w, i32_w]
    rfl
  refine pure_ (i := 29) (N := some 76) (v := ?_) (a' := ?_) (Hand.bv 54 0x3fffffff) rfl rfl (any_of HT_.out (by kernel_rfl)) (fun _ _ _ h => h) (Or.inl ⟨by rfl, ?_⟩) ?_ ?_
  rotate_left
  · intro w'
    go_simp
    with_reducible rfl
  rotate_left
  · simp only [Act.put, List.setIfInBounds_toArray, List.set_cons_zero, List.set_cons_succ, i64_w, i32_w]
    rfl
  refine pure_ (i := 30) (N := some 77) (v := ?_) (a' := ?_) (Hand.bv 54 0x7fffffff) rfl rfl (any_of HT_.out (by kernel_rfl)) (fun _ _ _ h => h) (Or.inl ⟨by rfl, ?_⟩) ?_ ?_
  rotate_left
  · intro w'
    go_simp
    with_reducible rfl
  rotate_left
  · simp only [Act.put, List.setIfInBounds_toArray, List.set_cons_zero, List.set_cons_succ, i64_w, i32_w]
    rfl
  refine pure_ (i := 31) (N := some 78) (v := ?_) (a' := ?_) (Hand.bv 54 0xffffffff) rfl rfl (any_of HT_.out (by kernel_rfl)) (fun _ _ _ h => h) (Or.inl ⟨by rfl, ?_⟩) ?_ ?_
  rotate_left
  · intro w'
    go_simp
    with_reducible rfl
  rotate_left
  · simp only [Act.put, List.setIfInBounds_toArray, List.set_cons_zero, List.set_cons_succ, i64_w, i32_w]
    rfl
  refine pure_ (i := 32) (N := some 79) (v := ?_) (a' := ?_) (Hand.bv 54 0x1ffffffff) rfl rfl (any_of HT_.out (by kernel_rfl)) (fun _ _ _ h => h) (Or.inl ⟨by rfl, ?_⟩) ?_ ?_
  rotate_left
  · intro w'
    go_simp
    with_reducible rfl
  rotate_left
  · simp only [Act.put, List.setIfInBounds_toArray, List.set_cons_zero, List.set_cons_succ, i64_w, i32_w]
    rfl
  refine take_ (i := 33) (N := some 80) (v := ?_) (a' := ?_) (Hand.bv 54 0x3ffffffff) rfl rfl (take_ofW HT_.out HW_.out (by kernel_rfl)) (fun _ _ _ h => h) (Or.inl ⟨by rfl, ?_⟩) hHeld ?_ ?_
  rotate_left
  · rintro w' ⟨s0, s1, s2, s3, s4, s5, s6, s7, s8, s9, s10, s11, s12, s13, s14, s15, s16, s17, s18, s19, s20, s21, s22, s23, s24, s25, s26, s27, s28, s29⟩
    go_simp
    with_reducible rfl
  rotate_left
  · simp only [Act.put, List.setIfInBounds_toArray, List.set_cons_zero, List.set_cons_succ, i64_w, i32_w]
    rfl
  refine pure_ (i := 34) (N := some 81) (v := ?_) (a' := ?_) (Hand.bv 54 0x7ffffffff) rfl rfl (any_of HT_.out (by kernel_rfl)) (fun _ _ _ h => h) (Or.inl ⟨by rfl, ?_⟩) ?_ ?_
  rotate_left
  · intro w'
    go_simp
    with_reducible rfl
  rotate_left
  · simp only [Act.put, List.setIfInBounds_toArray, List.set_cons_zero, List.set_cons_succ, i64_w, i32_w]
    rfl
  refine pure_ (i := 35) (N := some 82) (v := ?_) (a' := ?_) (Hand.bv 54 0xfffffffff) rfl rfl (any_of HT_.out (by kernel_rfl)) (fun _ _ _ h => h) (Or.inl ⟨by rfl, ?_⟩) ?_ ?_
  rotate_left
  · intro w'
    go_simp
    with_reducible rfl
  rotate_left
  · simp only [Act.put, List.setIfInBounds_toArray, List.set_cons_zero, List.set_cons_succ, i64_w, i32_w]
    rfl
  refine pure_ (i := 36) (N := some 83) (v := undef) (a' := ?_) (Hand.bv 54 0x1fffffffff) rfl rfl (any_of HT_.out (by kernel_rfl)) (fun _ _ _ h => h) (Or.inr ⟨by rfl, rfl⟩) ?_ ?_
  rotate_left
  · simp only [Act.put, List.setIfInBounds_toArray, List.set_cons_zero, List.set_cons_succ, i64_w, i32_w]
    rfl
  refine pure_ (i := 37) (N := some 84) (v := undef) (a' := ?_) (Hand.bv 54 0x3fffffffff) rfl rfl (any_of HT_.out (by kernel_rfl)) (fun _ _ _ h => h) (Or.inr ⟨by rfl, rfl⟩) ?_ ?_
  rotate_left
  · simp only [Act.put, List.setIfInBounds_toArray, List.set_cons_zero, List.set_cons_succ, i64_w, i32_w]
    rfl
  refine pure_ (i := 38) (N := some 85) (v := undef) (a' := ?_) (Hand.bv 54 0x7fffffffff) rfl rfl (any_of HT_.out (by kernel_rfl)) (fun _ _ _ h => h) (Or.inr ⟨by rfl, rfl⟩) ?_ ?_
  rotate_left
  · simp only [Act.put, List.setIfInBounds_toArray, List.set_cons_zero, List.set_cons_succ, i64_w, i32_w]
    rfl
  refine pure_ (i := 39) (N := some 86) (v := undef) (a' := ?_) (Hand.bv 54 0xffffffffff) rfl rfl (any_of HT_.out (by kernel_rfl)) (fun _ _ _ h => h) (Or.inr ⟨by rfl, rfl⟩) ?_ ?_
  rotate_left
  · simp only [Act.put, List.setIfInBounds_toArray, List.set_cons_zero, List.set_cons_succ, i64_w, i32_w]
    rfl
  refine pure_ (i := 40) (N := some 87) (v := undef) (a' := ?_) (Hand.bv 54 0x1ffffffffff) rfl rfl (any_of HT_.out (by kernel_rfl)) (fun _ _ _ h => h) (Or.inr ⟨by rfl, rfl⟩) ?_ ?_
  rotate_left
  · simp only [Act.put, List.setIfInBounds_toArray, List.set_cons_zero, List.set_cons_succ, i64_w, i32_w]
    rfl
  refine pure_ (i := 41) (N := some 88) (v := undef) (a' := ?_) (Hand.bv 54 0x3ffffffffff) rfl rfl (any_of HT_.out (by kernel_rfl)) (fun _ _ _ h => h) (Or.inr ⟨by rfl, rfl⟩) ?_ ?_
  rotate_left
  · simp only [Act.put, List.setIfInBounds_toArray, List.set_cons_zero, List.set_cons_succ, i64_w, i32_w]
    rfl
  refine pure_ (i := 42) (N := some 89) (v := undef) (a' := ?_) (Hand.bv 54 0x7ffffffffff) rfl rfl (any_of HT_.out (by kernel_rfl)) (fun _ _ _ h => h) (Or.inr ⟨by rfl, rfl⟩) ?_ ?_
  rotate_left
  · simp only [Act.put, List.setIfInBounds_toArray, List.set_cons_zero, List.set_cons_succ, i64_w, i32_w]
    rfl
  refine pure_ (i := 43) (N := some 90) (v := ?_) (a' := ?_) (Hand.bv 54 0xfffffffffff) rfl rfl (any_of HT_.out (by kernel_rfl)) (fun _ _ _ h => h) (Or.inl ⟨by rfl, ?_⟩) ?_ ?_
  rotate_left
  · intro w'
    go_simp
    with_reducible rfl
  rotate_left
  · simp only [Act.put, List.setIfInBounds_toArray, List.set_cons_zero, List.set_cons_succ, i64_w, i32_w]
    rfl
  refine pure_ (i := 44) (N := some 91) (v := ?_) (a' := ?_) (Hand.bv 54 0x1fffffffffff) rfl rfl (any_of HT_.out (by kernel_rfl)) (fun _ _ _ h => h) (Or.inl ⟨by rfl, ?_⟩) ?_ ?_
  rotate_left
  · intro w'
    go_simp
    with_reducible rfl
  rotate_left
  · simp only [Act.put, List.setIfInBounds_toArray, List.set_cons_zero, List.set_cons_succ, i64_w, i32_w]
    rfl
  refine pure_ (i := 45) (N := some 92) (v := ?_) (a' := ?_) (Hand.bv 54 0x3fffffffffff) rfl rfl (any_of HT_.out (by kernel_rfl)) (fun _ _ _ h => h) (Or.inl ⟨by rfl, ?_⟩) ?_ ?_
  rotate_left
  · intro w'
    go_simp
    with_reducible rfl
  rotate_left
  · simp only [Act.put, List.setIfInBounds_toArray, List.set_cons_zero, List.set_cons_succ, i64_w, i32_w]
    rfl
  refine pure_ (i := 46) (N := some 93) (v := ?_) (a' := ?_) (Hand.bv 54 0x7fffffffffff) rfl rfl (any_of HT_.out (by kernel_rfl)) (fun _ _ _ h => h) (Or.inl ⟨by rfl, ?_⟩) ?_ ?_
  rotate_left
  · intro w'
    go_simp
    with_reducible rfl
  rotate_left
  · simp only [Act.put, List.setIfInBounds_toArray, List.set_cons_zero, List.set_cons_succ, i64_w, i32_w]
    rfl
  refine pure_ (i := 49) (N := some 96) (v := ?_) (a' := ?_) (Hand.bv 54 0x27fffffffffff) rfl rfl (any_of HT_.out (by kernel_rfl)) (fun _ _ _ h => h) (Or.inl ⟨by rfl, ?_⟩) ?_ ?_
  rotate_left
  · intro w'
    go_simp
    with_reducible rfl
  rotate_left
  · simp only [Act.put, List.setIfInBounds_toArray, List.set_cons_zero, List.set_cons_succ, i64_w, i32_w]
    rfl
  refine take_ (i := 47) (N := some 94) (v := ?_) (a' := ?_) (Hand.bv 54 0x2ffffffffffff) rfl rfl (take_ofW HT_.out HW_.out (by kernel_rfl)) (fun _ _ _ h => h) (Or.inl ⟨by rfl, ?_⟩) hHeld ?_ ?_
  rotate_left
  · rintro w' ⟨s0, s1, s2, s3, s4, s5, s6, s7, s8, s9, s10, s11, s12, s13, s14, s15, s16, s17, s18, s19, s20, s21, s22, s23, s24, s25, s26, s27, s28, s29⟩
    go_simp
    with_reducible rfl
  rotate_left
  · simp only [Act.put, List.setIfInBounds_toArray, List.set_cons_zero, List.set_cons_succ, i64_w, i32_w]
    rfl
  refine take_ (i := 50) (N := some 97) (v := ?_) (a' := ?_) (Hand.bv 54 0x6ffffffffffff) rfl rfl (take_ofW HT_.out HW_.out (by kernel_rfl)) (fun _ _ _ h => h) (Or.inl ⟨by rfl, ?_⟩) hHeld ?_ ?_
  rotate_left
  · rintro w' ⟨s0, s1, s2, s3, s4, s5, s6, s7, s8, s9, s10, s11, s12, s13, s14, s15, s16, s17, s18, s19, s20, s21, s22, s23, s24, s25, s26, s27, s28, s29⟩
    go_simp
    with_reducible rfl
  rotate_left
  · simp only [Act.put, List.setIfInBounds_toArray, List.set_cons_zero, List.set_cons_succ, i64_w, i32_w]
    rfl
  refine one_ (i := 48) (N := some 95) (Hand.bv 54 0x7ffffffffffff) rfl rfl (one_of HT_.out (by kernel_rfl)) (by decide) (fun K hK => ?_)
  refine goes_ Tryd.func30 (by kernel_rfl) rfl #[.slice Ao12 t111.length co12] (by rfl) rfl rfl (by (try simp only [List.map_toArray, List.map_cons, List.map_nil]); first | done | rfl | (simp only [List.length_drop, List.length_take]; rfl)) ?_
  with_reducible refine (params_ByOID.calls _ _ t111 t154 _ ?side1 ?side2 ?side3 A61.out).mono ?_
  (case side1 => first | exact HLd | (exact LaidOk.below HLd (by repeat (first | (with_reducible first | exact HB.out | apply below_alloc | apply pw_below_drewN | apply below_drew1) | exact HB.out))) | (repeat (first | exact HLd | apply LaidOk.drewN | apply LaidOk.drew | apply LaidOk.alloc)))
  (case side2 => repeat (first | exact (Kd.R_reads' HO_118007.out).2.2 | (with_reducible refine Kd.C_alloc ?_ _) | (with_reducible refine Kd.C_drewN ?_ _) | (with_reducible refine Kd.C_drew ?_)))
  (case side3 => exact (Kd.R_reads' HO_118007.out).2.1)
  rintro e w75 ⟨v155, rfl, ho0, hb⟩
  refine ⟨_, rfl, ?_⟩
  have n0_ := Aside0.mk (Kd.R_below (by (with_reducible repeat (first | apply Kd.R_alloc | apply Kd.R_drewN | apply Kd.R_drew)); exact HO_118007.out) hb)
  have n1_ := Aside0.mk (Kd.R_below (by (with_reducible repeat (first | apply Kd.R_alloc | apply Kd.R_drewN | apply Kd.R_drew)); exact HO_132007.out) hb)
  have n2_ := Aside0.mk (Kd.R_below (by (with_reducible repeat (first | apply Kd.R_alloc | apply Kd.R_drewN | apply Kd.R_drew)); exact HO141.out) hb)
  have n3_ := Aside0.mk (Kd.R_lower ho0 (below_size (by repeat (first | (with_reducible first | exact HB.out | apply below_alloc | apply pw_below_drewN | apply below_drew1 | refine below_set ?_ GE117.out | refine below_set ?_ GE131.out | refine below_set ?_ GE145.out) | exact HB.out))))
  have n4_ := Aside0.mk (blk_below (g := gb117) (o := .cells #[.int .i64 t104, .int .i64 t105, .string t106, .int .i64 t107, .int .i64 t108, .int .i64 t109, .int .i64 t110, .slice Ao12 t111.length co12, .int .i64 t114, .int .u32 t115] 37 (0, 0)) (by (with_reducible repeat (first | refine blk_drewN ?_ _ | refine blk_drew ?_ | refine blk_alloc ?_ _)); exact BK117.out) hb)
  have n5_ := Aside0.mk (blk_below (g := gb131) (o := .cells #[.int .i64 t118, .int .i64 t119, .string t120, .int .i64 t121, .int .i64 t122, .int .i64 t123, .int .i64 t124, .slice Ao17 t125.length co17, .int .i64 t128, .int .u32 t129] 37 (0, 0)) (by (with_reducible repeat (first | refine blk_drewN ?_ _ | refine blk_drew ?_ | refine blk_alloc ?_ _)); exact BK131.out) hb)
  have n6_ := Aside0.mk (blk_below (g := gb145) (o := .cells #[.int .i64 t132, .int .i64 t133, .string t134, .int .i64 t135, .int .i64 t136, .int .i64 t137, .int .i64 t138, .slice Ao70 t139.length co70, .int .i64 t142, .int .u32 t143] 37 (0, 0)) (by (with_reducible repeat (first | refine blk_drewN ?_ _ | refine blk_drew ?_ | refine blk_alloc ?_ _)); exact BK145.out) hb)
  have n7_ := Aside0.mk (below_step (by repeat (first | (with_reducible first | exact HB.out | apply below_alloc | apply pw_below_drewN | apply below_drew1 | refine below_set ?_ GE117.out | refine below_set ?_ GE131.out | refine below_set ?_ GE145.out) | exact HB.out)) hb)
  clear HO_118007
  clear HO_132007
  clear HO141
  clear BK117
  clear BK131
  clear BK145
  clear HB
  have HO_118007 := n0_
  have HO_132007 := n1_
  have HO141 := n2_
  have HO156 := n3_
  have BK117 := n4_
  have BK131 := n5_
  have BK145 := n6_
  have HB := n7_
  clear n0_ n1_ n2_ n3_ n4_ n5_ n6_ n7_
  (try clear hb)
  (try clear hb2)
  (try clear hk)
  (try clear hi)
  (try clear ho0)
  obtain ⟨Ao76, co76, eo76⟩ := Kd.R_slice HO156.out
  (first | subst eo76 | (injection eo76 with f1_ f2_ f3_; have f4_ := f1_.symm; have f5_ := f3_.symm; clear f1_ f2_ f3_; subst f4_; subst f5_))
  refine hK.out _ _ ⟨(blk_cell BK145.out 0).trans rfl, (blk_cell BK145.out 1).trans rfl, (blk_cell BK145.out 2).trans rfl, (blk_cell BK145.out 3).trans rfl, (blk_cell BK145.out 4).trans rfl, (blk_cell BK145.out 5).trans rfl, (blk_cell BK145.out 6).trans rfl, (blk_cell BK145.out 7).trans rfl, (blk_cell BK145.out 8).trans rfl, (blk_cell BK145.out 9).trans rfl, (blk_cell BK117.out 0).trans rfl, (blk_cell BK117.out 1).trans rfl, (blk_cell BK117.out 2).trans rfl, (blk_cell BK117.out 3).trans rfl, (blk_cell BK117.out 4).trans rfl, (blk_cell BK117.out 5).trans rfl, (blk_cell BK117.out 6).trans rfl, (blk_cell BK117.out 7).trans rfl, (blk_cell BK117.out 8).trans rfl, (blk_cell BK117.out 9).trans rfl, (blk_cell BK131.out 0).trans rfl, (blk_cell BK131.out 1).trans rfl, (blk_cell BK131.out 2).trans rfl, (blk_cell BK131.out 3).trans rfl, (blk_cell BK131.out 4).trans rfl, (blk_cell BK131.out 5).trans rfl, (blk_cell BK131.out 6).trans rfl, (blk_cell BK131.out 7).trans rfl, (blk_cell BK131.out 8).trans rfl, (blk_cell BK131.out 9).trans rfl⟩ (fun hHeld => ?_)
  clear hK K
  refine norm_ (a' := ?_) ?_ ?_
  rotate_left
  · show Act.put _ (some 95) _ = _
    simp only [Act.put, List.setIfInBounds_toArray, List.set_cons_zero, List.set_cons_succ, i64_w, i32_w]
    rfl
  refine one_ (i := 51) (N := some 98) (Hand.bv 54 0xfffffffffffff) rfl rfl (one_of HT_.out (by kernel_rfl)) (by decide) (fun K hK => ?_)
  refine goes_ Tryd.func35 (by kernel_rfl) rfl #[.slice Ao76 t154.length co76, .int .i64 t104] (by rfl) rfl rfl (by (try simp only [List.map_toArray, List.map_cons, List.map_nil]); first | done | rfl | (simp only [List.length_drop, List.length_take]; rfl)) ?_
  with_reducible refine (slices_Contains_int_int.calls kj6 _ _ t154 t104 t157 _ ?side1 ?side2 A62.out).mono ?_
  (case side1 => repeat (first | exact (Kd.R_reads' HO156.out).2.2 | (with_reducible refine Kd.C_alloc ?_ _) | (with_reducible refine Kd.C_drewN ?_ _) | (with_reducible refine Kd.C_drew ?_)))
  (case side2 => exact (Kd.R_reads' HO156.out).2.1)
  rintro e w' ⟨rfl, ⟨nd, rfl⟩⟩
  refine ⟨_, rfl, ?_⟩
  refine hK.out _ _ ⟨(blk_cell BK145.out 0).trans rfl, (blk_cell BK145.out 1).trans rfl, (blk_cell BK145.out 2).trans rfl, (blk_cell BK145.out 3).trans rfl, (blk_cell BK145.out 4).trans rfl, (blk_cell BK145.out 5).trans rfl, (blk_cell BK145.out 6).trans rfl, (blk_cell BK145.out 7).trans rfl, (blk_cell BK145.out 8).trans rfl, (blk_cell BK145.out 9).trans rfl, (blk_cell BK117.out 0).trans rfl, (blk_cell BK117.out 1).trans rfl, (blk_cell BK117.out 2).trans rfl, (blk_cell BK117.out 3).trans rfl, (blk_cell BK117.out 4).trans rfl, (blk_cell BK117.out 5).trans rfl, (blk_cell BK117.out 6).trans rfl, (blk_cell BK117.out 7).trans rfl, (blk_cell BK117.out 8).trans rfl, (blk_cell BK117.out 9).trans rfl, (blk_cell BK131.out 0).trans rfl, (blk_cell BK131.out 1).trans rfl, (blk_cell BK131.out 2).trans rfl, (blk_cell BK131.out 3).trans rfl, (blk_cell BK131.out 4).trans rfl, (blk_cell BK131.out 5).trans rfl, (blk_cell BK131.out 6).trans rfl, (blk_cell BK131.out 7).trans rfl, (blk_cell BK131.out 8).trans rfl, (blk_cell BK131.out 9).trans rfl⟩ (fun hHeld => ?_)
  clear hK K
  refine norm_ (a' := ?_) ?_ ?_
  rotate_left
  · show Act.put _ (some 98) _ = _
    simp only [Act.put, List.setIfInBounds_toArray, List.set_cons_zero, List.set_cons_succ, i64_w, i32_w]
    rfl
  refine pure_ (i := 52) (N := some 99) (v := ?_) (a' := ?_) (Hand.bv 54 0x1fffffffffffff) rfl rfl (any_of HT_.out (by kernel_rfl)) (fun _ _ _ h => h) (Or.inl ⟨by rfl, ?_⟩) ?_ ?_
  rotate_left
  · intro w'
    go_simp
    with_reducible rfl
  rotate_left
  · simp only [Act.put, List.setIfInBounds_toArray, List.set_cons_zero, List.set_cons_succ, i64_w, i32_w]
    rfl
  refine pure_ (i := 53) (N := some 4) (v := ?_) (a' := ?_) (Hand.bv 54 0x3fffffffffffff) rfl rfl (any_of HT_.out (by kernel_rfl)) (fun _ _ _ h => h) (Or.inl ⟨by rfl, ?_⟩) ?_ ?_
  rotate_left
  · intro w'
    go_simp
    with_reducible rfl
  rotate_left
  · simp only [Act.put, List.setIfInBounds_toArray, List.set_cons_zero, List.set_cons_succ, i64_w, i32_w]
    rfl
  refine done_ (done_of HT_.out (by kernel_rfl)) ?_
  try go_wp2
  go_ret
  exact ⟨by first | rfl | (simp [errW_none, errW_some] <;> rfl) | (simp [*, errW_none, errW_some] <;> rfl), by repeat (first | (with_reducible first | exact HB.out | apply below_alloc | apply pw_below_drewN | apply below_drew1 | refine below_set ?_ GE117.out | refine below_set ?_ GE131.out | refine below_set ?_ GE145.out) | exact HB.out)⟩

set_option maxHeartbeats 4000000 in
theorem pyxlaw13_ParamsApart.calls (k : Nat) (a0 : Int) (a1 : Int) (r : Bool) (w : World) (HLd : LaidOk w) (h : pyxlaw13_ParamsApart.f k a0 a1 = some r) :
    Calls Tryd.prog 11 #[.int .u8 a0, .int .u8 a1] w fun e w' => e = .returned (.bool r) ∧ Below w.heap.size w w' := by
  unfold pyxlaw13_ParamsApart.f pyxlaw13_awake.f at h
  simp only [Option.bind_some] at h
  rw [if_pos trivial] at h
  obtain ⟨⟨t104, t105, t106, t107, t108, t109, t110, t111, t114, t115, t116⟩, A5, h⟩ := Option.bind_eq_some_iff.mp h
  obtain ⟨⟨t118, t119, t120, t121, t122, t123, t124, t125, t128, t129, t130⟩, A6, h⟩ := Option.bind_eq_some_iff.mp h
  simp only at h
  obtain ⟨k, rfl⟩ : ∃ m, k = m + 1 := by
    cases k with
    | zero => exfalso; simp [pyxlaw13_ParamsApart.j0] at h
    | succ m => exact ⟨m, rfl⟩
  simp only [pyxlaw13_ParamsApart.j0] at h
  cases t116 with
  | false => exfalso; simp at h
  | true =>
  cases t130 with
  | false => exfalso; simp at h
  | true =>
  rw [if_pos rfl, show (!true) = false from rfl, if_neg (show ¬ (false = true) by decide)] at h
  obtain ⟨⟨t132, t133, t134, t135, t136, t137, t138, t139, t142, t143, t144⟩, A7, h⟩ := Option.bind_eq_some_iff.mp h
  simp only at h
  cases t144 with
  | false => exfalso; simp at h
  | true =>
  rw [if_pos rfl] at h
  by_cases c22 : t132 = t104
  · rw [if_pos c22] at h
    by_cases c23 : ((t106.toList == t120.toList) == (t104 == t118)) = true
    · rw [if_pos c23] at h
      by_cases c24 : t114 = 0
      · rw [if_pos c24] at h
        by_cases c25 : t115 = 0
        · rw [if_pos c25] at h
          obtain ⟨t146, A8, h⟩ := Option.bind_eq_some_iff.mp h
          obtain ⟨t149, A9, h⟩ := Option.bind_eq_some_iff.mp h
          obtain rfl := Option.some.inj h
          exact apart_leaf0 k a0 a1 t104 t105 t106 t107 t108 t109 t110 t111 t114 t115 t118 t119 t120 t121 t122 t123 t124 t125 t128 t129 t132 t133 t134 t135 t136 t137 t138 t139 t142 t143 t146 t149 w HLd ⟨A5⟩ ⟨A6⟩ ⟨A7⟩ ⟨A8⟩ ⟨A9⟩ c22 c23 c24 c25
        · rw [if_neg c25] at h
          by_cases c42 : ((t115 == t129) == (t104 == t118)) = true
          · rw [if_pos c42] at h
            obtain ⟨t146, A8, h⟩ := Option.bind_eq_some_iff.mp h
            obtain ⟨t149, A9, h⟩ := Option.bind_eq_some_iff.mp h
            obtain rfl := Option.some.inj h
            exact apart_leaf1 k a0 a1 t104 t105 t106 t107 t108 t109 t110 t111 t114 t115 t118 t119 t120 t121 t122 t123 t124 t125 t128 t129 t132 t133 t134 t135 t136 t137 t138 t139 t142 t143 t146 t149 w HLd ⟨A5⟩ ⟨A6⟩ ⟨A7⟩ ⟨A8⟩ ⟨A9⟩ c22 c23 c24 c25 c42
          · rw [if_neg c42] at h
            cases h
      · rw [if_neg c24] at h
        by_cases c59 : ((t114 == t128) == (t104 == t118)) = true
        · rw [if_pos c59] at h
          by_cases c25 : t115 = 0
          · rw [if_pos c25] at h
            obtain ⟨t146, A8, h⟩ := Option.bind_eq_some_iff.mp h
            obtain ⟨t149, A9, h⟩ := Option.bind_eq_some_iff.mp h
            obtain rfl := Option.some.inj h
            exact apart_leaf2 k a0 a1 t104 t105 t106 t107 t108 t109 t110 t111 t114 t115 t118 t119 t120 t121 t122 t123 t124 t125 t128 t129 t132 t133 t134 t135 t136 t137 t138 t139 t142 t143 t146 t149 w HLd ⟨A5⟩ ⟨A6⟩ ⟨A7⟩ ⟨A8⟩ ⟨A9⟩ c22 c23 c24 c59 c25
          · rw [if_neg c25] at h
            cases h
        · rw [if_neg c59] at h
          cases h
    · rw [if_neg c23] at h
      cases h
  · rw [if_neg c22] at h
    cases h

def pyxlaw13_ParamsApart.Pure : Prop := ∀ (a0 : Int) (a1 : Int), (Lit.int .u8 a0).wf = true → (Lit.int .u8 a1).wf = true → ∃ k, pyxlaw13_ParamsApart.f k a0 a1 = some true
theorem pyxlaw13_ParamsApart.walk (P : pyxlaw13_ParamsApart.Pure) (a0 : Int) (a1 : Int) (w : World) (HLd : LaidOk w) (w0 : (Lit.int .u8 a0).wf = true) (w1 : (Lit.int .u8 a1).wf = true) :
    Calls Tryd.prog 11 #[.int .u8 a0, .int .u8 a1] w fun e w' => e = .returned (.bool true) ∧ Below w.heap.size w w' := by
  obtain ⟨k, h⟩ := P a0 a1 w0 w1
  refine (pyxlaw13_ParamsApart.calls k a0 a1 true w HLd h).mono ?_
  rintro e w' ⟨rfl, hd⟩
  exact ⟨rfl, hd⟩

end Go.Proofs.YtjoncjnmhhimhaaDoor.PLA
end

section
/- ParamsApart, in plain numbers: all pairs of rows, by the kernel. -/
namespace Go.Proofs.YtjoncjnmhhimhaaDoor.Hand
set_option linter.unusedVariables false
set_option linter.unusedSimpArgs false
open Go.RowKit
theorem apart_rows : ∀ m : Nat, m < 25 → ∀ n : Nat, n < 25 → PLA.pyxlaw13_ParamsApart.f 40 (m : Int) (n : Int) = some true := by decide +kernel
theorem mod25 (a : Int) (h : 0 ≤ a ∧ a ≤ 255) : wrap64 (1 + (Int.tmod (wrap64 a) 25)) = wrap64 (1 + (Int.tmod (wrap64 (((a.toNat % 25 : Nat)) : Int)) 25)) := by
  have e1 : wrap64 a = a := by unfold wrap64; omega
  have e2 : wrap64 (((a.toNat % 25 : Nat)) : Int) = ((a.toNat % 25 : Nat) : Int) := by unfold wrap64; omega
  rw [e1, e2, Int.tmod_eq_emod_of_nonneg h.1, Int.tmod_eq_emod_of_nonneg (by omega)]
  congr 1
  omega
theorem pureA : PLA.pyxlaw13_ParamsApart.Pure := by
  intro a0 a1 h0 h1
  have h2 : And (IntKind.u8.min ≤ a0) (a0 ≤ IntKind.u8.max) := by simpa [Lit.wf] using h0
  have h3 : And (IntKind.u8.min ≤ a1) (a1 ≤ IntKind.u8.max) := by simpa [Lit.wf] using h1
  have b0 : 0 ≤ a0 ∧ a0 ≤ 255 := h2
  have b1 : 0 ≤ a1 ∧ a1 ≤ 255 := h3
  refine ⟨40, ?_⟩
  have := apart_rows (a0.toNat % 25) (by omega) (a1.toNat % 25) (by omega)
  unfold PLA.pyxlaw13_ParamsApart.f at this ⊢
  rw [mod25 a0 b0, mod25 a1 b1]
  exact this
end Go.Proofs.YtjoncjnmhhimhaaDoor.Hand
end

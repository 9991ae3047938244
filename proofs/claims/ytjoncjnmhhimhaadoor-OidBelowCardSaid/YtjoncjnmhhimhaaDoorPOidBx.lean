-- Written by the kit's print.py, driven by this place's wip/tools/myprint.py. Not trusted: Lean checks it.
import Derived.Test.YtjoncjnmhhimhaaDoorOidSpec
import Derived.Test.YtjoncjnmhhimhaaDoorProg
import Derived.Below
import Derived.Deep.Draws
import Derived.Deep.AppendLies
import Derived.Maps.AppendAt
import Derived.OwnWalk
import Derived.Laws.BytesArg
import Derived.Laws.MakeOwn
import Derived.Laws.OwnMore
import Derived.Deep.OwnRows
import Derived.Tactics
import Derived.Lib.ConvBytes
import Derived.Laws.Slices
import Derived.WalkKit
import Derived.KernelRfl
import Derived.RowKit3
import Derived.Deep.LoopGhost
import Derived.Deep.QuietTactic
import Derived.BigQuiet
import Derived.WideLaws
import Derived.Deep.DeepCutAuto
import Derived.Deep.CutBlock
import Derived.Deep.RegionHeld3
import Derived.Laws.Rows
import Derived.Lib.AppendStr
import Derived.ArgAppend
import Derived.Laws.IdiomCopy
import Derived.OrdersHeld
import Derived.Laws.BitsLemmas
import Derived.RowKit
import Derived.Test.YtjoncjnmhhimhaaDoorWMore
import Derived.Test.YtjoncjnmhhimhaaDoorWGuard
import Derived.Test.YtjoncjnmhhimhaaDoorWRepsOne
import Derived.Test.YtjoncjnmhhimhaaDoorWTab
import Derived.Test.YtjoncjnmhhimhaaDoorOidBelow
import Derived.Test.YtjoncjnmhhimhaaDoorOidAwake
import Derived.Test.YtjoncjnmhhimhaaDoorRefText
namespace Go.Proofs.YtjoncjnmhhimhaaDoor.POidB
open Go.RowKit Go.Proofs.YtjoncjnmhhimhaaDoor.Hand Go.Proofs.YtjoncjnmhhimhaaDoorW.PrintWords Go.Proofs.YtjoncjnmhhimhaaDoorW.PrintLast Go.Proofs.YtjoncjnmhhimhaaDoorW.PrintMore
attribute [local go_sem] max2_int min2_int max_two min_two max_three min_three max_four min_four   -- for this text's walks alone
set_option linter.unusedVariables false
set_option linter.unusedSimpArgs false



def errW : Option Int → Value
  | none => .nilIface
  | some c => .iface 0 (.int .i64 c)
theorem errW_none : errW none = .nilIface := rfl
theorem errW_some (c : Int) : errW (some c) = .iface 0 (.int .i64 c) := rfl

-- the values' own types
def rd_L2 (xs : List (List Int)) (i : Int) : (List Int) := xs.getD i.toNat ([] : List Int)
theorem at_L2 {w : World} {A : Option Addr} {n : Nat} {xs : List (List Int)} (h : Kd.C (Kd.slice 27 (Kd.int .u32)) w A n xs) (i : Int) (h0 : 0 ≤ i) (h1 : i < n) : ∃ ad A0 c0, A = some ad ∧ w.cell? (ad.add i.toNat) = some (.slice A0 (rd_L2 xs i).length c0) ∧ (rd_L2 xs i).length ≤ c0 ∧ (Kd.int .u32).C w A0 (rd_L2 xs i).length (rd_L2 xs i) := by
  obtain ⟨ad, c, e, _, hK, hc0⟩ := Kd.C_get h ([] : List Int) i h0 h1
  have hc : ∀ j u, c[j]? = some u → w.cell? (ad.add (i.toNat * 1 + j)) = some u := hc0
  obtain ⟨A0, c0, rfl, l0, g0⟩ := hK
  exact ⟨ad, A0, c0, e, by have hq := hc 0 _ rfl; rwa [Nat.mul_one, Nat.add_zero] at hq, l0, g0⟩

end Go.Proofs.YtjoncjnmhhimhaaDoor.POidB
namespace Go.Proofs.YtjoncjnmhhimhaaDoor.POidB
open Go.RowKit Go.Proofs.YtjoncjnmhhimhaaDoor.Hand Go.Proofs.YtjoncjnmhhimhaaDoorW.PrintWords Go.Proofs.YtjoncjnmhhimhaaDoorW.PrintLast Go.Proofs.YtjoncjnmhhimhaaDoorW.PrintMore
attribute [local go_sem] max2_int min2_int max_two min_two max_three min_three max_four min_four   -- for this text's walks alone
set_option linter.unusedVariables false
set_option linter.unusedSimpArgs false

-- BY CONTRACT: function 12 (pyxlaw09_awake)

-- BY CONTRACT: function 21 (pyxref09_Text)

-- BY CONTRACT: function 22 (oid_Below)

/-! ### pyxlaw09_OidBelow: function 5 -/
def pyxlaw09_OidBelow.j0 : Nat → List Int → List Int → Bool → Option (Bool)
  | 0, _, _, _ => none
  | k + 1, x0, x1, x19 => if x19 = true then ((pyxlaw09_awake.f).bind fun t102 => (some t102)) else ((pyxref09_Text.f x0).bind fun t103 => ((pyxref09_Text.f x1).bind fun t104 => (if t104.size + 1 ≤ 9223372036854775807 then (if t103.toList = ([] : List UInt8) then ((oid_Below.f x0 x1).bind fun t105 => (some (t105 == false))) else (if (t104 ++ (⟨#[46]⟩ : ByteArray)).toList = ([46] : List UInt8) then ((oid_Below.f x0 x1).bind fun t106 => (some (t106 == false))) else (if (t103.size : Int) > ((t104 ++ (⟨#[46]⟩ : ByteArray)).size : Int) then (if 0 ≤ (mn ((t104 ++ (⟨#[46]⟩ : ByteArray)).size : Int) (t103.size : Int)) then (if (mn ((t104 ++ (⟨#[46]⟩ : ByteArray)).size : Int) (t103.size : Int)) ≤ (t103.size : Int) then ((oid_Below.f x0 x1).bind fun t107 => (some (t107 == ((t103.extract 0 ((mn ((t104 ++ (⟨#[46]⟩ : ByteArray)).size : Int) (t103.size : Int)) : Int).toNat).toList == (t104 ++ (⟨#[46]⟩ : ByteArray)).toList)))) else (none)) else (none)) else ((oid_Below.f x0 x1).bind fun t108 => (some (t108 == false)))))) else (none))))
def pyxlaw09_OidBelow.f (k : Nat) (l0 : List Int) (l1 : List Int) : Option (Bool) := (pyxlaw09_awake.f).bind fun t101 => (if t101 = true then (if (l0.length : Int) > 100 then (pyxlaw09_OidBelow.j0 k l0 l1 true) else (pyxlaw09_OidBelow.j0 k l0 l1 (decide ((l1.length : Int) > 100)))) else (pyxlaw09_OidBelow.j0 k l0 l1 true))
theorem pyxlaw09_OidBelow.mono_l : ∀ k, (∀ y0 y1 y2, LeO (pyxlaw09_OidBelow.j0 k y0 y1 y2) (pyxlaw09_OidBelow.j0 (k + 1) y0 y1 y2))
  | 0 => fun _ _ _ r h => by simp [pyxlaw09_OidBelow.j0] at h
  | k + 1 => by
    have ih0 := pyxlaw09_OidBelow.mono_l k
    · intro y0 y1 y2
      unfold pyxlaw09_OidBelow.j0
      repeat' first
      | (with_reducible exact ih0 _ _ _)
      | (with_reducible exact LeO.refl _)
      | (with_reducible exact LeO.none _)
      | (with_reducible refine LeO.ite ?_ ?_)
      | (with_reducible refine LeO.bind ?_ (fun _ => ?_))
      | exact ih0 _ _ _
      | exact LeO.none _
      | refine LeO.ite ?_ ?_
      | refine LeO.bind ?_ (fun _ => ?_)
theorem pyxlaw09_OidBelow.mono : ∀ a0 a1 k, LeO (pyxlaw09_OidBelow.f k a0 a1) (pyxlaw09_OidBelow.f (k + 1) a0 a1) := by
  intro a0 a1 k
  have ih0 := pyxlaw09_OidBelow.mono_l k
  unfold pyxlaw09_OidBelow.f
  repeat' first
      | (with_reducible exact ih0 _ _ _)
      | (with_reducible exact LeO.refl _)
      | (with_reducible exact LeO.none _)
      | (with_reducible refine LeO.ite ?_ ?_)
      | (with_reducible refine LeO.bind ?_ (fun _ => ?_))
      | exact ih0 _ _ _
      | exact LeO.none _
      | refine LeO.ite ?_ ?_
      | refine LeO.bind ?_ (fun _ => ?_)
set_option maxHeartbeats 8000000 in
set_option maxRecDepth 100000 in
theorem pyxlaw09_OidBelow.calls (k : Nat) (A0 : Option Addr) (c0 : Nat) (l0 : List Int) (A1 : Option Addr) (c1 : Nat) (l1 : List Int) (r : Bool) (w : World) (HLd : LaidOk w) (hr0 : Kd.C (Kd.int .u32) w A0 l0.length l0) (hc0 : l0.length ≤ c0) (hr1 : Kd.C (Kd.int .u32) w A1 l1.length l1) (hc1 : l1.length ≤ c1) (h : pyxlaw09_OidBelow.f k l0 l1 = some r) :
    Calls Tryd.prog 5 #[.slice A0 l0.length c0, .slice A1 l1.length c1] w fun e w' => e = .returned (.bool r) ∧ Below w.heap.size w w' := by
  have HR0 := Aside0.mk hr0
  have HC0 := Aside0.mk hc0
  clear hr0 hc0
  have HR1 := Aside0.mk hr1
  have HC1 := Aside0.mk hc1
  clear hr1 hc1
  have HB := Aside0.mk (Below.refl w.heap.size w)
  have H : ((pyxlaw09_awake.f).bind fun t101 => (if t101 = true then (if (l0.length : Int) > 100 then (pyxlaw09_OidBelow.j0 k l0 l1 true) else (pyxlaw09_OidBelow.j0 k l0 l1 (decide ((l1.length : Int) > 100)))) else (pyxlaw09_OidBelow.j0 k l0 l1 true))) = some r := h
  clear h
  have HC3 := Aside0.mk H
  clear H
  go_enter Tryd.func5, Tryd.ntmps5
  go_upto_region 1 with (fail)
  go_cut [19] (fun v19 wc => ∃ (kq : Nat) (x19_2 : Bool), v19 = .bool x19_2 ∧ Aside0 (pyxlaw09_OidBelow.j0 kq l0 l1 x19_2 = some r) ∧ Aside0 (kq ≤ k) ∧ Aside0 (Below w.heap.size w wc))
  case first =>
    have H := HC3.out
    clear HC3
    replace H := Option.bind_eq_some_iff.mp H
    obtain ⟨t101, A40, H⟩ := H
    replace H : (if t101 = true then (if (l0.length : Int) > 100 then (pyxlaw09_OidBelow.j0 k l0 l1 true) else (pyxlaw09_OidBelow.j0 k l0 l1 (decide ((l1.length : Int) > 100)))) else (pyxlaw09_OidBelow.j0 k l0 l1 true)) = some r := H
    have A4 := Aside0.mk A40
    clear A40
    by_cases c5 : t101 = true
    · subst c5
      have H1 : (if (l0.length : Int) > 100 then (pyxlaw09_OidBelow.j0 k l0 l1 true) else (pyxlaw09_OidBelow.j0 k l0 l1 (decide ((l1.length : Int) > 100)))) = some r := by rw [if_pos rfl] at H; exact H
      clear H
      have H := H1
      clear H1
      by_cases c6 : (l0.length : Int) > 100
      · rw [if_pos c6] at H
        have c6b0 : decide (100 < (l0.length : Int)) = true := decide_eq_true c6
        have c6b1 : decide (100 < l0.length) = true := decide_eq_true (by omega)
        clear c6
        (first | rw [c6b0] | (simp only [i64_w, i32_w]; rw [c6b0]) | skip)
        have H' := Aside0.mk H
        clear H
        go_wp2_with (first | ((with_reducible refine gate_callee (f := 12) rfl ?_); refine goesL_ (some 8) rfl rfl Tryd.func12 (by kernel_rfl) rfl #[] rfl (by (try simp only [List.map_toArray, List.map_cons, List.map_nil]); first | done | rfl | (simp only [List.length_drop, List.length_take]; rfl)) ?_; (with_reducible refine (pyxlaw09_awake.calls  true _ ?side1 A4.out).mono ?_); (case side1 => first | exact HLd | (exact LaidOk.below HLd (by repeat (first | (with_reducible first | exact HB.out | apply below_alloc | apply pw_below_drewN | apply below_drew1) | exact HB.out))) | (repeat (first | exact HLd | apply LaidOk.drewN | apply LaidOk.drew | apply LaidOk.alloc))); rintro e w7 ⟨rfl, hb⟩; refine ⟨_, rfl, ?_⟩; have n0_ := Aside0.mk (below_step (by repeat (first | (with_reducible first | exact HB.out | apply below_alloc | apply pw_below_drewN | apply below_drew1) | exact HB.out)) hb); clear HB; have HB := n0_; clear n0_; (try clear hb); (try clear hb2); (try clear hk); (try clear hi)))
        go_meet
        case rel => exact ⟨_, (true), (by first | rfl | (simp; done) | (simp [*]; done)), H', ⟨by first | omega | exact Nat.le_refl _⟩, ⟨by repeat (first | (with_reducible first | exact HB.out | apply below_alloc | apply pw_below_drewN | apply below_drew1) | exact HB.out)⟩⟩
      · rw [if_neg c6] at H
        have c6b0 : decide (100 < (l0.length : Int)) = false := decide_eq_false c6
        have c6b1 : decide (100 < l0.length) = false := decide_eq_false (by omega)
        clear c6
        (first | rw [c6b0] | (simp only [i64_w, i32_w]; rw [c6b0]) | skip)
        have H' := Aside0.mk H
        clear H
        go_wp2_with (first | ((with_reducible refine gate_callee (f := 12) rfl ?_); refine goesL_ (some 8) rfl rfl Tryd.func12 (by kernel_rfl) rfl #[] rfl (by (try simp only [List.map_toArray, List.map_cons, List.map_nil]); first | done | rfl | (simp only [List.length_drop, List.length_take]; rfl)) ?_; (with_reducible refine (pyxlaw09_awake.calls  true _ ?side1 A4.out).mono ?_); (case side1 => first | exact HLd | (exact LaidOk.below HLd (by repeat (first | (with_reducible first | exact HB.out | apply below_alloc | apply pw_below_drewN | apply below_drew1) | exact HB.out))) | (repeat (first | exact HLd | apply LaidOk.drewN | apply LaidOk.drew | apply LaidOk.alloc))); rintro e w8 ⟨rfl, hb⟩; refine ⟨_, rfl, ?_⟩; have n0_ := Aside0.mk (below_step (by repeat (first | (with_reducible first | exact HB.out | apply below_alloc | apply pw_below_drewN | apply below_drew1) | exact HB.out)) hb); clear HB; have HB := n0_; clear n0_; (try clear hb); (try clear hb2); (try clear hk); (try clear hi)))
        go_meet
        case rel => exact ⟨_, (decide ((l1.length : Int) > 100)), (by first | rfl | (simp; done) | (simp [*]; done)), H', ⟨by first | omega | exact Nat.le_refl _⟩, ⟨by repeat (first | (with_reducible first | exact HB.out | apply below_alloc | apply pw_below_drewN | apply below_drew1) | exact HB.out)⟩⟩
    · replace c5 := Bool.eq_false_iff.mpr c5
      subst c5
      have H1 : (pyxlaw09_OidBelow.j0 k l0 l1 true) = some r := by rw [if_neg (show ¬ (false = true) by decide)] at H; exact H
      clear H
      have H := H1
      clear H1
      have H' := Aside0.mk H
      clear H
      go_wp2_with (first | ((with_reducible refine gate_callee (f := 12) rfl ?_); refine goesL_ (some 8) rfl rfl Tryd.func12 (by kernel_rfl) rfl #[] rfl (by (try simp only [List.map_toArray, List.map_cons, List.map_nil]); first | done | rfl | (simp only [List.length_drop, List.length_take]; rfl)) ?_; (with_reducible refine (pyxlaw09_awake.calls  false _ ?side1 A4.out).mono ?_); (case side1 => first | exact HLd | (exact LaidOk.below HLd (by repeat (first | (with_reducible first | exact HB.out | apply below_alloc | apply pw_below_drewN | apply below_drew1) | exact HB.out))) | (repeat (first | exact HLd | apply LaidOk.drewN | apply LaidOk.drew | apply LaidOk.alloc))); rintro e w9 ⟨rfl, hb⟩; refine ⟨_, rfl, ?_⟩; have n0_ := Aside0.mk (below_step (by repeat (first | (with_reducible first | exact HB.out | apply below_alloc | apply pw_below_drewN | apply below_drew1) | exact HB.out)) hb); clear HB; have HB := n0_; clear n0_; (try clear hb); (try clear hb2); (try clear hk); (try clear hi)))
      go_meet
      case rel => exact ⟨_, (true), (by first | rfl | (simp; done) | (simp [*]; done)), H', ⟨by first | omega | exact Nat.le_refl _⟩, ⟨by repeat (first | (with_reducible first | exact HB.out | apply below_alloc | apply pw_below_drewN | apply below_drew1) | exact HB.out)⟩⟩
  case rest =>
    clear HC3
    try clear c1
    try clear p2
    try clear c5
    try clear c6
    try clear c6b0
    try clear c6b1
    obtain ⟨kq, x19_2, rfl, HA, HJ2, HB⟩ := hcut
    cases kq with
    | zero => exact absurd HA.out (by simp [pyxlaw09_OidBelow.j0])
    | succ kj2 =>
      have H := HA.out
      clear HA
      simp only [pyxlaw09_OidBelow.j0] at H
      by_cases c10 : x19_2 = true
      · subst c10
        have H1 : ((pyxlaw09_awake.f).bind fun t102 => (some t102)) = some r := by rw [if_pos rfl] at H; exact H
        clear H
        have H := H1
        clear H1
        replace H := Option.bind_eq_some_iff.mp H
        obtain ⟨t102, A110, H⟩ := H
        replace H : (some t102) = some r := H
        have A11 := Aside0.mk A110
        clear A110
        obtain rfl := Option.some.inj H
        go_wp2_with (first | ((with_reducible refine gate_callee (f := 12) rfl ?_); refine goesL_ (some 20) rfl rfl Tryd.func12 (by kernel_rfl) rfl #[] rfl (by (try simp only [List.map_toArray, List.map_cons, List.map_nil]); first | done | rfl | (simp only [List.length_drop, List.length_take]; rfl)) ?_; (with_reducible refine (pyxlaw09_awake.calls  t102 _ ?side1 A11.out).mono ?_); (case side1 => first | exact HLd | (exact LaidOk.below HLd (by repeat (first | (with_reducible first | exact HB.out | apply below_alloc | apply pw_below_drewN | apply below_drew1) | exact HB.out))) | (repeat (first | exact HLd | apply LaidOk.drewN | apply LaidOk.drew | apply LaidOk.alloc))); rintro e w12 ⟨rfl, hb⟩; refine ⟨_, rfl, ?_⟩; have n0_ := Aside0.mk (below_step (by repeat (first | (with_reducible first | exact HB.out | apply below_alloc | apply pw_below_drewN | apply below_drew1) | exact HB.out)) hb); clear HB; have HB := n0_; clear n0_; (try clear hb); (try clear hb2); (try clear hk); (try clear hi)))
        go_ret
        exact ⟨by first | rfl | (simp [errW_none, errW_some] <;> rfl) | (simp [*, errW_none, errW_some] <;> rfl), by repeat (first | (with_reducible first | exact HB.out | apply below_alloc | apply pw_below_drewN | apply below_drew1) | exact HB.out)⟩
      · replace c10 := Bool.eq_false_iff.mpr c10
        subst c10
        have H1 : ((pyxref09_Text.f l0).bind fun t103 => ((pyxref09_Text.f l1).bind fun t104 => (if t104.size + 1 ≤ 9223372036854775807 then (if t103.toList = ([] : List UInt8) then ((oid_Below.f l0 l1).bind fun t105 => (some (t105 == false))) else (if (t104 ++ (⟨#[46]⟩ : ByteArray)).toList = ([46] : List UInt8) then ((oid_Below.f l0 l1).bind fun t106 => (some (t106 == false))) else (if (t103.size : Int) > ((t104 ++ (⟨#[46]⟩ : ByteArray)).size : Int) then (if 0 ≤ (mn ((t104 ++ (⟨#[46]⟩ : ByteArray)).size : Int) (t103.size : Int)) then (if (mn ((t104 ++ (⟨#[46]⟩ : ByteArray)).size : Int) (t103.size : Int)) ≤ (t103.size : Int) then ((oid_Below.f l0 l1).bind fun t107 => (some (t107 == ((t103.extract 0 ((mn ((t104 ++ (⟨#[46]⟩ : ByteArray)).size : Int) (t103.size : Int)) : Int).toNat).toList == (t104 ++ (⟨#[46]⟩ : ByteArray)).toList)))) else (none)) else (none)) else ((oid_Below.f l0 l1).bind fun t108 => (some (t108 == false)))))) else (none)))) = some r := by rw [if_neg (show ¬ (false = true) by decide)] at H; exact H
        clear H
        have H := H1
        clear H1
        replace H := Option.bind_eq_some_iff.mp H
        obtain ⟨t103, A130, H⟩ := H
        replace H : ((pyxref09_Text.f l1).bind fun t104 => (if t104.size + 1 ≤ 9223372036854775807 then (if t103.toList = ([] : List UInt8) then ((oid_Below.f l0 l1).bind fun t105 => (some (t105 == false))) else (if (t104 ++ (⟨#[46]⟩ : ByteArray)).toList = ([46] : List UInt8) then ((oid_Below.f l0 l1).bind fun t106 => (some (t106 == false))) else (if (t103.size : Int) > ((t104 ++ (⟨#[46]⟩ : ByteArray)).size : Int) then (if 0 ≤ (mn ((t104 ++ (⟨#[46]⟩ : ByteArray)).size : Int) (t103.size : Int)) then (if (mn ((t104 ++ (⟨#[46]⟩ : ByteArray)).size : Int) (t103.size : Int)) ≤ (t103.size : Int) then ((oid_Below.f l0 l1).bind fun t107 => (some (t107 == ((t103.extract 0 ((mn ((t104 ++ (⟨#[46]⟩ : ByteArray)).size : Int) (t103.size : Int)) : Int).toNat).toList == (t104 ++ (⟨#[46]⟩ : ByteArray)).toList)))) else (none)) else (none)) else ((oid_Below.f l0 l1).bind fun t108 => (some (t108 == false)))))) else (none))) = some r := H
        have A13 := Aside0.mk A130
        clear A130
        replace H := Option.bind_eq_some_iff.mp H
        obtain ⟨t104, A140, H⟩ := H
        replace H : (if t104.size + 1 ≤ 9223372036854775807 then (if t103.toList = ([] : List UInt8) then ((oid_Below.f l0 l1).bind fun t105 => (some (t105 == false))) else (if (t104 ++ (⟨#[46]⟩ : ByteArray)).toList = ([46] : List UInt8) then ((oid_Below.f l0 l1).bind fun t106 => (some (t106 == false))) else (if (t103.size : Int) > ((t104 ++ (⟨#[46]⟩ : ByteArray)).size : Int) then (if 0 ≤ (mn ((t104 ++ (⟨#[46]⟩ : ByteArray)).size : Int) (t103.size : Int)) then (if (mn ((t104 ++ (⟨#[46]⟩ : ByteArray)).size : Int) (t103.size : Int)) ≤ (t103.size : Int) then ((oid_Below.f l0 l1).bind fun t107 => (some (t107 == ((t103.extract 0 ((mn ((t104 ++ (⟨#[46]⟩ : ByteArray)).size : Int) (t103.size : Int)) : Int).toNat).toList == (t104 ++ (⟨#[46]⟩ : ByteArray)).toList)))) else (none)) else (none)) else ((oid_Below.f l0 l1).bind fun t108 => (some (t108 == false)))))) else (none)) = some r := H
        have A14 := Aside0.mk A140
        clear A140
        by_cases c15 : t104.size + 1 ≤ 9223372036854775807
        · rw [if_pos c15] at H
          have c15b0 := eq_true c15
          have c15b1 : decide (t104.size + 1 ≤ 9223372036854775807) = true := decide_eq_true c15
          try have c15b2 : (9223372036854775807 < t104.size + 1) = False := eq_false (Nat.not_lt.2 c15)
          by_cases c16 : t103.toList = ([] : List UInt8)
          · rw [if_pos c16] at H
            have c16b0 : (t103.toList == ([] : List UInt8)) = true := beq_iff_eq.mpr c16
            have c16b1 : (t103.toList != ([] : List UInt8)) = false := bne_eq_false_iff_eq.mpr c16
            clear c16
            replace H := Option.bind_eq_some_iff.mp H
            obtain ⟨t105, A170, H⟩ := H
            replace H : (some (t105 == false)) = some r := H
            have A17 := Aside0.mk A170
            clear A170
            obtain rfl := Option.some.inj H
            go_wp2_with (first | ((with_reducible refine gate_callee (f := 21) rfl ?_); refine goesL_ (some 22) rfl rfl Tryd.func21 (by kernel_rfl) rfl #[.slice A0 l0.length c0] rfl (by (try simp only [List.map_toArray, List.map_cons, List.map_nil]); first | done | rfl | (simp only [List.length_drop, List.length_take]; rfl)) ?_; (with_reducible refine (pyxref09_Text.calls _ _ l0 t103 _ ?side1 ?side2 ?side3 A13.out).mono ?_); (case side1 => first | exact HLd | (exact LaidOk.below HLd (by repeat (first | (with_reducible first | exact HB.out | apply below_alloc | apply pw_below_drewN | apply below_drew1) | exact HB.out))) | (repeat (first | exact HLd | apply LaidOk.drewN | apply LaidOk.drew | apply LaidOk.alloc))); (case side2 => repeat (first | exact (Kd.C_below HR0.out HB.out) | (with_reducible refine Kd.C_alloc ?_ _) | (with_reducible refine Kd.C_drewN ?_ _) | (with_reducible refine Kd.C_drew ?_))); (case side3 => exact HC0.out); rintro e w18 ⟨rfl, hb⟩; refine ⟨_, rfl, ?_⟩; have n0_ := Aside0.mk (below_step (by repeat (first | (with_reducible first | exact HB.out | apply below_alloc | apply pw_below_drewN | apply below_drew1) | exact HB.out)) hb); clear HB; have HB := n0_; clear n0_; (try clear hb); (try clear hb2); (try clear hk); (try clear hi)) | ((with_reducible refine gate_callee (f := 21) rfl ?_); refine goesL_ (some 24) rfl rfl Tryd.func21 (by kernel_rfl) rfl #[.slice A1 l1.length c1] rfl (by (try simp only [List.map_toArray, List.map_cons, List.map_nil]); first | done | rfl | (simp only [List.length_drop, List.length_take]; rfl)) ?_; (with_reducible refine (pyxref09_Text.calls _ _ l1 t104 _ ?side1 ?side2 ?side3 A14.out).mono ?_); (case side1 => first | exact HLd | (exact LaidOk.below HLd (by repeat (first | (with_reducible first | exact HB.out | apply below_alloc | apply pw_below_drewN | apply below_drew1) | exact HB.out))) | (repeat (first | exact HLd | apply LaidOk.drewN | apply LaidOk.drew | apply LaidOk.alloc))); (case side2 => repeat (first | exact (Kd.C_below HR1.out HB.out) | (with_reducible refine Kd.C_alloc ?_ _) | (with_reducible refine Kd.C_drewN ?_ _) | (with_reducible refine Kd.C_drew ?_))); (case side3 => exact HC1.out); rintro e w19 ⟨rfl, hb⟩; refine ⟨_, rfl, ?_⟩; have n0_ := Aside0.mk (below_step (by repeat (first | (with_reducible first | exact HB.out | apply below_alloc | apply pw_below_drewN | apply below_drew1) | exact HB.out)) hb); clear HB; have HB := n0_; clear n0_; (try clear hb); (try clear hb2); (try clear hk); (try clear hi)) | ((with_reducible refine gate_callee (f := 22) rfl ?_); refine goesL_ (some 52) rfl rfl Tryd.func22 (by kernel_rfl) rfl #[.slice A0 l0.length c0, .slice A1 l1.length c1] rfl (by (try simp only [List.map_toArray, List.map_cons, List.map_nil]); first | done | rfl | (simp only [List.length_drop, List.length_take]; rfl)) ?_; (with_reducible refine (oid_Below.calls _ _ l0 _ _ l1 t105 _ ?side1 ?side2 ?side3 ?side4 A17.out).mono ?_); (case side1 => repeat (first | exact (Kd.C_below HR0.out HB.out) | (with_reducible refine Kd.C_alloc ?_ _) | (with_reducible refine Kd.C_drewN ?_ _) | (with_reducible refine Kd.C_drew ?_))); (case side2 => exact HC0.out); (case side3 => repeat (first | exact (Kd.C_below HR1.out HB.out) | (with_reducible refine Kd.C_alloc ?_ _) | (with_reducible refine Kd.C_drewN ?_ _) | (with_reducible refine Kd.C_drew ?_))); (case side4 => exact HC1.out); rintro e w' ⟨rfl, ⟨nd, rfl⟩⟩; refine ⟨_, rfl, ?_⟩))
            go_ret
            exact ⟨by first | rfl | (simp [errW_none, errW_some] <;> rfl) | (simp [*, errW_none, errW_some] <;> rfl), by repeat (first | (with_reducible first | exact HB.out | apply below_alloc | apply pw_below_drewN | apply below_drew1) | exact HB.out)⟩
          · rw [if_neg c16] at H
            have c16b0 : (t103.toList == ([] : List UInt8)) = false := beq_eq_false_iff_ne.mpr c16
            have c16b1 : (t103.toList != ([] : List UInt8)) = true := bne_iff_ne.mpr c16
            by_cases c20 : (t104 ++ (⟨#[46]⟩ : ByteArray)).toList = ([46] : List UInt8)
            · rw [if_pos c20] at H
              have c20b0 : ((t104 ++ (⟨#[46]⟩ : ByteArray)).toList == ([46] : List UInt8)) = true := beq_iff_eq.mpr c20
              have c20b1 : ((t104 ++ (⟨#[46]⟩ : ByteArray)).toList != ([46] : List UInt8)) = false := bne_eq_false_iff_eq.mpr c20
              clear c20
              replace H := Option.bind_eq_some_iff.mp H
              obtain ⟨t106, A210, H⟩ := H
              replace H : (some (t106 == false)) = some r := H
              have A21 := Aside0.mk A210
              clear A210
              obtain rfl := Option.some.inj H
              go_wp2_with (first | ((with_reducible refine gate_callee (f := 21) rfl ?_); refine goesL_ (some 22) rfl rfl Tryd.func21 (by kernel_rfl) rfl #[.slice A0 l0.length c0] rfl (by (try simp only [List.map_toArray, List.map_cons, List.map_nil]); first | done | rfl | (simp only [List.length_drop, List.length_take]; rfl)) ?_; (with_reducible refine (pyxref09_Text.calls _ _ l0 t103 _ ?side1 ?side2 ?side3 A13.out).mono ?_); (case side1 => first | exact HLd | (exact LaidOk.below HLd (by repeat (first | (with_reducible first | exact HB.out | apply below_alloc | apply pw_below_drewN | apply below_drew1) | exact HB.out))) | (repeat (first | exact HLd | apply LaidOk.drewN | apply LaidOk.drew | apply LaidOk.alloc))); (case side2 => repeat (first | exact (Kd.C_below HR0.out HB.out) | (with_reducible refine Kd.C_alloc ?_ _) | (with_reducible refine Kd.C_drewN ?_ _) | (with_reducible refine Kd.C_drew ?_))); (case side3 => exact HC0.out); rintro e w22 ⟨rfl, hb⟩; refine ⟨_, rfl, ?_⟩; have n0_ := Aside0.mk (below_step (by repeat (first | (with_reducible first | exact HB.out | apply below_alloc | apply pw_below_drewN | apply below_drew1) | exact HB.out)) hb); clear HB; have HB := n0_; clear n0_; (try clear hb); (try clear hb2); (try clear hk); (try clear hi)) | ((with_reducible refine gate_callee (f := 21) rfl ?_); refine goesL_ (some 24) rfl rfl Tryd.func21 (by kernel_rfl) rfl #[.slice A1 l1.length c1] rfl (by (try simp only [List.map_toArray, List.map_cons, List.map_nil]); first | done | rfl | (simp only [List.length_drop, List.length_take]; rfl)) ?_; (with_reducible refine (pyxref09_Text.calls _ _ l1 t104 _ ?side1 ?side2 ?side3 A14.out).mono ?_); (case side1 => first | exact HLd | (exact LaidOk.below HLd (by repeat (first | (with_reducible first | exact HB.out | apply below_alloc | apply pw_below_drewN | apply below_drew1) | exact HB.out))) | (repeat (first | exact HLd | apply LaidOk.drewN | apply LaidOk.drew | apply LaidOk.alloc))); (case side2 => repeat (first | exact (Kd.C_below HR1.out HB.out) | (with_reducible refine Kd.C_alloc ?_ _) | (with_reducible refine Kd.C_drewN ?_ _) | (with_reducible refine Kd.C_drew ?_))); (case side3 => exact HC1.out); rintro e w23 ⟨rfl, hb⟩; refine ⟨_, rfl, ?_⟩; have n0_ := Aside0.mk (below_step (by repeat (first | (with_reducible first | exact HB.out | apply below_alloc | apply pw_below_drewN | apply below_drew1) | exact HB.out)) hb); clear HB; have HB := n0_; clear n0_; (try clear hb); (try clear hb2); (try clear hk); (try clear hi)) | ((with_reducible refine gate_callee (f := 22) rfl ?_); refine goesL_ (some 52) rfl rfl Tryd.func22 (by kernel_rfl) rfl #[.slice A0 l0.length c0, .slice A1 l1.length c1] rfl (by (try simp only [List.map_toArray, List.map_cons, List.map_nil]); first | done | rfl | (simp only [List.length_drop, List.length_take]; rfl)) ?_; (with_reducible refine (oid_Below.calls _ _ l0 _ _ l1 t106 _ ?side1 ?side2 ?side3 ?side4 A21.out).mono ?_); (case side1 => repeat (first | exact (Kd.C_below HR0.out HB.out) | (with_reducible refine Kd.C_alloc ?_ _) | (with_reducible refine Kd.C_drewN ?_ _) | (with_reducible refine Kd.C_drew ?_))); (case side2 => exact HC0.out); (case side3 => repeat (first | exact (Kd.C_below HR1.out HB.out) | (with_reducible refine Kd.C_alloc ?_ _) | (with_reducible refine Kd.C_drewN ?_ _) | (with_reducible refine Kd.C_drew ?_))); (case side4 => exact HC1.out); rintro e w' ⟨rfl, ⟨nd, rfl⟩⟩; refine ⟨_, rfl, ?_⟩))
              go_ret
              exact ⟨by first | rfl | (simp [errW_none, errW_some] <;> rfl) | (simp [*, errW_none, errW_some] <;> rfl), by repeat (first | (with_reducible first | exact HB.out | apply below_alloc | apply pw_below_drewN | apply below_drew1) | exact HB.out)⟩
            · rw [if_neg c20] at H
              have c20b0 : ((t104 ++ (⟨#[46]⟩ : ByteArray)).toList == ([46] : List UInt8)) = false := beq_eq_false_iff_ne.mpr c20
              have c20b1 : ((t104 ++ (⟨#[46]⟩ : ByteArray)).toList != ([46] : List UInt8)) = true := bne_iff_ne.mpr c20
              by_cases c24 : (t103.size : Int) > ((t104 ++ (⟨#[46]⟩ : ByteArray)).size : Int)
              · rw [if_pos c24] at H
                have c24b0 : decide (((t104 ++ (⟨#[46]⟩ : ByteArray)).size : Int) < (t103.size : Int)) = true := decide_eq_true c24
                have c24b1 : decide ((t104 ++ (⟨#[46]⟩ : ByteArray)).size < t103.size) = true := decide_eq_true (Int.ofNat_lt.mp c24)
                have c24n0 : decide (t104.size + 1 < t103.size) = true := by
                  have hs_ := of_decide_eq_true c24b1
                  rw [ByteArray.size_append, show (⟨#[46]⟩ : ByteArray).size = 1 from rfl] at hs_
                  exact decide_eq_true (by omega)
                have c24n1 : decide ((t104.size : Int) + 1 < (t103.size : Int)) = true := by
                  have hs_ := of_decide_eq_true c24b1
                  rw [ByteArray.size_append, show (⟨#[46]⟩ : ByteArray).size = 1 from rfl] at hs_
                  exact decide_eq_true (by omega)
                have c24m0 : ((t103.size : Int) < (t104.size : Int) + 1) = False := by
                  have hs_ := of_decide_eq_true c24n0
                  exact eq_false (by omega)
                have c24m1 : ((t104.size : Int) + 1 ≤ (t103.size : Int)) = True := by
                  have hs_ := of_decide_eq_true c24n0
                  exact eq_true (by omega)
                have c24m2 : decide ((t103.size : Int) < (t104.size : Int) + 1) = false := by
                  have hs_ := of_decide_eq_true c24n0
                  exact decide_eq_false (by omega)
                clear c24
                obtain ⟨ji25, hji25⟩ : ∃ j_ : Int, (mn ((t104 ++ (⟨#[46]⟩ : ByteArray)).size : Int) (t103.size : Int)) = j_ := ⟨_, rfl⟩
                replace H : (if 0 ≤ (ji25) then (if (ji25) ≤ (t103.size : Int) then ((oid_Below.f l0 l1).bind fun t107 => (some (t107 == ((t103.extract 0 ((ji25) : Int).toNat).toList == (t104 ++ (⟨#[46]⟩ : ByteArray)).toList)))) else (none)) else (none)) = some r := by first | (rw [hji25] at H; exact H) | (simp only [hji25] at H ⊢; exact H)
                (try rw [hji25] at A13)
                (try rw [hji25] at A14)
                (try (have hji25l : 0 ≤ ji25 := by (rw [← hji25]; unfold mn; (repeat' split) <;> omega)))
                (try (have hji25m : 0 ≤ ji25 := by omega))
                have hji25_ : (if (t103.size : Int) < ((t104 ++ (⟨#[46]⟩ : ByteArray)).size : Int) then (t103.size : Int) else ((t104 ++ (⟨#[46]⟩ : ByteArray)).size : Int)) = ji25 := hji25
                by_cases c26 : 0 ≤ (ji25)
                · rw [if_pos c26] at H
                  have c26b0 := eq_true c26
                  have c26b1 : decide (0 ≤ (ji25)) = true := decide_eq_true c26
                  clear c26
                  by_cases c27 : (ji25) ≤ (t103.size : Int)
                  · rw [if_pos c27] at H
                    have c27b0 := eq_true c27
                    have c27b1 : decide ((ji25) ≤ (t103.size : Int)) = true := decide_eq_true c27
                    clear c27
                    replace H := Option.bind_eq_some_iff.mp H
                    obtain ⟨t107, A280, H⟩ := H
                    replace H : (some (t107 == ((t103.extract 0 ((ji25) : Int).toNat).toList == (t104 ++ (⟨#[46]⟩ : ByteArray)).toList))) = some r := H
                    have A28 := Aside0.mk A280
                    clear A280
                    obtain rfl := Option.some.inj H
                    go_wp2_with (first | ((with_reducible refine gate_callee (f := 21) rfl ?_); refine goesL_ (some 22) rfl rfl Tryd.func21 (by kernel_rfl) rfl #[.slice A0 l0.length c0] rfl (by (try simp only [List.map_toArray, List.map_cons, List.map_nil]); first | done | rfl | (simp only [List.length_drop, List.length_take]; rfl)) ?_; (with_reducible refine (pyxref09_Text.calls _ _ l0 t103 _ ?side1 ?side2 ?side3 A13.out).mono ?_); (case side1 => first | exact HLd | (exact LaidOk.below HLd (by repeat (first | (with_reducible first | exact HB.out | apply below_alloc | apply pw_below_drewN | apply below_drew1) | exact HB.out))) | (repeat (first | exact HLd | apply LaidOk.drewN | apply LaidOk.drew | apply LaidOk.alloc))); (case side2 => repeat (first | exact (Kd.C_below HR0.out HB.out) | (with_reducible refine Kd.C_alloc ?_ _) | (with_reducible refine Kd.C_drewN ?_ _) | (with_reducible refine Kd.C_drew ?_))); (case side3 => exact HC0.out); rintro e w29 ⟨rfl, hb⟩; refine ⟨_, rfl, ?_⟩; have n0_ := Aside0.mk (below_step (by repeat (first | (with_reducible first | exact HB.out | apply below_alloc | apply pw_below_drewN | apply below_drew1) | exact HB.out)) hb); clear HB; have HB := n0_; clear n0_; (try clear hb); (try clear hb2); (try clear hk); (try clear hi)) | ((with_reducible refine gate_callee (f := 21) rfl ?_); refine goesL_ (some 24) rfl rfl Tryd.func21 (by kernel_rfl) rfl #[.slice A1 l1.length c1] rfl (by (try simp only [List.map_toArray, List.map_cons, List.map_nil]); first | done | rfl | (simp only [List.length_drop, List.length_take]; rfl)) ?_; (with_reducible refine (pyxref09_Text.calls _ _ l1 t104 _ ?side1 ?side2 ?side3 A14.out).mono ?_); (case side1 => first | exact HLd | (exact LaidOk.below HLd (by repeat (first | (with_reducible first | exact HB.out | apply below_alloc | apply pw_below_drewN | apply below_drew1) | exact HB.out))) | (repeat (first | exact HLd | apply LaidOk.drewN | apply LaidOk.drew | apply LaidOk.alloc))); (case side2 => repeat (first | exact (Kd.C_below HR1.out HB.out) | (with_reducible refine Kd.C_alloc ?_ _) | (with_reducible refine Kd.C_drewN ?_ _) | (with_reducible refine Kd.C_drew ?_))); (case side3 => exact HC1.out); rintro e w30 ⟨rfl, hb⟩; refine ⟨_, rfl, ?_⟩; have n0_ := Aside0.mk (below_step (by repeat (first | (with_reducible first | exact HB.out | apply below_alloc | apply pw_below_drewN | apply below_drew1) | exact HB.out)) hb); clear HB; have HB := n0_; clear n0_; (try clear hb); (try clear hb2); (try clear hk); (try clear hi)) | ((with_reducible refine gate_callee (f := 22) rfl ?_); refine goesL_ (some 52) rfl rfl Tryd.func22 (by kernel_rfl) rfl #[.slice A0 l0.length c0, .slice A1 l1.length c1] rfl (by (try simp only [List.map_toArray, List.map_cons, List.map_nil]); first | done | rfl | (simp only [List.length_drop, List.length_take]; rfl)) ?_; (with_reducible refine (oid_Below.calls _ _ l0 _ _ l1 t107 _ ?side1 ?side2 ?side3 ?side4 A28.out).mono ?_); (case side1 => repeat (first | exact (Kd.C_below HR0.out HB.out) | (with_reducible refine Kd.C_alloc ?_ _) | (with_reducible refine Kd.C_drewN ?_ _) | (with_reducible refine Kd.C_drew ?_))); (case side2 => exact HC0.out); (case side3 => repeat (first | exact (Kd.C_below HR1.out HB.out) | (with_reducible refine Kd.C_alloc ?_ _) | (with_reducible refine Kd.C_drewN ?_ _) | (with_reducible refine Kd.C_drew ?_))); (case side4 => exact HC1.out); rintro e w' ⟨rfl, ⟨nd, rfl⟩⟩; refine ⟨_, rfl, ?_⟩))
                    go_ret
                    have hs_ := of_decide_eq_true c24b1
                    rw [ByteArray.size_append, show (⟨#[46]⟩ : ByteArray).size = 1 from rfl] at hs_
                    rw [ByteArray.size_append, show (⟨#[46]⟩ : ByteArray).size = 1 from rfl] at hji25_
                    have hj_ : ji25.toNat = t104.size + 1 := by rw [← hji25_]; split <;> omega
                    exact ⟨by first | rfl | (rw [hj_]; done) | (rw [hj_]; rfl) | (simp [errW_none, errW_some] <;> rfl) | (simp only [← hji25]; first | rfl | (simp [errW_none, errW_some] <;> rfl)) | (simp [*, errW_none, errW_some] <;> rfl), by repeat (first | (with_reducible first | exact HB.out | apply below_alloc | apply pw_below_drewN | apply below_drew1) | exact HB.out)⟩
                  · rw [if_neg c27] at H
                    exact absurd H (by simp)
                · rw [if_neg c26] at H
                  exact absurd H (by simp)
              · rw [if_neg c24] at H
                have c24b0 : decide (((t104 ++ (⟨#[46]⟩ : ByteArray)).size : Int) < (t103.size : Int)) = false := decide_eq_false c24
                have c24b1 : decide ((t104 ++ (⟨#[46]⟩ : ByteArray)).size < t103.size) = false := decide_eq_false (fun h => c24 (Int.ofNat_lt.mpr h))
                have c24n0 : decide (t104.size + 1 < t103.size) = false := by
                  have hs_ := of_decide_eq_false c24b1
                  rw [ByteArray.size_append, show (⟨#[46]⟩ : ByteArray).size = 1 from rfl] at hs_
                  exact decide_eq_false (by omega)
                have c24n1 : decide ((t104.size : Int) + 1 < (t103.size : Int)) = false := by
                  have hs_ := of_decide_eq_false c24b1
                  rw [ByteArray.size_append, show (⟨#[46]⟩ : ByteArray).size = 1 from rfl] at hs_
                  exact decide_eq_false (by omega)
                clear c24
                replace H := Option.bind_eq_some_iff.mp H
                obtain ⟨t108, A310, H⟩ := H
                replace H : (some (t108 == false)) = some r := H
                have A31 := Aside0.mk A310
                clear A310
                obtain rfl := Option.some.inj H
                go_wp2_with (first | ((with_reducible refine gate_callee (f := 21) rfl ?_); refine goesL_ (some 22) rfl rfl Tryd.func21 (by kernel_rfl) rfl #[.slice A0 l0.length c0] rfl (by (try simp only [List.map_toArray, List.map_cons, List.map_nil]); first | done | rfl | (simp only [List.length_drop, List.length_take]; rfl)) ?_; (with_reducible refine (pyxref09_Text.calls _ _ l0 t103 _ ?side1 ?side2 ?side3 A13.out).mono ?_); (case side1 => first | exact HLd | (exact LaidOk.below HLd (by repeat (first | (with_reducible first | exact HB.out | apply below_alloc | apply pw_below_drewN | apply below_drew1) | exact HB.out))) | (repeat (first | exact HLd | apply LaidOk.drewN | apply LaidOk.drew | apply LaidOk.alloc))); (case side2 => repeat (first | exact (Kd.C_below HR0.out HB.out) | (with_reducible refine Kd.C_alloc ?_ _) | (with_reducible refine Kd.C_drewN ?_ _) | (with_reducible refine Kd.C_drew ?_))); (case side3 => exact HC0.out); rintro e w32 ⟨rfl, hb⟩; refine ⟨_, rfl, ?_⟩; have n0_ := Aside0.mk (below_step (by repeat (first | (with_reducible first | exact HB.out | apply below_alloc | apply pw_below_drewN | apply below_drew1) | exact HB.out)) hb); clear HB; have HB := n0_; clear n0_; (try clear hb); (try clear hb2); (try clear hk); (try clear hi)) | ((with_reducible refine gate_callee (f := 21) rfl ?_); refine goesL_ (some 24) rfl rfl Tryd.func21 (by kernel_rfl) rfl #[.slice A1 l1.length c1] rfl (by (try simp only [List.map_toArray, List.map_cons, List.map_nil]); first | done | rfl | (simp only [List.length_drop, List.length_take]; rfl)) ?_; (with_reducible refine (pyxref09_Text.calls _ _ l1 t104 _ ?side1 ?side2 ?side3 A14.out).mono ?_); (case side1 => first | exact HLd | (exact LaidOk.below HLd (by repeat (first | (with_reducible first | exact HB.out | apply below_alloc | apply pw_below_drewN | apply below_drew1) | exact HB.out))) | (repeat (first | exact HLd | apply LaidOk.drewN | apply LaidOk.drew | apply LaidOk.alloc))); (case side2 => repeat (first | exact (Kd.C_below HR1.out HB.out) | (with_reducible refine Kd.C_alloc ?_ _) | (with_reducible refine Kd.C_drewN ?_ _) | (with_reducible refine Kd.C_drew ?_))); (case side3 => exact HC1.out); rintro e w33 ⟨rfl, hb⟩; refine ⟨_, rfl, ?_⟩; have n0_ := Aside0.mk (below_step (by repeat (first | (with_reducible first | exact HB.out | apply below_alloc | apply pw_below_drewN | apply below_drew1) | exact HB.out)) hb); clear HB; have HB := n0_; clear n0_; (try clear hb); (try clear hb2); (try clear hk); (try clear hi)) | ((with_reducible refine gate_callee (f := 22) rfl ?_); refine goesL_ (some 52) rfl rfl Tryd.func22 (by kernel_rfl) rfl #[.slice A0 l0.length c0, .slice A1 l1.length c1] rfl (by (try simp only [List.map_toArray, List.map_cons, List.map_nil]); first | done | rfl | (simp only [List.length_drop, List.length_take]; rfl)) ?_; (with_reducible refine (oid_Below.calls _ _ l0 _ _ l1 t108 _ ?side1 ?side2 ?side3 ?side4 A31.out).mono ?_); (case side1 => repeat (first | exact (Kd.C_below HR0.out HB.out) | (with_reducible refine Kd.C_alloc ?_ _) | (with_reducible refine Kd.C_drewN ?_ _) | (with_reducible refine Kd.C_drew ?_))); (case side2 => exact HC0.out); (case side3 => repeat (first | exact (Kd.C_below HR1.out HB.out) | (with_reducible refine Kd.C_alloc ?_ _) | (with_reducible refine Kd.C_drewN ?_ _) | (with_reducible refine Kd.C_drew ?_))); (case side4 => exact HC1.out); rintro e w' ⟨rfl, ⟨nd, rfl⟩⟩; refine ⟨_, rfl, ?_⟩))
                go_ret
                exact ⟨by first | rfl | (simp [errW_none, errW_some] <;> rfl) | (simp [*, errW_none, errW_some] <;> rfl), by repeat (first | (with_reducible first | exact HB.out | apply below_alloc | apply pw_below_drewN | apply below_drew1) | exact HB.out)⟩
        · rw [if_neg c15] at H
          exact absurd H (by simp)

/-- THE ONE PURE STATEMENT of pyxlaw09_OidBelow: yours. -/
def pyxlaw09_OidBelow.Pure : Prop := ∀ (l0 : List Int) (l1 : List Int), l0.length ≤ maxLen → l0.length * 4 ≤ 140737488351232 → (∀ x ∈ l0, (Lit.int .u32 x).wf = true) → l1.length ≤ maxLen → l1.length * 4 ≤ 140737488351232 → (∀ x ∈ l1, (Lit.int .u32 x).wf = true) → ∃ k, pyxlaw09_OidBelow.f k l0 l1 = some true
theorem pyxlaw09_OidBelow.walk (P : pyxlaw09_OidBelow.Pure) (a0 : Option Addr) (len0 cap0 : Nat) (z0 : List Int) (a1 : Option Addr) (len1 cap1 : Nat) (z1 : List Int) (w : World) (HLd : LaidOk w) (w0 : (a0 = none ∧ len0 = 0 ∧ cap0 = 0 ∧ z0 = []) ∨ ∃ x, a0 = some x ∧ len0 ≤ cap0 ∧ cap0 ≤ maxLen ∧ z0.length = cap0 ∧ (∀ i, i < z0.length → w.cell? (x.add i) = some (.int .u32 (z0.getD i 0))) ∧ ∀ n ∈ z0, (Lit.int .u32 n).wf = true) (y0 : len0 * 4 ≤ 140737488351232) (w1 : (a1 = none ∧ len1 = 0 ∧ cap1 = 0 ∧ z1 = []) ∨ ∃ x, a1 = some x ∧ len1 ≤ cap1 ∧ cap1 ≤ maxLen ∧ z1.length = cap1 ∧ (∀ i, i < z1.length → w.cell? (x.add i) = some (.int .u32 (z1.getD i 0))) ∧ ∀ n ∈ z1, (Lit.int .u32 n).wf = true) (y1 : len1 * 4 ≤ 140737488351232) :
    Calls Tryd.prog 5 #[.slice a0 len0 cap0, .slice a1 len1 cap1] w fun e w' => e = .returned (.bool true) ∧ Below w.heap.size w w' := by
  obtain ⟨l0, rfl, hr0, hm0, hw0, hc0⟩ := ReadsInt.ofRowC w0
  obtain ⟨l1, rfl, hr1, hm1, hw1, hc1⟩ := ReadsInt.ofRowC w1
  obtain ⟨k, h⟩ := P l0 l1 hm0 y0 hw0 hm1 y1 hw1
  refine (pyxlaw09_OidBelow.calls k _ _ l0 _ _ l1 true w HLd (Kd.C_of_reads (d := (0 : Int)) (h1 := fun _ => rfl) hr0) hc0 (Kd.C_of_reads (d := (0 : Int)) (h1 := fun _ => rfl) hr1) hc1 h).mono ?_
  rintro e w' ⟨rfl, hd⟩
  exact ⟨rfl, hd⟩

end Go.Proofs.YtjoncjnmhhimhaaDoor.POidB

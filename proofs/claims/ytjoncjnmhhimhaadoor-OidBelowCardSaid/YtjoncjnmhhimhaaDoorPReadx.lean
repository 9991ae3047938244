-- Written by the kit's print.py, driven by this place's wip/tools/myprint.py. Not trusted: Lean checks it.
import Derived.Test.YtjoncjnmhhimhaaDoorOidValid
import Derived.Test.YtjoncjnmhhimhaaDoorProg
import Derived.Below
import Derived.Deep.Draws
import Derived.Deep.AppendLies
import Derived.Maps.AppendAt
import Derived.OwnWalk
import Derived.Laws.BytesArg
import Derived.Laws.MakeOwn
import Derived.Laws.OwnMore
import Derived.Deep.OwnRows
import Derived.Tactics
import Derived.Lib.ConvBytes
import Derived.Laws.Slices
import Derived.WalkKit
import Derived.KernelRfl
import Derived.RowKit3
import Derived.Deep.LoopGhost
import Derived.Deep.QuietTactic
import Derived.BigQuiet
import Derived.WideLaws
import Derived.Deep.DeepCutAuto
import Derived.Deep.CutBlock
import Derived.Deep.RegionHeld3
import Derived.Laws.Rows
import Derived.Lib.AppendStr
import Derived.ArgAppend
import Derived.Laws.IdiomCopy
import Derived.OrdersHeld
import Derived.Laws.BitsLemmas
import Derived.RowKit
import Derived.Test.YtjoncjnmhhimhaaDoorWMore
import Derived.Test.YtjoncjnmhhimhaaDoorWGuard
import Derived.Test.YtjoncjnmhhimhaaDoorWRepsOne
namespace Go.Proofs.YtjoncjnmhhimhaaDoor.PRead
open Go.RowKit Go.Proofs.YtjoncjnmhhimhaaDoor.Hand Go.Proofs.YtjoncjnmhhimhaaDoorW.PrintWords Go.Proofs.YtjoncjnmhhimhaaDoorW.PrintLast Go.Proofs.YtjoncjnmhhimhaaDoorW.PrintMore
attribute [local go_sem] max2_int min2_int max_two min_two max_three min_three max_four min_four   -- for this text's walks alone
set_option linter.unusedVariables false
set_option linter.unusedSimpArgs false



def errW : Option Int → Value
  | none => .nilIface
  | some c => .iface 0 (.int .i64 c)
theorem errW_none : errW none = .nilIface := rfl
theorem errW_some (c : Int) : errW (some c) = .iface 0 (.int .i64 c) := rfl

theorem info27 : (Tryd.prog.info? 27).map (fun i => (i.zero, i.size, i.bytes)) = some (some (.int .u32 0), 1, 4) := by kernel_rfl
-- the values' own types
def rd_L1 (xs : List (List Int)) (i : Int) : (List Int) := xs.getD i.toNat ([] : List Int)
theorem at_L1 {w : World} {A : Option Addr} {n : Nat} {xs : List (List Int)} (h : Kd.C (Kd.slice 27 (Kd.int .u32)) w A n xs) (i : Int) (h0 : 0 ≤ i) (h1 : i < n) : ∃ ad A0 c0, A = some ad ∧ w.cell? (ad.add i.toNat) = some (.slice A0 (rd_L1 xs i).length c0) ∧ (rd_L1 xs i).length ≤ c0 ∧ (Kd.int .u32).C w A0 (rd_L1 xs i).length (rd_L1 xs i) := by
  obtain ⟨ad, c, e, _, hK, hc0⟩ := Kd.C_get h ([] : List Int) i h0 h1
  have hc : ∀ j u, c[j]? = some u → w.cell? (ad.add (i.toNat * 1 + j)) = some u := hc0
  obtain ⟨A0, c0, rfl, l0, g0⟩ := hK
  exact ⟨ad, A0, c0, e, by have hq := hc 0 _ rfl; rwa [Nat.mul_one, Nat.add_zero] at hq, l0, g0⟩

end Go.Proofs.YtjoncjnmhhimhaaDoor.PRead
namespace Go.Proofs.YtjoncjnmhhimhaaDoor.PRead
open Go.RowKit Go.Proofs.YtjoncjnmhhimhaaDoor.Hand Go.Proofs.YtjoncjnmhhimhaaDoorW.PrintWords Go.Proofs.YtjoncjnmhhimhaaDoorW.PrintLast Go.Proofs.YtjoncjnmhhimhaaDoorW.PrintMore
attribute [local go_sem] max2_int min2_int max_two min_two max_three min_three max_four min_four   -- for this text's walks alone
set_option linter.unusedVariables false
set_option linter.unusedSimpArgs false

-- BY CONTRACT: function 36 (oid_Valid)

/-! ### oid_Read: function 17 -/
mutual
def oid_Read.l0 : Nat → List Int → Int → Bool → List Int → Int → Int → Option (List Int × Bool)
  | 0, _, _, _, _, _, _ => none
  | k + 1, x4, x5, x6, x10, x11, x12 => if x12 < x11 then (if 0 ≤ x12 then (if x12 < (x10.length : Int) then (if x6 = true then (oid_Read.j1 k x4 x5 (rd x10 x12) x10 x11 x12 false) else (oid_Read.j1 k x4 x5 (rd x10 x12) x10 x11 x12 ((rd x10 x12) == 128))) else (none)) else (none)) else (if x6 = true then (some (([] : List Int), false)) else ((oid_Valid.f x4).bind fun t101 => (if t101 = true then (some (x4, true)) else (some (([] : List Int), false)))))
def oid_Read.j1 : Nat → List Int → Int → Int → List Int → Int → Int → Bool → Option (List Int × Bool)
  | 0, _, _, _, _, _, _, _ => none
  | k + 1, x4, x5, x8, x10, x11, x12, x16 => if x16 = true then (oid_Read.j2 k x4 x5 x8 x10 x11 x12 x16) else (oid_Read.j2 k x4 x5 x8 x10 x11 x12 (decide ((x4.length : Int) > 20)))
def oid_Read.j2 : Nat → List Int → Int → Int → List Int → Int → Int → Bool → Option (List Int × Bool)
  | 0, _, _, _, _, _, _, _ => none
  | k + 1, x4, x5, x8, x10, x11, x12, x16 => if x16 = true then (some (([] : List Int), false)) else (if x5 ≥ 4294967296 then (some (([] : List Int), false)) else (if x8 ≥ 128 then (oid_Read.l0 k x4 (Go.bits .or .u64 (IntKind.u64.wrap (x5 * 128)) (IntKind.u64.wrap (Go.bits .and .u8 x8 127))) (decide (x8 ≥ 128)) x10 x11 (wrap64 (x12 + 1))) else (if (Go.bits .or .u64 (IntKind.u64.wrap (x5 * 128)) (IntKind.u64.wrap (Go.bits .and .u8 x8 127))) ≥ 4294967296 then (some (([] : List Int), false)) else (if (x4.length : Int) = 0 then ((some (([(mn (IntKind.u64.wrap (Int.tdiv (Go.bits .or .u64 (IntKind.u64.wrap (x5 * 128)) (IntKind.u64.wrap (Go.bits .and .u8 x8 127))) 40)) 2) % 4294967296, (IntKind.u64.wrap ((Go.bits .or .u64 (IntKind.u64.wrap (x5 * 128)) (IntKind.u64.wrap (Go.bits .and .u8 x8 127))) - (IntKind.u64.wrap (40 * (mn (IntKind.u64.wrap (Int.tdiv (Go.bits .or .u64 (IntKind.u64.wrap (x5 * 128)) (IntKind.u64.wrap (Go.bits .and .u8 x8 127))) 40)) 2))))) % 4294967296] : List Int) : List Int)).bind fun y103 => (if x4.length + y103.length < 35184372088832 then (oid_Read.l0 k (x4 ++ y103) 0 (decide (x8 ≥ 128)) x10 x11 (wrap64 (x12 + 1))) else (none))) else (if x4.length < 35184372088832 then (oid_Read.l0 k (x4 ++ [(Go.bits .or .u64 (IntKind.u64.wrap (x5 * 128)) (IntKind.u64.wrap (Go.bits .and .u8 x8 127))) % 4294967296]) 0 (decide (x8 ≥ 128)) x10 x11 (wrap64 (x12 + 1))) else (none))))))
end
def oid_Read.f (k : Nat) (l0 : List Int) : Option (List Int × Bool) := oid_Read.l0 k ([] : List Int) 0 false l0 (l0.length : Int) 0
theorem oid_Read.mono_l : ∀ k, (∀ y0 y1 y2 y3 y4 y5, LeO (oid_Read.l0 k y0 y1 y2 y3 y4 y5) (oid_Read.l0 (k + 1) y0 y1 y2 y3 y4 y5)) ∧ (∀ y0 y1 y2 y3 y4 y5 y6, LeO (oid_Read.j1 k y0 y1 y2 y3 y4 y5 y6) (oid_Read.j1 (k + 1) y0 y1 y2 y3 y4 y5 y6)) ∧ (∀ y0 y1 y2 y3 y4 y5 y6, LeO (oid_Read.j2 k y0 y1 y2 y3 y4 y5 y6) (oid_Read.j2 (k + 1) y0 y1 y2 y3 y4 y5 y6))
  | 0 => ⟨fun _ _ _ _ _ _ r h => by simp [oid_Read.l0] at h, fun _ _ _ _ _ _ _ r h => by simp [oid_Read.j1] at h, fun _ _ _ _ _ _ _ r h => by simp [oid_Read.j2] at h⟩
  | k + 1 => by
    obtain ⟨ih0, ih1, ih2⟩ := oid_Read.mono_l k
    refine ⟨?_, ?_, ?_⟩
    · intro y0 y1 y2 y3 y4 y5
      unfold oid_Read.l0
      repeat' first
      | (with_reducible exact ih0 _ _ _ _ _ _)
      | (with_reducible exact ih1 _ _ _ _ _ _ _)
      | (with_reducible exact ih2 _ _ _ _ _ _ _)
      | (with_reducible exact LeO.refl _)
      | (with_reducible exact LeO.none _)
      | (with_reducible refine LeO.ite ?_ ?_)
      | (with_reducible refine LeO.bind ?_ (fun _ => ?_))
      | exact ih0 _ _ _ _ _ _
      | exact ih1 _ _ _ _ _ _ _
      | exact ih2 _ _ _ _ _ _ _
      | exact LeO.none _
      | refine LeO.ite ?_ ?_
      | refine LeO.bind ?_ (fun _ => ?_)
    · intro y0 y1 y2 y3 y4 y5 y6
      unfold oid_Read.j1
      repeat' first
      | (with_reducible exact ih0 _ _ _ _ _ _)
      | (with_reducible exact ih1 _ _ _ _ _ _ _)
      | (with_reducible exact ih2 _ _ _ _ _ _ _)
      | (with_reducible exact LeO.refl _)
      | (with_reducible exact LeO.none _)
      | (with_reducible refine LeO.ite ?_ ?_)
      | (with_reducible refine LeO.bind ?_ (fun _ => ?_))
      | exact ih0 _ _ _ _ _ _
      | exact ih1 _ _ _ _ _ _ _
      | exact ih2 _ _ _ _ _ _ _
      | exact LeO.none _
      | refine LeO.ite ?_ ?_
      | refine LeO.bind ?_ (fun _ => ?_)
    · intro y0 y1 y2 y3 y4 y5 y6
      unfold oid_Read.j2
      repeat' first
      | (with_reducible exact ih0 _ _ _ _ _ _)
      | (with_reducible exact ih1 _ _ _ _ _ _ _)
      | (with_reducible exact ih2 _ _ _ _ _ _ _)
      | (with_reducible exact LeO.refl _)
      | (with_reducible exact LeO.none _)
      | (with_reducible refine LeO.ite ?_ ?_)
      | (with_reducible refine LeO.bind ?_ (fun _ => ?_))
      | exact ih0 _ _ _ _ _ _
      | exact ih1 _ _ _ _ _ _ _
      | exact ih2 _ _ _ _ _ _ _
      | exact LeO.none _
      | refine LeO.ite ?_ ?_
      | refine LeO.bind ?_ (fun _ => ?_)
theorem oid_Read.mono : ∀ a0 k, LeO (oid_Read.f k a0) (oid_Read.f (k + 1) a0) := by
  intro a0 k
  obtain ⟨ih0, ih1, ih2⟩ := oid_Read.mono_l k
  unfold oid_Read.f
  repeat' first
      | (with_reducible exact ih0 _ _ _ _ _ _)
      | (with_reducible exact ih1 _ _ _ _ _ _ _)
      | (with_reducible exact ih2 _ _ _ _ _ _ _)
      | (with_reducible exact LeO.refl _)
      | (with_reducible exact LeO.none _)
      | (with_reducible refine LeO.ite ?_ ?_)
      | (with_reducible refine LeO.bind ?_ (fun _ => ?_))
      | exact ih0 _ _ _ _ _ _
      | exact ih1 _ _ _ _ _ _ _
      | exact ih2 _ _ _ _ _ _ _
      | exact LeO.none _
      | refine LeO.ite ?_ ?_
      | refine LeO.bind ?_ (fun _ => ?_)
set_option maxHeartbeats 8000000 in
set_option maxRecDepth 100000 in
theorem oid_Read.calls (k : Nat) (A0 : Option Addr) (c0 : Nat) (l0 : List Int) (r1 : List Int) (r2 : Bool) (w : World) (hr0 : Kd.C (Kd.int .u8) w A0 l0.length l0) (hc0 : l0.length ≤ c0) (h : oid_Read.f k l0 = some (r1, r2)) :
    Calls Tryd.prog 17 #[.slice A0 l0.length c0] w fun e w' => ∃ v0_ : Value, e = .returned (.tuple #[v0_, .bool r2]) ∧ Kd.R (Kd.int .u32) 27 w' w.heap.size (fun _ => True) v0_ r1 ∧ Below w.heap.size w w' := by
  have HR0 := Aside0.mk hr0
  have HC0 := Aside0.mk hc0
  clear hr0 hc0
  have HB := Aside0.mk (Below.refl w.heap.size w)
  have H : (oid_Read.l0 k ([] : List Int) 0 false l0 (l0.length : Int) 0) = some (r1, r2) := h
  clear h
  have H' := Aside0.mk H
  clear H
  go_enter Tryd.func17, Tryd.ntmps17
  go_wp2
  go_step3
  go_wp2
  go_step3
  go_wp2
  go_loopg [4, 5, 6, 12] k (fun kq v4 v5 v6 v12 w' => ∃ (x4_1 : List Int) (x5_1 : Int) (x6_1 : Bool) (x12_1 : Int), v5 = .int .u64 x5_1 ∧ v6 = .bool x6_1 ∧ v12 = .int .i64 x12_1 ∧ Aside0 (oid_Read.l0 kq x4_1 x5_1 x6_1 l0 (l0.length : Int) x12_1 = some (r1, r2)) ∧ Aside0 (kq ≤ k) ∧ Aside0 (Kd.R (Kd.int .u32) 27 w' w.heap.size (fun _ => True) v4 x4_1) ∧ Aside0 (Below w.heap.size w w'))
  case atStart => exact ⟨(([] : List Int)), (0), (false), (0), (by first | rfl | (simp; done) | (simp [*]; done)), (by first | rfl | (simp; done) | (simp [*]; done)), (by first | rfl | (simp; done) | (simp [*]; done)), H', ⟨Nat.le_refl _⟩, ⟨by first | exact Kd.R_nil _ _ _ _ _ | exact Kd.N_nil _ _ _ _ _ | exact Kd.V_nil _ _ _ _ _ | exact Kd.Q_nil _ _ _ _ _ | exact Kd.S_nil _ _ _ _ _⟩, ⟨by repeat (first | (with_reducible first | exact HB.out | apply below_alloc | apply pw_below_drewN | apply below_drew1) | exact HB.out)⟩⟩
  case round =>
    clear H'
    try clear c1
    obtain ⟨x4_1, x5_1, x6_1, x12_1, rfl, rfl, rfl, HA, HK1, HO_4, HB⟩ := hrel
    cases gk with
    | zero => exact absurd HA.out (by simp [oid_Read.l0])
    | succ k1 =>
      have H := HA.out
      clear HA
      simp only [oid_Read.l0] at H
      by_cases c2 : x12_1 < (l0.length : Int)
      · rw [if_pos c2] at H
        have c2b0 : decide (x12_1 < (l0.length : Int)) = true := decide_eq_true c2
        clear c2
        by_cases c3 : 0 ≤ x12_1
        · rw [if_pos c3] at H
          have c3b0 : decide (0 ≤ x12_1) = true := decide_eq_true c3
          clear c3
          by_cases c4 : x12_1 < (l0.length : Int)
          · rw [if_pos c4] at H
            have c4b0 : decide (x12_1 < (l0.length : Int)) = true := decide_eq_true c4
            clear c4
            have HC5 := Aside0.mk H
            clear H
            have p102 : 0 ≤ (x12_1 : Int) := of_decide_eq_true (by first | (with_reducible assumption) | assumption)
            have q102 : x12_1 < (l0.length : Int) := of_decide_eq_true (by first | (with_reducible assumption) | assumption)
            obtain ⟨ad102, e102, hx102_0⟩ := Kd.at_int HR0.out x12_1 p102 q102
            cases e102
            replace hx102_0 := (HB.out.cell (World.block_lt_of_cell? w _ hx102_0)).trans hx102_0
            replace p102 := eq_true p102
            replace q102 := eq_true q102
            go_upto_region 6 with (fail)
            go_cut [16] (fun v16 wc => ∃ (kq : Nat) (x16_4 : Bool), v16 = .bool x16_4 ∧ Aside0 (oid_Read.j1 kq x4_1 x5_1 (rd l0 x12_1) l0 (l0.length : Int) x12_1 x16_4 = some (r1, r2)) ∧ Aside0 (kq ≤ k1) ∧ Aside0 (Kd.R (Kd.int .u32) 27 wc w.heap.size (fun _ => True) u4 x4_1) ∧ Aside0 (Below w.heap.size w wc))
            case first =>
              have H := HC5.out
              clear HC5
              by_cases c6 : x6_1 = true
              · subst c6
                have H1 : (oid_Read.j1 k1 x4_1 x5_1 (rd l0 x12_1) l0 (l0.length : Int) x12_1 false) = some (r1, r2) := by rw [if_pos rfl] at H; exact H
                clear H
                have H := H1
                clear H1
                have H' := Aside0.mk H
                clear H
                go_wp2
                go_meet
                case rel => exact ⟨_, (false), (by first | rfl | (simp; done) | (simp [*]; done)), H', ⟨by have := HK1.out; first | omega | exact Nat.le_refl _⟩, ⟨by (with_reducible repeat (first | apply Kd.R_alloc | apply Kd.R_drewN | apply Kd.R_drew)); exact HO_4.out⟩, ⟨by repeat (first | (with_reducible first | exact HB.out | apply below_alloc | apply pw_below_drewN | apply below_drew1) | exact HB.out)⟩⟩
              · replace c6 := Bool.eq_false_iff.mpr c6
                subst c6
                have H1 : (oid_Read.j1 k1 x4_1 x5_1 (rd l0 x12_1) l0 (l0.length : Int) x12_1 ((rd l0 x12_1) == 128)) = some (r1, r2) := by rw [if_neg (show ¬ (false = true) by decide)] at H; exact H
                clear H
                have H := H1
                clear H1
                have H' := Aside0.mk H
                clear H
                go_wp2
                go_meet
                case rel => exact ⟨_, (((rd l0 x12_1) == 128)), (by first | rfl | (simp; done) | (simp [*]; done)), H', ⟨by have := HK1.out; first | omega | exact Nat.le_refl _⟩, ⟨by (with_reducible repeat (first | apply Kd.R_alloc | apply Kd.R_drewN | apply Kd.R_drew)); exact HO_4.out⟩, ⟨by repeat (first | (with_reducible first | exact HB.out | apply below_alloc | apply pw_below_drewN | apply below_drew1) | exact HB.out)⟩⟩
            case rest =>
              clear HC5
              try clear c1
              try clear p1
              try clear q1
              try clear hx1
              try clear c2
              try clear c2b0
              try clear p2
              try clear c3
              try clear c3b0
              try clear c4
              try clear c4b0
              try clear c6
              try clear hx102_0
              try clear p102
              try clear q102
              obtain ⟨kq, x16_4, rfl, HA, HJ4, HO_4, HB⟩ := hcut
              cases kq with
              | zero => exact absurd HA.out (by simp [oid_Read.j1])
              | succ kj4 =>
                have H := HA.out
                clear HA
                simp only [oid_Read.j1] at H
                have HC7 := Aside0.mk H
                clear H
                go_upto_if 16 with (fail)
                go_cut [16] (fun v16 wc => ∃ (kq : Nat) (x16_6 : Bool), v16 = .bool x16_6 ∧ Aside0 (oid_Read.j2 kq x4_1 x5_1 (rd l0 x12_1) l0 (l0.length : Int) x12_1 x16_6 = some (r1, r2)) ∧ Aside0 (kq ≤ kj4) ∧ Aside0 (Kd.R (Kd.int .u32) 27 wc w.heap.size (fun _ => True) u4 x4_1) ∧ Aside0 (Below w.heap.size w wc))
                case first =>
                  have H := HC7.out
                  clear HC7
                  by_cases c8 : x16_4 = true
                  · subst c8
                    have H1 : (oid_Read.j2 kj4 x4_1 x5_1 (rd l0 x12_1) l0 (l0.length : Int) x12_1 true) = some (r1, r2) := by rw [if_pos rfl] at H; exact H
                    clear H
                    have H := H1
                    clear H1
                    have H' := Aside0.mk H
                    clear H
                    go_wp2
                    go_meet
                    case rel => exact ⟨_, (true), (by first | rfl | (simp; done) | (simp [*]; done)), H', ⟨by have := HK1.out; have := HJ4.out; first | omega | exact Nat.le_refl _⟩, ⟨by (with_reducible repeat (first | apply Kd.R_alloc | apply Kd.R_drewN | apply Kd.R_drew)); exact HO_4.out⟩, ⟨by repeat (first | (with_reducible first | exact HB.out | apply below_alloc | apply pw_below_drewN | apply below_drew1) | exact HB.out)⟩⟩
                  · replace c8 := Bool.eq_false_iff.mpr c8
                    subst c8
                    have H1 : (oid_Read.j2 kj4 x4_1 x5_1 (rd l0 x12_1) l0 (l0.length : Int) x12_1 (decide ((x4_1.length : Int) > 20))) = some (r1, r2) := by rw [if_neg (show ¬ (false = true) by decide)] at H; exact H
                    clear H
                    have H := H1
                    clear H1
                    have H' := Aside0.mk H
                    clear H
                    obtain ⟨Ao9, co9, eo9⟩ := Kd.R_slice HO_4.out
                    subst eo9
                    go_wp2
                    go_meet
                    case rel => exact ⟨_, (decide ((x4_1.length : Int) > 20)), (by first | rfl | (simp; done) | (simp [*]; done)), H', ⟨by have := HK1.out; have := HJ4.out; first | omega | exact Nat.le_refl _⟩, ⟨by (with_reducible repeat (first | apply Kd.R_alloc | apply Kd.R_drewN | apply Kd.R_drew)); exact HO_4.out⟩, ⟨by repeat (first | (with_reducible first | exact HB.out | apply below_alloc | apply pw_below_drewN | apply below_drew1) | exact HB.out)⟩⟩
                case rest =>
                  clear HC7
                  try clear c1
                  try clear p1
                  try clear q1
                  try clear hx1
                  try clear c2
                  try clear c2b0
                  try clear p2
                  try clear c3
                  try clear c3b0
                  try clear c4
                  try clear c4b0
                  try clear c6
                  try clear c8
                  try clear hx102_0
                  try clear p1
                  try clear p102
                  try clear p2
                  try clear q1
                  try clear q102
                  obtain ⟨kq, x16_6, rfl, HA, HJ6, HO_4, HB⟩ := hcut
                  cases kq with
                  | zero => exact absurd HA.out (by simp [oid_Read.j2])
                  | succ kj6 =>
                    have H := HA.out
                    clear HA
                    simp only [oid_Read.j2] at H
                    by_cases c10 : x16_6 = true
                    · subst c10
                      have H1 : (some (([] : List Int), false)) = some (r1, r2) := by rw [if_pos rfl] at H; exact H
                      clear H
                      have H := H1
                      clear H1
                      simp only [Option.some.injEq, Prod.mk.injEq] at H
                      obtain ⟨rfl, rfl⟩ := H
                      go_wp2
                      (try rw [Exit.noGoto_ret])
                      go_ret2
                      exact ⟨_, by first | rfl | (simp [errW_none, errW_some] <;> rfl) | (simp [*, errW_none, errW_some] <;> rfl), by first | exact Kd.R_nil _ _ _ _ _ | exact Kd.N_nil _ _ _ _ _ | exact Kd.V_nil _ _ _ _ _ | exact Kd.Q_nil _ _ _ _ _ | exact Kd.S_nil _ _ _ _ _, by repeat (first | (with_reducible first | exact HB.out | apply below_alloc | apply pw_below_drewN | apply below_drew1) | exact HB.out)⟩
                    · replace c10 := Bool.eq_false_iff.mpr c10
                      subst c10
                      have H1 : (if x5_1 ≥ 4294967296 then (some (([] : List Int), false)) else (if (rd l0 x12_1) ≥ 128 then (oid_Read.l0 kj6 x4_1 (Go.bits .or .u64 (IntKind.u64.wrap (x5_1 * 128)) (IntKind.u64.wrap (Go.bits .and .u8 (rd l0 x12_1) 127))) (decide ((rd l0 x12_1) ≥ 128)) l0 (l0.length : Int) (wrap64 (x12_1 + 1))) else (if (Go.bits .or .u64 (IntKind.u64.wrap (x5_1 * 128)) (IntKind.u64.wrap (Go.bits .and .u8 (rd l0 x12_1) 127))) ≥ 4294967296 then (some (([] : List Int), false)) else (if (x4_1.length : Int) = 0 then ((some (([(mn (IntKind.u64.wrap (Int.tdiv (Go.bits .or .u64 (IntKind.u64.wrap (x5_1 * 128)) (IntKind.u64.wrap (Go.bits .and .u8 (rd l0 x12_1) 127))) 40)) 2) % 4294967296, (IntKind.u64.wrap ((Go.bits .or .u64 (IntKind.u64.wrap (x5_1 * 128)) (IntKind.u64.wrap (Go.bits .and .u8 (rd l0 x12_1) 127))) - (IntKind.u64.wrap (40 * (mn (IntKind.u64.wrap (Int.tdiv (Go.bits .or .u64 (IntKind.u64.wrap (x5_1 * 128)) (IntKind.u64.wrap (Go.bits .and .u8 (rd l0 x12_1) 127))) 40)) 2))))) % 4294967296] : List Int) : List Int)).bind fun y103 => (if x4_1.length + y103.length < 35184372088832 then (oid_Read.l0 kj6 (x4_1 ++ y103) 0 (decide ((rd l0 x12_1) ≥ 128)) l0 (l0.length : Int) (wrap64 (x12_1 + 1))) else (none))) else (if x4_1.length < 35184372088832 then (oid_Read.l0 kj6 (x4_1 ++ [(Go.bits .or .u64 (IntKind.u64.wrap (x5_1 * 128)) (IntKind.u64.wrap (Go.bits .and .u8 (rd l0 x12_1) 127))) % 4294967296]) 0 (decide ((rd l0 x12_1) ≥ 128)) l0 (l0.length : Int) (wrap64 (x12_1 + 1))) else (none)))))) = some (r1, r2) := by rw [if_neg (show ¬ (false = true) by decide)] at H; exact H
                      clear H
                      have H := H1
                      clear H1
                      by_cases c11 : x5_1 ≥ 4294967296
                      · rw [if_pos c11] at H
                        have c11b0 : decide (4294967296 ≤ x5_1) = true := decide_eq_true c11
                        clear c11
                        simp only [Option.some.injEq, Prod.mk.injEq] at H
                        obtain ⟨rfl, rfl⟩ := H
                        go_wp2
                        (try rw [Exit.noGoto_ret])
                        go_ret2
                        exact ⟨_, by first | rfl | (simp [errW_none, errW_some] <;> rfl) | (simp [*, errW_none, errW_some] <;> rfl), by first | exact Kd.R_nil _ _ _ _ _ | exact Kd.N_nil _ _ _ _ _ | exact Kd.V_nil _ _ _ _ _ | exact Kd.Q_nil _ _ _ _ _ | exact Kd.S_nil _ _ _ _ _, by repeat (first | (with_reducible first | exact HB.out | apply below_alloc | apply pw_below_drewN | apply below_drew1) | exact HB.out)⟩
                      · rw [if_neg c11] at H
                        have c11b0 : decide (4294967296 ≤ x5_1) = false := decide_eq_false c11
                        clear c11
                        by_cases c12 : (rd l0 x12_1) ≥ 128
                        · rw [if_pos c12] at H
                          have c12b0 : decide (128 ≤ (rd l0 x12_1)) = true := decide_eq_true c12
                          clear c12
                          have H' := Aside0.mk H
                          clear H
                          go_wp2
                          go_roundg kj6
                          case measure => have := HK1.out; have := HJ4.out; have := HJ6.out; omega
                          case rel => exact ⟨(x4_1), (Go.bits .or .u64 (IntKind.u64.wrap (x5_1 * 128)) (IntKind.u64.wrap (Go.bits .and .u8 (rd l0 x12_1) 127))), (decide ((rd l0 x12_1) ≥ 128)), (wrap64 (x12_1 + 1)), (by first | rfl | (simp; done) | (simp [*]; done)), (by first | rfl | (simp; done) | (simp [*]; done)), (by first | rfl | (simp; done) | (simp [*]; done)), H', ⟨by have := HK1.out; have := HJ4.out; have := HJ6.out; omega⟩, ⟨by (with_reducible repeat (first | apply Kd.R_alloc | apply Kd.R_drewN | apply Kd.R_drew)); exact HO_4.out⟩, ⟨by repeat (first | (with_reducible first | exact HB.out | apply below_alloc | apply pw_below_drewN | apply below_drew1) | exact HB.out)⟩⟩
                        · rw [if_neg c12] at H
                          have c12b0 : decide (128 ≤ (rd l0 x12_1)) = false := decide_eq_false c12
                          clear c12
                          by_cases c13 : (Go.bits .or .u64 (IntKind.u64.wrap (x5_1 * 128)) (IntKind.u64.wrap (Go.bits .and .u8 (rd l0 x12_1) 127))) ≥ 4294967296
                          · rw [if_pos c13] at H
                            have c13b0 : decide (4294967296 ≤ (Go.bits .or .u64 (IntKind.u64.wrap (x5_1 * 128)) (IntKind.u64.wrap (Go.bits .and .u8 (rd l0 x12_1) 127)))) = true := decide_eq_true c13
                            clear c13
                            simp only [Option.some.injEq, Prod.mk.injEq] at H
                            obtain ⟨rfl, rfl⟩ := H
                            go_wp2
                            (try rw [Exit.noGoto_ret])
                            go_ret2
                            exact ⟨_, by first | rfl | (simp [errW_none, errW_some] <;> rfl) | (simp [*, errW_none, errW_some] <;> rfl), by first | exact Kd.R_nil _ _ _ _ _ | exact Kd.N_nil _ _ _ _ _ | exact Kd.V_nil _ _ _ _ _ | exact Kd.Q_nil _ _ _ _ _ | exact Kd.S_nil _ _ _ _ _, by repeat (first | (with_reducible first | exact HB.out | apply below_alloc | apply pw_below_drewN | apply below_drew1) | exact HB.out)⟩
                          · rw [if_neg c13] at H
                            have c13b0 : decide (4294967296 ≤ (Go.bits .or .u64 (IntKind.u64.wrap (x5_1 * 128)) (IntKind.u64.wrap (Go.bits .and .u8 (rd l0 x12_1) 127)))) = false := decide_eq_false c13
                            clear c13
                            by_cases c14 : (x4_1.length : Int) = 0
                            · rw [if_pos c14] at H
                              have c14b0 : ((x4_1.length : Int) == 0) = true := beq_iff_eq.mpr c14
                              have c14b1 : ((x4_1.length : Int) != 0) = false := bne_eq_false_iff_eq.mpr c14
                              clear c14
                              obtain ⟨ji15, hji15⟩ : ∃ j_ : Int, (mn (IntKind.u64.wrap (Int.tdiv (Go.bits .or .u64 (IntKind.u64.wrap (x5_1 * 128)) (IntKind.u64.wrap (Go.bits .and .u8 (rd l0 x12_1) 127))) 40)) 2) = j_ := ⟨_, rfl⟩
                              replace H : ((some (([(ji15) % 4294967296, (IntKind.u64.wrap ((Go.bits .or .u64 (IntKind.u64.wrap (x5_1 * 128)) (IntKind.u64.wrap (Go.bits .and .u8 (rd l0 x12_1) 127))) - (IntKind.u64.wrap (40 * (ji15))))) % 4294967296] : List Int) : List Int)).bind fun y103 => (if x4_1.length + y103.length < 35184372088832 then (oid_Read.l0 kj6 (x4_1 ++ y103) 0 (decide ((rd l0 x12_1) ≥ 128)) l0 (l0.length : Int) (wrap64 (x12_1 + 1))) else (none))) = some (r1, r2) := by first | (rw [hji15] at H; exact H) | (simp only [hji15] at H ⊢; exact H)
                              have hji15_ : (if 2 < (IntKind.u64.wrap (Int.tdiv (Go.bits .or .u64 (IntKind.u64.wrap (x5_1 * 128)) (IntKind.u64.wrap (Go.bits .and .u8 (rd l0 x12_1) 127))) 40)) then 2 else (IntKind.u64.wrap (Int.tdiv (Go.bits .or .u64 (IntKind.u64.wrap (x5_1 * 128)) (IntKind.u64.wrap (Go.bits .and .u8 (rd l0 x12_1) 127))) 40))) = ji15 := hji15
                              obtain ⟨y103, hy103⟩ : ∃ y_ : List Int, y_ = (([(ji15) % 4294967296, (IntKind.u64.wrap ((Go.bits .or .u64 (IntKind.u64.wrap (x5_1 * 128)) (IntKind.u64.wrap (Go.bits .and .u8 (rd l0 x12_1) 127))) - (IntKind.u64.wrap (40 * (ji15))))) % 4294967296] : List Int)) := ⟨_, rfl⟩
                              replace H : (if x4_1.length + y103.length < 35184372088832 then (oid_Read.l0 kj6 (x4_1 ++ y103) 0 (decide ((rd l0 x12_1) ≥ 128)) l0 (l0.length : Int) (wrap64 (x12_1 + 1))) else (none)) = some (r1, r2) := by first | (rw [hy103]; with_reducible exact H) | (have H2_ := (Option.bind_some _ _).symm.trans H; rw [hy103]; with_reducible exact H2_) | (have H2_ := (Option.bind_some _ _).symm.trans H; with_reducible exact H2_) | with_reducible exact H | (rw [hy103]; exact H) | exact H
                              have Ny103 := Aside0.mk hy103
                              clear hy103
                              by_cases c16 : x4_1.length + y103.length < 35184372088832
                              · rw [if_pos c16] at H
                                have LMc16 := Aside0.mk c16
                                clear c16
                                obtain ⟨y106, hy106⟩ : ∃ y_ : List Int, y_ = (x4_1 ++ y103) := ⟨_, rfl⟩
                                replace H : (oid_Read.l0 kj6 y106 0 (decide ((rd l0 x12_1) ≥ 128)) l0 (l0.length : Int) (wrap64 (x12_1 + 1))) = some (r1, r2) := by first | (rw [hy106]; with_reducible exact H) | (have H2_ := (Option.bind_some _ _).symm.trans H; rw [hy106]; with_reducible exact H2_) | (have H2_ := (Option.bind_some _ _).symm.trans H; with_reducible exact H2_) | with_reducible exact H | (rw [hy106]; exact H) | exact H
                                have Ny106 := Aside0.mk hy106
                                clear hy106
                                have H' := Aside0.mk H
                                clear H
                                obtain ⟨Ao17, co17, eo17⟩ := Kd.R_slice HO_4.out
                                subst eo17
                                go_wp2_with (first | ((with_reducible refine gate_dst (N := 54) rfl ?_); refine Kd.R_lit (Kd.int .u32) _ 27 ?hg (N := 54) ?hd (xs := ([(ji15) % 4294967296, (IntKind.u64.wrap ((Go.bits .or .u64 (IntKind.u64.wrap (x5_1 * 128)) (IntKind.u64.wrap (Go.bits .and .u8 (rd l0 x12_1) 127))) - (IntKind.u64.wrap (40 * (ji15))))) % 4294967296] : List Int)) (inner := [.int .u32 ((ji15) % 4294967296), .int .u32 ((IntKind.u64.wrap ((Go.bits .or .u64 (IntKind.u64.wrap (x5_1 * 128)) (IntKind.u64.wrap (Go.bits .and .u8 (rd l0 x12_1) 127))) - (IntKind.u64.wrap (40 * (ji15))))) % 4294967296)]) (ok := fun _ => True) (okp := fun _ => True) ?hr ?hp (fun _ hk => hk) trivial (Below.refl _ _) (Nat.le_refl _) (by simp) ?_; (case hd => rfl); (case hg => rfl); (case hr => first | (go_simp; done) | (go_simp; rfl)); (case hp => exact (Reps.one (show Kd.M (Kd.int .u32) _ _ _ ((ji15) % 4294967296) [.int .u32 ((ji15) % 4294967296)] from rfl) (Reps.one (show Kd.M (Kd.int .u32) _ _ _ ((IntKind.u64.wrap ((Go.bits .or .u64 (IntKind.u64.wrap (x5_1 * 128)) (IntKind.u64.wrap (Go.bits .and .u8 (rd l0 x12_1) 127))) - (IntKind.u64.wrap (40 * (ji15))))) % 4294967296) [.int .u32 ((IntKind.u64.wrap ((Go.bits .or .u64 (IntKind.u64.wrap (x5_1 * 128)) (IntKind.u64.wrap (Go.bits .and .u8 (rd l0 x12_1) 127))) - (IntKind.u64.wrap (40 * (ji15))))) % 4294967296)] from rfl) (Reps.none _ _)))); intro v104 w18 ho19 hb hg_ hnew_; clear hg_ hnew_; (first | rw [← Ny103.out] at ho19 | (simp only [Int.reduceToNat] at ho19; rw [← Ny103.out] at ho19)); have n0_ := Aside0.mk (Kd.R_elder' (by (with_reducible repeat (first | apply Kd.R_alloc | apply Kd.R_drewN | apply Kd.R_drew)); exact HO_4.out) (Kd.R_base ho19) hb); have n1_ := Aside0.mk (Kd.R_lower (Kd.R_new' ho19 (Kd.R_lt (by (with_reducible repeat (first | apply Kd.R_alloc | apply Kd.R_drewN | apply Kd.R_drew)); exact HO_4.out))) (below_size (by repeat (first | (with_reducible first | exact HB.out | apply below_alloc | apply pw_below_drewN | apply below_drew1) | exact HB.out)))); have n2_ := Aside0.mk (below_step (by repeat (first | (with_reducible first | exact HB.out | apply below_alloc | apply pw_below_drewN | apply below_drew1) | exact HB.out)) hb); clear HO_4; clear HB; have HO_4 := n0_; have HO105 := n1_; have HB := n2_; clear n0_ n1_ n2_; clear hb ho19; obtain ⟨Ao21, co21, eo21⟩ := Kd.R_slice HO105.out; subst eo21) | ((with_reducible refine gate_builtin (b := .append) (xs := #[.tmp 46, .tmp 54]) rfl ?_); at_builtin; refine Kd.R_append_rows (Kd.int .u32) (w0 := w) w.heap.size rfl (.tmp 46) (.tmp 54) 23 27 (.int .u32 0) 4 rfl Tryd.underlying23 info27 rfl (by decide) (by omega) (.slice Ao17 x4_1.length co17) x4_1 y103 _ _ _ (fun k_ => some k_ ≠ (.slice Ao21 y103.length co21 : Value).ownBlock) (fun _ => False) rfl rfl ?aO ?aR (fun _ _ h => h) (fun _ h => h.elim) ?aF ?aB ?aS ?aL ?_; (case aR => repeat (first | exact (Kd.R_reads' HO105.out).2.2 | (with_reducible refine Kd.C_alloc ?_ _) | (with_reducible refine Kd.C_drewN ?_ _) | (with_reducible refine Kd.C_drew ?_))); (case aB => exact (by repeat (first | (with_reducible first | exact HB.out | apply below_alloc | apply pw_below_drewN | apply below_drew1) | exact HB.out))); (case aF => exact (fun k_ hk => Kd.fresh' (Kd.R_lt (by (with_reducible repeat (first | apply Kd.R_alloc | apply Kd.R_drewN | apply Kd.R_drew)); exact HO105.out)) k_ hk)); (case aO => exact (by (with_reducible repeat (first | apply Kd.R_alloc | apply Kd.R_drewN | apply Kd.R_drew)); exact Kd.R_mono HO_4.out (fun _ hk => hk.2))); (case aS => exact (below_size (by repeat (first | (with_reducible first | exact HB.out | apply below_alloc | apply pw_below_drewN | apply below_drew1) | exact HB.out)))); (case aL => have := LMc16.out; omega); intro v107 w20 ho hb hg hat; rw [← Ny106.out] at ho; have n0_ := Aside0.mk (Kd.R_after (ok := (fun _ => True)) (by (with_reducible repeat (first | apply Kd.R_alloc | apply Kd.R_drewN | apply Kd.R_drew)); exact HO105.out) hg hat); have n1_ := Aside0.mk (hb); have n2_ := Aside0.mk (ho); clear HO105; clear HB; clear HO_4; have HO105 := n0_; have HB := n1_; have HO108 := n2_; clear n0_ n1_ n2_; clear ho hb hg hat))
                                go_roundg kj6
                                case measure => have := HK1.out; have := HJ4.out; have := HJ6.out; omega
                                case rel => exact ⟨(y106), (0), (decide ((rd l0 x12_1) ≥ 128)), (wrap64 (x12_1 + 1)), (by first | rfl | (simp; done) | (simp [*]; done)), (by first | rfl | (simp; done) | (simp [*]; done)), (by first | rfl | (simp; done) | (simp [*]; done)), H', ⟨by have := HK1.out; have := HJ4.out; have := HJ6.out; omega⟩, ⟨by (with_reducible repeat (first | apply Kd.R_alloc | apply Kd.R_drewN | apply Kd.R_drew)); exact Kd.R_mono HO108.out (fun _ hk => trivial)⟩, ⟨by repeat (first | (with_reducible first | exact HB.out | apply below_alloc | apply pw_below_drewN | apply below_drew1) | exact HB.out)⟩⟩
                              · rw [if_neg c16] at H
                                exact absurd H (by simp)
                            · rw [if_neg c14] at H
                              have c14b0 : ((x4_1.length : Int) == 0) = false := beq_eq_false_iff_ne.mpr c14
                              have c14b1 : ((x4_1.length : Int) != 0) = true := bne_iff_ne.mpr c14
                              have c14b2 : ¬ (x4_1 = []) := fun h_ => c14 (by rw [h_]; rfl)
                              by_cases c22 : x4_1.length < 35184372088832
                              · rw [if_pos c22] at H
                                have LMc22 := Aside0.mk c22
                                clear c22
                                obtain ⟨y109, hy109⟩ : ∃ y_ : List Int, y_ = (x4_1 ++ [(Go.bits .or .u64 (IntKind.u64.wrap (x5_1 * 128)) (IntKind.u64.wrap (Go.bits .and .u8 (rd l0 x12_1) 127))) % 4294967296]) := ⟨_, rfl⟩
                                replace H : (oid_Read.l0 kj6 y109 0 (decide ((rd l0 x12_1) ≥ 128)) l0 (l0.length : Int) (wrap64 (x12_1 + 1))) = some (r1, r2) := by first | (rw [hy109]; with_reducible exact H) | (have H2_ := (Option.bind_some _ _).symm.trans H; rw [hy109]; with_reducible exact H2_) | (have H2_ := (Option.bind_some _ _).symm.trans H; with_reducible exact H2_) | with_reducible exact H | (rw [hy109]; exact H) | exact H
                                have Ny109 := Aside0.mk hy109
                                clear hy109
                                have H' := Aside0.mk H
                                clear H
                                obtain ⟨Ao23, co23, eo23⟩ := Kd.R_slice HO_4.out
                                subst eo23
                                go_wp2_with (first | ((with_reducible refine gate_builtin (b := .append) (xs := #[.tmp 56, .tmp 59]) rfl ?_); at_builtin; refine Kd.R_append (Kd.int .u32) (w0 := w) w.heap.size rfl (.tmp 56) (.tmp 59) 23 27 (.int .u32 0) 4 rfl Tryd.underlying23 info27 rfl (by decide) (by omega) (.slice Ao23 x4_1.length co23) x4_1 ((Go.bits .or .u64 (IntKind.u64.wrap (x5_1 * 128)) (IntKind.u64.wrap (Go.bits .and .u8 (rd l0 x12_1) 127))) % 4294967296) [.int .u32 ((Go.bits .or .u64 (IntKind.u64.wrap (x5_1 * 128)) (IntKind.u64.wrap (Go.bits .and .u8 (rd l0 x12_1) 127))) % 4294967296)] (fun _ => True) (fun _ => False) rfl rfl ?aP (fun _ hk => hk.elim) ?aF ?aO ?aB ?aS ?aL ?_; (case aP => exact rfl); (case aB => exact (by repeat (first | (with_reducible first | exact HB.out | apply below_alloc | apply pw_below_drewN | apply below_drew1) | exact HB.out))); (case aF => exact (fun _ _ => trivial)); (case aO => exact (by (with_reducible repeat (first | apply Kd.R_alloc | apply Kd.R_drewN | apply Kd.R_drew)); exact HO_4.out)); (case aS => exact (below_size (by repeat (first | (with_reducible first | exact HB.out | apply below_alloc | apply pw_below_drewN | apply below_drew1) | exact HB.out)))); (case aL => have := LMc22.out; omega); intro v110 w24 ho hb hg hat; rw [← Ny109.out] at ho; have n0_ := Aside0.mk (hb); have n1_ := Aside0.mk (ho); clear HB; clear HO_4; have HB := n0_; have HO111 := n1_; clear n0_ n1_; clear ho hb hg hat))
                                go_roundg kj6
                                case measure => have := HK1.out; have := HJ4.out; have := HJ6.out; omega
                                case rel => exact ⟨(y109), (0), (decide ((rd l0 x12_1) ≥ 128)), (wrap64 (x12_1 + 1)), (by first | rfl | (simp; done) | (simp [*]; done)), (by first | rfl | (simp; done) | (simp [*]; done)), (by first | rfl | (simp; done) | (simp [*]; done)), H', ⟨by have := HK1.out; have := HJ4.out; have := HJ6.out; omega⟩, ⟨by (with_reducible repeat (first | apply Kd.R_alloc | apply Kd.R_drewN | apply Kd.R_drew)); exact HO111.out⟩, ⟨by repeat (first | (with_reducible first | exact HB.out | apply below_alloc | apply pw_below_drewN | apply below_drew1) | exact HB.out)⟩⟩
                              · rw [if_neg c22] at H
                                exact absurd H (by simp)
          · rw [if_neg c4] at H
            exact absurd H (by simp)
        · rw [if_neg c3] at H
          exact absurd H (by simp)
      · rw [if_neg c2] at H
        have c2b0 : decide (x12_1 < (l0.length : Int)) = false := decide_eq_false c2
        clear c2
        by_cases c25 : x6_1 = true
        · subst c25
          have H1 : (some (([] : List Int), false)) = some (r1, r2) := by rw [if_pos rfl] at H; exact H
          clear H
          have H := H1
          clear H1
          simp only [Option.some.injEq, Prod.mk.injEq] at H
          obtain ⟨rfl, rfl⟩ := H
          go_wp2
          (try rw [Exit.noGoto_ret])
          go_ret2
          exact ⟨_, by first | rfl | (simp [errW_none, errW_some] <;> rfl) | (simp [*, errW_none, errW_some] <;> rfl), by first | exact Kd.R_nil _ _ _ _ _ | exact Kd.N_nil _ _ _ _ _ | exact Kd.V_nil _ _ _ _ _ | exact Kd.Q_nil _ _ _ _ _ | exact Kd.S_nil _ _ _ _ _, by repeat (first | (with_reducible first | exact HB.out | apply below_alloc | apply pw_below_drewN | apply below_drew1) | exact HB.out)⟩
        · replace c25 := Bool.eq_false_iff.mpr c25
          subst c25
          have H1 : ((oid_Valid.f x4_1).bind fun t101 => (if t101 = true then (some (x4_1, true)) else (some (([] : List Int), false)))) = some (r1, r2) := by rw [if_neg (show ¬ (false = true) by decide)] at H; exact H
          clear H
          have H := H1
          clear H1
          replace H := Option.bind_eq_some_iff.mp H
          obtain ⟨t101, A260, H⟩ := H
          replace H : (if t101 = true then (some (x4_1, true)) else (some (([] : List Int), false))) = some (r1, r2) := H
          have A26 := Aside0.mk A260
          clear A260
          by_cases c27 : t101 = true
          · subst c27
            have H1 : (some (x4_1, true)) = some (r1, r2) := by rw [if_pos rfl] at H; exact H
            clear H
            have H := H1
            clear H1
            simp only [Option.some.injEq, Prod.mk.injEq] at H
            obtain ⟨rfl, rfl⟩ := H
            obtain ⟨Ao28, co28, eo28⟩ := Kd.R_slice HO_4.out
            subst eo28
            go_wp2_with (first | (go_at_call 36; (with_reducible refine (oid_Valid.calls _ _ x4_1 true _ ?side1 ?side2 A26.out).mono ?_); (case side1 => repeat (first | exact (Kd.R_reads' HO_4.out).2.2 | (with_reducible refine Kd.C_alloc ?_ _) | (with_reducible refine Kd.C_drewN ?_ _) | (with_reducible refine Kd.C_drew ?_))); (case side2 => exact (Kd.R_reads' HO_4.out).2.1); rintro e w' ⟨rfl, ⟨nd, rfl⟩⟩))
            (try rw [Exit.noGoto_ret])
            go_ret2
            exact ⟨_, by first | rfl | (simp [errW_none, errW_some] <;> rfl) | (simp [*, errW_none, errW_some] <;> rfl), by (with_reducible repeat (first | apply Kd.R_alloc | apply Kd.R_drewN | apply Kd.R_drew)); exact HO_4.out, by repeat (first | (with_reducible first | exact HB.out | apply below_alloc | apply pw_below_drewN | apply below_drew1) | exact HB.out)⟩
          · replace c27 := Bool.eq_false_iff.mpr c27
            subst c27
            have H1 : (some (([] : List Int), false)) = some (r1, r2) := by rw [if_neg (show ¬ (false = true) by decide)] at H; exact H
            clear H
            have H := H1
            clear H1
            simp only [Option.some.injEq, Prod.mk.injEq] at H
            obtain ⟨rfl, rfl⟩ := H
            obtain ⟨Ao29, co29, eo29⟩ := Kd.R_slice HO_4.out
            subst eo29
            go_wp2_with (first | (go_at_call 36; (with_reducible refine (oid_Valid.calls _ _ x4_1 false _ ?side1 ?side2 A26.out).mono ?_); (case side1 => repeat (first | exact (Kd.R_reads' HO_4.out).2.2 | (with_reducible refine Kd.C_alloc ?_ _) | (with_reducible refine Kd.C_drewN ?_ _) | (with_reducible refine Kd.C_drew ?_))); (case side2 => exact (Kd.R_reads' HO_4.out).2.1); rintro e w' ⟨rfl, ⟨nd, rfl⟩⟩))
            (try rw [Exit.noGoto_ret])
            go_ret2
            exact ⟨_, by first | rfl | (simp [errW_none, errW_some] <;> rfl) | (simp [*, errW_none, errW_some] <;> rfl), by first | exact Kd.R_nil _ _ _ _ _ | exact Kd.N_nil _ _ _ _ _ | exact Kd.V_nil _ _ _ _ _ | exact Kd.Q_nil _ _ _ _ _ | exact Kd.S_nil _ _ _ _ _, by repeat (first | (with_reducible first | exact HB.out | apply below_alloc | apply pw_below_drewN | apply below_drew1) | exact HB.out)⟩

end Go.Proofs.YtjoncjnmhhimhaaDoor.PRead

/- oid.Below: one identifier begins with another one. -/
import Derived.Test.YtjoncjnmhhimhaaDoorOidValid
import Derived.Test.YtjoncjnmhhimhaaDoorEq
namespace Go.Proofs.YtjoncjnmhhimhaaDoor.Hand
set_option linter.unusedVariables false
set_option linter.unusedSimpArgs false
open Go.RowKit Go.Proofs.YtjoncjnmhhimhaaDoorW.PrintWords Go.Proofs.YtjoncjnmhhimhaaDoorW.PrintLast Go.Proofs.YtjoncjnmhhimhaaDoorW.PrintMore
open Go.Proofs.YtjoncjnmhhimhaaDoor.Oid

def oid_Below.f (l0 l1 : List Int) : Option Bool := some (validB l0 && validB l1 && decide (l1.length < l0.length) && decide (l0.take l1.length = l1))

set_option maxHeartbeats 2000000 in
theorem oid_Below.calls (A0 : Option Addr) (c0 : Nat) (l0 : List Int) (A1 : Option Addr) (c1 : Nat) (l1 : List Int) (r : Bool) (w : World) (hr0 : Kd.C (Kd.int .u32) w A0 l0.length l0) (hc0 : l0.length ≤ c0) (hr1 : Kd.C (Kd.int .u32) w A1 l1.length l1) (hc1 : l1.length ≤ c1) (h : oid_Below.f l0 l1 = some r) :
    Calls Tryd.prog 22 #[.slice A0 l0.length c0, .slice A1 l1.length c1] w fun e w' => e = .returned (.bool r) ∧ Drawn0 w w' := by
  obtain rfl := Option.some.inj h
  clear h
  have v0 := fun r (hr : validB l0 = r) W (hW : Kd.C (Kd.int .u32) W A0 l0.length l0) => oid_Valid.calls A0 c0 l0 r W hW hc0 (by unfold oid_Valid.f; rw [hr])
  have v1 := fun r (hr : validB l1 = r) W (hW : Kd.C (Kd.int .u32) W A1 l1.length l1) => oid_Valid.calls A1 c1 l1 r W hW hc1 (by unfold oid_Valid.f; rw [hr])
  have V0 := Lib.hid v0
  have V1 := Lib.hid v1
  have R0 := Lib.hid hr0
  have R1 := Lib.hid hr1
  clear v0 v1
  cases hb0 : validB l0 with
  | false =>
    have B0 := Lib.hid hb0
    clear hr0 hr1 hb0
    go_enter Tryd.func22, Tryd.ntmps22
    go_wp2_with fail
    refine (V0.out false B0.out _ R0.out).mono ?_
    rintro e w' ⟨rfl, ⟨nd, rfl⟩⟩
    go_wp2
    go_ret
    exact ⟨rfl, (Drawn0.refl w).step nd⟩
  | true =>
    have B0 := Lib.hid hb0
    cases hb1 : validB l1 with
    | false =>
      have B1 := Lib.hid hb1
      clear hr0 hr1 hb0 hb1
      go_enter Tryd.func22, Tryd.ntmps22
      go_wp2_with fail
      refine (V0.out true B0.out _ R0.out).mono ?_
      rintro e w' ⟨rfl, ⟨nd, rfl⟩⟩
      go_wp2_with fail
      refine (V1.out false B1.out _ (Kd.C_drewN R1.out nd)).mono ?_
      rintro e w' ⟨rfl, ⟨nd2, rfl⟩⟩
      go_wp2
      go_ret
      exact ⟨rfl, (Drawn0.refl w).step _⟩
    | true =>
      have B1 := Lib.hid hb1
      by_cases hlt : l1.length < l0.length
      · have g1 : decide ((l1.length : Int) < (l0.length : Int)) = true := decide_eq_true (by omega)
        have g2 : decide (l1.length < l0.length) = true := decide_eq_true hlt
        have e1 : (l0.take l1.length).length = l1.length := by rw [List.length_take]; omega
        have hT : Kd.C (Kd.int .u32) w A0 l1.length (l0.take l1.length) := by
          have := Kd.C_take (m := l1.length) hr0 (by omega)
          simpa [e1] using this
        have q := fun W (hW : Kd.C (Kd.int .u32) W A0 (l0.take l1.length).length (l0.take l1.length)) (hW1 : Kd.C (Kd.int .u32) W A1 l1.length l1) => slices_Equal_uint32_uint32.calls A0 c0 (l0.take l1.length) A1 c1 l1 _ W hW (by rw [e1]; omega) hW1 hc1 rfl
        rw [e1] at q
        have Q := Lib.hid q
        have HT := Lib.hid hT
        clear hr0 hr1 hb0 hb1 q hT e1
        rw [show (true && true && decide (l1.length < l0.length) && decide (l0.take l1.length = l1)) = decide (l0.take l1.length = l1) by rw [g2]; simp]
        obtain ⟨z, ez⟩ : ∃ z, z = decide (l0.take l1.length = l1) := ⟨_, rfl⟩
        rw [← ez]
        rw [← ez] at Q
        clear ez
        go_enter Tryd.func22, Tryd.ntmps22
        go_wp2_with fail
        refine (V0.out true B0.out _ R0.out).mono ?_
        rintro e w' ⟨rfl, ⟨nd, rfl⟩⟩
        go_wp2_with fail
        refine (V1.out true B1.out _ (Kd.C_drewN R1.out nd)).mono ?_
        rintro e w' ⟨rfl, ⟨nd2, rfl⟩⟩
        go_wp2_with fail
        refine (Q.out _ (Kd.C_drewN HT.out _) (Kd.C_drewN R1.out _)).mono ?_
        rintro e w' ⟨rfl, ⟨nd3, rfl⟩⟩
        go_wp2
        go_ret
        exact ⟨rfl, (Drawn0.refl w).step _⟩
      · have g1 : decide ((l1.length : Int) < (l0.length : Int)) = false := decide_eq_false (by omega)
        have g2 : decide (l1.length < l0.length) = false := decide_eq_false hlt
        rw [show (true && true && decide (l1.length < l0.length) && decide (l0.take l1.length = l1)) = false by rw [g2]; simp]
        clear hr0 hr1 hb0 hb1 hlt
        go_enter Tryd.func22, Tryd.ntmps22
        go_wp2_with fail
        refine (V0.out true B0.out _ R0.out).mono ?_
        rintro e w' ⟨rfl, ⟨nd, rfl⟩⟩
        go_wp2_with fail
        refine (V1.out true B1.out _ (Kd.C_drewN R1.out nd)).mono ?_
        rintro e w' ⟨rfl, ⟨nd2, rfl⟩⟩
        go_wp2
        go_ret
        exact ⟨rfl, (Drawn0.refl w).step _⟩

end Go.Proofs.YtjoncjnmhhimhaaDoor.Hand

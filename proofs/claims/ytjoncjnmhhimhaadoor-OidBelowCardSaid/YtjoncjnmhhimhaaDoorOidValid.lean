/- The walk of oid.Valid: what the program's test on a list comes to. -/
import Derived.Test.YtjoncjnmhhimhaaDoorOidSpec
import Derived.Test.YtjoncjnmhhimhaaDoorShelf
import Derived.Test.YtjoncjnmhhimhaaDoorWMore
import Derived.Test.YtjoncjnmhhimhaaDoorWLast
import Derived.WalkKit
namespace Go.Proofs.YtjoncjnmhhimhaaDoor.Hand
set_option linter.unusedVariables false
set_option linter.unusedSimpArgs false
open Go.RowKit Go.Proofs.YtjoncjnmhhimhaaDoorW.PrintWords Go.Proofs.YtjoncjnmhhimhaaDoorW.PrintLast Go.Proofs.YtjoncjnmhhimhaaDoorW.PrintMore
open Go.Proofs.YtjoncjnmhhimhaaDoor.Oid Go.Shelf

/-- The test on a number, a function value. -/
theorem valid1 (w : World) : PredAt Tryd.prog 59 #[] (Value.int .u32) (fun n => decide (4294967216 ≤ n)) w := fun W n _ => by
  unfold FnGives
  go_enter Tryd.func59, Tryd.ntmps59
  go_wp2
  go_ret
  exact ⟨rfl, 0, rfl⟩

theorem contains_any (A0 : Option Addr) (c0 : Nat) (l0 : List Int) (w : World) (hr0 : Kd.C (Kd.int .u32) w A0 l0.length l0) :
    Calls Tryd.prog 58 #[.slice A0 l0.length c0, .func (.func 59) #[] #[]] w fun e w' => e = .returned (.bool (l0.any fun n => decide (4294967216 ≤ n))) ∧ Drawn0 w w' := by
  by_cases h0 : l0.length = 0
  · have : l0 = [] := List.eq_nil_of_length_eq_zero h0
    subst this
    exact (Tryd.slices_ContainsFunc_empty (α := Int) A0 c0 _ w).mono fun e w' ⟨he, hw⟩ => ⟨he, by subst hw; exact Drawn0.refl _⟩
  · obtain ⟨b, off, rfl, h2, hc⟩ := C_ints hr0 (by omega)
    refine (Tryd.slices_ContainsFunc (Value.int .u32) (fun n => decide (4294967216 ≤ n)) 59 #[] (enters_of Tryd.func59 (by kernel_rfl) rfl) b off l0.length c0 l0 w (valid1 w) (Nat.le_refl _) h2 hc).mono fun e w' ⟨he, q, hw⟩ => ⟨?_, ?_⟩
    · rw [he, List.take_length]
    · subst hw
      exact (Drawn0.refl w).step q

theorem valid_no {l : List Int} (h : l.length < 2 ∨ 20 < l.length ∨ 2 < l.getD 0 0 ∨ (l.getD 0 0 < 2 ∧ 40 ≤ l.getD 1 0)) : validB l = false := by
  unfold validB
  simp only [Bool.and_eq_false_iff, Bool.or_eq_false_iff, decide_eq_false_iff_not]
  omega
theorem valid_yes {l : List Int} (h1 : 2 ≤ l.length) (h2 : l.length ≤ 20) (h3 : l.getD 0 0 ≤ 2) (h4 : 2 ≤ l.getD 0 0 ∨ l.getD 1 0 < 40) : validB l = !(l.any fun n => decide (4294967216 ≤ n)) := by
  unfold validB
  rw [decide_eq_true h1, decide_eq_true h2, decide_eq_true h3]
  have : (decide (2 ≤ l.getD 0 0) || decide (l.getD 1 0 < 40)) = true := by simpa using h4
  rw [this, List.not_any_eq_all_not]
  simp only [Bool.true_and]
  congr 1
  funext n
  by_cases hn : n < 4294967216
  · rw [decide_eq_true hn, decide_eq_false (by omega)]; rfl
  · rw [decide_eq_false hn, decide_eq_true (by omega)]; rfl

set_option maxHeartbeats 2000000 in
theorem oid_Valid.calls (A0 : Option Addr) (c0 : Nat) (l0 : List Int) (r : Bool) (w : World) (hr0 : Kd.C (Kd.int .u32) w A0 l0.length l0) (hc0 : l0.length ≤ c0) (h : oid_Valid.f l0 = some r) :
    Calls Tryd.prog 36 #[.slice A0 l0.length c0] w fun e w' => e = .returned (.bool r) ∧ Drawn0 w w' := by
  obtain rfl := Option.some.inj h
  clear h
  by_cases h1 : l0.length < 2
  · rw [valid_no (.inl h1)]
    have g1 : decide ((l0.length : Int) < 2) = true := decide_eq_true (by omega)
    have g2 : decide (l0.length < 2) = true := decide_eq_true h1
    clear h1 hr0
    go_enter Tryd.func36, Tryd.ntmps36
    go_wp2
    go_ret
    exact ⟨rfl, Drawn0.refl _⟩
  · have g1 : decide ((l0.length : Int) < 2) = false := decide_eq_false (by omega)
    have g2 : decide (l0.length < 2) = false := decide_eq_false h1
    by_cases h2 : 20 < l0.length
    · rw [valid_no (.inr (.inl h2))]
      have g3 : decide (20 < (l0.length : Int)) = true := decide_eq_true (by omega)
      have g4 : decide (20 < l0.length) = true := decide_eq_true h2
      clear h1 h2 hr0
      go_enter Tryd.func36, Tryd.ntmps36
      go_wp2
      go_ret
      exact ⟨rfl, Drawn0.refl _⟩
    · have g3 : decide (20 < (l0.length : Int)) = false := decide_eq_false (by omega)
      have g4 : decide (20 < l0.length) = false := decide_eq_false h2
      obtain ⟨b, off, rfl, hl, hc⟩ := C_intsD hr0 (by omega)
      have x0 : w.cell? ⟨b, off, none⟩ = some (.int .u32 (l0.getD 0 0)) := hc 0 (by omega)
      have x1 : w.cell? ⟨b, off + 1, none⟩ = some (.int .u32 (l0.getD 1 0)) := hc 1 (by omega)
      have q0 : (0 < l0.length) = True := eq_true (by omega)
      have q1 : (1 < l0.length) = True := eq_true (by omega)
      have q0' : (0 < (l0.length : Int)) = True := eq_true (by omega)
      have q1' : (1 < (l0.length : Int)) = True := eq_true (by omega)
      have Y := Lib.hid (@valid_yes l0)
      have Z := Lib.hid (@valid_no l0)
      have H1 := Lib.hid h1
      have H2 := Lib.hid h2
      have HR := Lib.hid hr0
      clear hc h1 h2 hr0
      generalize l0.getD 0 0 = a at *
      generalize l0.getD 1 0 = b1 at *
      by_cases h3 : 2 < a
      · rw [Z.out (.inr (.inr (.inl h3)))]
        have g5 : decide (2 < a) = true := decide_eq_true h3
        clear h3
        go_enter Tryd.func36, Tryd.ntmps36
        go_wp2
        go_ret
        exact ⟨rfl, Drawn0.refl _⟩
      · have g5 : decide (2 < a) = false := decide_eq_false h3
        by_cases h4 : a < 2
        · have g6 : decide (a < 2) = true := decide_eq_true h4
          by_cases h5 : 40 ≤ b1
          · rw [Z.out (.inr (.inr (.inr ⟨h4, h5⟩)))]
            have g7 : decide (40 ≤ b1) = true := decide_eq_true h5
            clear h3 h4 h5
            go_enter Tryd.func36, Tryd.ntmps36
            go_wp2
            go_ret
            exact ⟨rfl, Drawn0.refl _⟩
          · rw [Y.out (by have := H1.out; omega) (by have := H2.out; omega) (by omega) (.inr (by omega))]
            have g7 : decide (40 ≤ b1) = false := decide_eq_false h5
            clear h3 h4 h5
            go_enter Tryd.func36, Tryd.ntmps36
            go_wp2_with (go_at_call 58; refine (contains_any _ c0 l0 _ HR.out).mono ?_; rintro e w' ⟨rfl, ⟨nd, rfl⟩⟩)
            go_ret
            exact ⟨rfl, (Drawn0.refl w).step nd⟩
        · rw [Y.out (by have := H1.out; omega) (by have := H2.out; omega) (by omega) (.inl (by omega))]
          have g6 : decide (a < 2) = false := decide_eq_false h4
          clear h3 h4
          go_enter Tryd.func36, Tryd.ntmps36
          go_wp2_with (go_at_call 58; refine (contains_any _ c0 l0 _ HR.out).mono ?_; rintro e w' ⟨rfl, ⟨nd, rfl⟩⟩)
          go_ret
          exact ⟨rfl, (Drawn0.refl w).step nd⟩

end Go.Proofs.YtjoncjnmhhimhaaDoor.Hand

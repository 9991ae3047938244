/- pyxref02.Decimal of a number that is not negative gives its decimal digits. -/
import Derived.Test.YtjoncjnmhhimhaaDoorPDecx
import Derived.Test.YtjoncjnmhhimhaaDoorFormat
import Derived.Test.YtjoncjnmhhimhaaDoorOidText
namespace Go.Proofs.YtjoncjnmhhimhaaDoor.Hand
set_option linter.unusedVariables false
set_option linter.unusedSimpArgs false
open Go.RowKit Go.Proofs.YtjoncjnmhhimhaaDoorW.PrintWords Go.Proofs.YtjoncjnmhhimhaaDoorW.PrintLast Go.Proofs.YtjoncjnmhhimhaaDoorW.PrintMore

theorem decB_small {n : Nat} (h : n < 10) : decB n = (⟨#[48, 49, 50, 51, 52, 53, 54, 55, 56, 57]⟩ : ByteArray).extract n (n + 1) := by
  have : ∀ x : Fin 10, (⟨#[UInt8.ofNat (48 + x.val)]⟩ : ByteArray) = (⟨#[48, 49, 50, 51, 52, 53, 54, 55, 56, 57]⟩ : ByteArray).extract x.val (x.val + 1) := by decide +kernel
  unfold decB
  rw [Lib.decDigits_one h]
  exact this ⟨n, h⟩
theorem decB_big {n : Nat} (h : ¬ n < 10) : decB n = decB (n / 10) ++ decB (n % 10) := by
  unfold decB
  rw [Lib.decDigits, dif_neg h, Lib.decDigits_one (show n % 10 < 10 by omega)]
  apply ByteArray.ext
  simp
theorem decB_size (n : Nat) (h : n < 1000000000000000000) : (decB n).size ≤ 20 := by
  show (Lib.decDigits n).toArray.size ≤ 20
  rw [List.size_toArray]
  exact dec_len n (by omega)
theorem decimal_comes : ∀ (k n : Nat), n < 10 ^ k → n < 1000000000000000000 → 0 < k → PDec.pyxref02_Decimal.f k (n : Int) = some (decB n) := by
  intro k
  induction k with
  | zero => intro n _ _ h; exact absurd h (by omega)
  | succ k ih =>
    intro n h1 h2 _
    rw [PDec.pyxref02_Decimal.f, if_neg (by omega), if_neg (by omega)]
    have hex : ∀ m : Nat, m < 10 → (⟨#[48, 49, 50, 51, 52, 53, 54, 55, 56, 57]⟩ : ByteArray).extract ((m : Int)).toNat (((m : Int) + 1)).toNat = decB m := by
      intro m hm
      rw [decB_small hm, show ((m : Int) + 1).toNat = m + 1 by omega, Int.toNat_natCast]
    by_cases h10 : n < 10
    · rw [if_pos (by omega), if_pos (by omega), i64_in _ (by omega) (by omega), if_pos (by omega), if_pos (by omega), hex n h10]
    · have hk : 0 < k := by
        rcases Nat.eq_zero_or_pos k with rfl | hk
        · simp at h1; omega
        · exact hk
      rw [if_neg (by omega), Int.tdiv_eq_ediv_of_nonneg (by omega), Int.tmod_eq_emod_of_nonneg (by omega), i64_in _ (by omega) (by omega), i64_in _ (by omega) (by omega),
        show ((n : Int) / 10) = ((n / 10 : Nat) : Int) by omega, ih (n / 10) (by rw [Nat.pow_succ] at h1; omega) (by omega) hk]
      simp only [Option.bind_some]
      have hs := decB_size (n / 10) (by omega)
      have hs2 := decB_size (n % 10) (by omega)
      rw [show ((n : Int) % 10) = ((n % 10 : Nat) : Int) by omega, if_pos (by omega), if_pos (by omega), if_pos (by omega), hex (n % 10) (by omega), if_pos (by omega), ← decB_big h10]

def pyxref02_Decimal.f (a0 : Int) : Option ByteArray := if 0 ≤ a0 ∧ a0 < 1000000000000000000 then some (decB a0.toNat) else none
theorem pyxref02_Decimal.calls (a0 : Int) (r : ByteArray) (w : World) (h : pyxref02_Decimal.f a0 = some r) :
    Calls Tryd.prog 44 #[.int .i64 a0] w fun e w' => e = .returned (.string r) ∧ Below w.heap.size w w' := by
  unfold pyxref02_Decimal.f at h
  by_cases hp : 0 ≤ a0 ∧ a0 < 1000000000000000000
  · rw [if_pos hp] at h
    obtain ⟨n, rfl⟩ := Int.eq_ofNat_of_zero_le hp.1
    refine PDec.pyxref02_Decimal.calls 18 n r w ?_
    rw [decimal_comes 18 n (by omega) (by omega) (by omega)]
    exact h
  · rw [if_neg hp] at h
    cases h

end Go.Proofs.YtjoncjnmhhimhaaDoor.Hand

/- oid.Read: the printed loop over the bytes comes to the plain function. -/
import Derived.Test.YtjoncjnmhhimhaaDoorPReadx
import Derived.Test.YtjoncjnmhhimhaaDoorOidText
namespace Go.Proofs.YtjoncjnmhhimhaaDoor.Hand
set_option linter.unusedVariables false
set_option linter.unusedSimpArgs false
open Go.RowKit Go.Proofs.YtjoncjnmhhimhaaDoorW.PrintWords Go.Proofs.YtjoncjnmhhimhaaDoorW.PrintLast Go.Proofs.YtjoncjnmhhimhaaDoorW.PrintMore
open Go.Proofs.YtjoncjnmhhimhaaDoor.Oid

theorem wraps_u64 (n : Int) (h₀ : 0 ≤ n) (h₁ : n < 2 ^ 40) : IntKind.u64.wrap n = n := by rw [IntKind.wrap_u64]; omega
theorem u8_and127 (x : Int) (h₀ : 0 ≤ x) (h₁ : x < 256) : Go.bits .and .u8 x 127 = x % 128 := bits_mask .u8 8 (by decide) wraps_u8 7 (by decide) x h₀ h₁
theorem u64_or7 (x y : Int) (hx₀ : 0 ≤ x) (hx : x % 128 = 0) (hx₁ : x < 1099511627776) (h₀ : 0 ≤ y) (h₁ : y < 128) : Go.bits .or .u64 x y = x + y :=
  bits_join .u64 40 (by decide) wraps_u64 7 x y hx₀ hx hx₁ h₀ h₁ (by omega)
theorem group7 (n c : Int) (h0 : 0 ≤ n) (h1 : n < 4294967296) (h2 : 0 ≤ c) (h3 : c < 256) :
    Go.bits .or .u64 (IntKind.u64.wrap (n * 128)) (IntKind.u64.wrap (Go.bits .and .u8 c 127)) = n * 128 + c % 128 := by
  rw [u8_and127 c h2 h3, u64_in _ (by omega) (by omega), u64_in _ (by omega) (by omega), u64_or7 _ _ (by omega) (by omega) (by omega) (by omega) (by omega)]

def readEnd (r : Option (List Int × Bool)) : List Int × Bool :=
  match r with
  | some (out, false) => if validB out then (out, true) else ([], false)
  | _ => ([], false)

theorem read_loop (bs : List Int) (hn : bs.length ≤ 140737488355328) (hb : ∀ c ∈ bs, 0 ≤ c ∧ c < 256) : ∀ (d k i : Nat) (acc : List Int) (n : Int) (op : Bool), i + d = bs.length → acc.length ≤ i + 1 → 0 ≤ n → n < 1000000000000 → 3 * d + 1 ≤ k →
    PRead.oid_Read.l0 k acc n op bs (bs.length : Int) (i : Int) = some (readEnd (readLoop (bs.drop i) acc n op)) := by
  intro d
  induction d with
  | zero =>
    intro k i acc n op h1 h2 _ _ h3
    obtain ⟨k, rfl⟩ : ∃ m, k = m + 1 := ⟨k - 1, by omega⟩
    have : bs.drop i = [] := List.drop_eq_nil_of_le (by omega)
    simp only [PRead.oid_Read.l0]
    rw [if_neg (by omega), this]
    cases op with
    | true => simp [readLoop, readEnd]
    | false =>
      simp only [readLoop, readEnd, oid_Valid.f, Option.bind_some]
      rw [if_neg (by decide)]
      by_cases h5 : validB acc = true
      · rw [if_pos h5, if_pos h5]
      · rw [if_neg h5, if_neg h5]
  | succ d ih =>
    intro k i acc n op h1 h2 hn0 hn1 h3
    obtain ⟨k, rfl⟩ : ∃ m, k = m + 3 := ⟨k - 3, by omega⟩
    have hlt : i < bs.length := by omega
    obtain ⟨c, ec⟩ : ∃ c, c = bs[i] := ⟨_, rfl⟩
    have hrd : rd bs (i : Int) = c := by rw [ec]; simp [rd, List.getD, hlt]
    obtain ⟨c0, c1⟩ := hb bs[i] (List.getElem_mem hlt)
    rw [← ec] at c0 c1
    have hnext : ∀ acc' n' op', acc'.length ≤ i + 2 → 0 ≤ n' → n' < 1000000000000 → PRead.oid_Read.l0 k acc' n' op' bs (bs.length : Int) (wrap64 ((i : Int) + 1)) = some (readEnd (readLoop (bs.drop (i + 1)) acc' n' op')) := by
      intro acc' n' op' g1 g2 g3
      have := ih k (i + 1) acc' n' op' (by omega) (by omega) g2 g3 (by omega)
      rw [show ((i + 1 : Nat) : Int) = (i : Int) + 1 from by omega] at this
      rw [i64_in _ (by omega) (by omega)]
      exact this
    rw [List.drop_eq_getElem_cons hlt, ← ec]
    -- the two tests ahead, as one
    have hj : ∀ b : Bool, PRead.oid_Read.j1 (k + 2) acc n c bs (bs.length : Int) (i : Int) b = (if b = true ∨ 20 < acc.length then some ([], false) else
        if 4294967296 ≤ n then some ([], false) else PRead.oid_Read.j2 (k + 1) acc n c bs (bs.length : Int) (i : Int) false) := by
      intro b
      simp only [PRead.oid_Read.j1]
      cases b with
      | true =>
        rw [if_pos rfl, if_pos (.inl rfl)]
        rw [PRead.oid_Read.j2]
        rw [if_pos rfl]
      | false =>
        rw [if_neg (by decide)]
        by_cases h20 : 20 < acc.length
        · rw [if_pos (.inr h20), decide_eq_true (by omega)]
          rw [PRead.oid_Read.j2]
          rw [if_pos rfl]
        · rw [if_neg (by simp; omega), decide_eq_false (by omega)]
          by_cases h32 : 4294967296 ≤ n
          · rw [if_pos h32]
            rw [PRead.oid_Read.j2]
            rw [if_neg (by decide), if_pos (by omega)]
          · rw [if_neg h32]
    have hhead : PRead.oid_Read.l0 (k + 3) acc n op bs (bs.length : Int) (i : Int) = PRead.oid_Read.j1 (k + 2) acc n c bs (bs.length : Int) (i : Int) (decide (op = false ∧ c = 128)) := by
      simp only [PRead.oid_Read.l0]
      rw [if_pos (by omega), if_pos (by omega), if_pos (by omega), hrd]
      cases op with
      | true => rw [if_pos rfl]; simp
      | false =>
        rw [if_neg (by decide)]
        congr 1
        by_cases h8 : c = 128
        · simp [h8]
        · simp [h8]
    rw [hhead, hj]
    simp only [readLoop]
    by_cases hA : (op = false ∧ c = 128) ∨ 20 < acc.length
    · rw [if_pos hA, if_pos (by simpa using hA)]
      rfl
    · rw [if_neg hA, if_neg (by simpa using hA)]
      by_cases h32 : 4294967296 ≤ n
      · rw [if_pos h32, if_pos h32]; rfl
      · rw [if_neg h32, if_neg h32]
        rw [PRead.oid_Read.j2]
        rw [if_neg (by decide), if_neg (by omega)]
        have hg := group7 n c hn0 (by omega) c0 c1
        simp only [ge_iff_le, hg]
        by_cases h8 : 128 ≤ c
        · rw [if_pos h8, if_pos h8, decide_eq_true h8]
          exact hnext _ _ _ (by omega) (by omega) (by omega)
        · rw [if_neg h8, if_neg h8, decide_eq_false h8]
          by_cases hB : 4294967296 ≤ n * 128 + c % 128
          · rw [if_pos hB, if_pos hB]; rfl
          · rw [if_neg hB, if_neg hB]
            by_cases hE : acc = []
            · rw [if_pos hE]
              subst hE
              rw [if_pos (by simp)]
              have hq : IntKind.u64.wrap (Int.tdiv (n * 128 + c % 128) 40) = (n * 128 + c % 128) / 40 := by
                rw [Int.tdiv_eq_ediv_of_nonneg (by omega), u64_in _ (by omega) (by omega)]
              have hmn : mn ((n * 128 + c % 128) / 40) 2 = min ((n * 128 + c % 128) / 40) 2 := by unfold mn; omega
              rw [hq, hmn]
              generalize hm : min ((n * 128 + c % 128) / 40) 2 = m
              have hm0 : 0 ≤ m := by omega
              have hm2 : m ≤ 2 := by omega
              have hm40 : 40 * m ≤ n * 128 + c % 128 := by omega
              rw [u64_in (40 * m) (by omega) (by omega), u64_in _ (by omega) (by omega)]
              simp only [Option.bind_some]
              rw [if_pos (by simp), show m % 4294967296 = m by omega, show (n * 128 + c % 128 - 40 * m) % 4294967296 = n * 128 + c % 128 - 40 * m by omega]
              exact hnext _ _ _ (by simp) (by omega) (by omega)
            · rw [if_neg hE, if_neg (by
                intro h
                exact hE (List.eq_nil_of_length_eq_zero (by omega)))]
              rw [if_pos (by omega), show (n * 128 + c % 128) % 4294967296 = n * 128 + c % 128 by omega]
              exact hnext _ _ _ (by simp; omega) (by omega) (by omega)

theorem oid_Read.calls (A0 : Option Addr) (c0 : Nat) (l0 : List Int) (r1 : List Int) (r2 : Bool) (w : World) (hr0 : Kd.C (Kd.int .u8) w A0 l0.length l0) (hc0 : l0.length ≤ c0) (h : oid_Read.f l0 = some (r1, r2)) :
    Calls Tryd.prog 17 #[.slice A0 l0.length c0] w fun e w' => ∃ v0_ : Value, e = .returned (.tuple #[v0_, .bool r2]) ∧ Kd.R (Kd.int .u32) 27 w' w.heap.size (fun _ => True) v0_ r1 ∧ Below w.heap.size w w' := by
  unfold oid_Read.f at h
  by_cases hp : l0.length ≤ 140737488355328 ∧ (l0.all fun x => decide (0 ≤ x) && decide (x < 256)) = true
  · rw [if_pos hp] at h
    refine PRead.oid_Read.calls (3 * l0.length + 1) A0 c0 l0 r1 r2 w hr0 hc0 ?_
    unfold PRead.oid_Read.f
    have := read_loop l0 hp.1 (fun x hx => by simpa using List.all_eq_true.1 hp.2 x hx) l0.length (3 * l0.length + 1) 0 [] 0 false (by omega) (by simp) (by omega) (by omega) (by omega)
    rw [show ((0 : Nat) : Int) = 0 from rfl, List.drop_zero] at this
    rw [this, ← h]
    rfl
  · rw [if_neg hp] at h
    cases h

end Go.Proofs.YtjoncjnmhhimhaaDoor.Hand

/- The library's FormatUint at base 10, strings.Join and strings.Split, strconv.ParseUint at 32 bits, in the form of this place's contracts. After the shelf's worked proofs of FormatInt and AppendUint. -/
import Derived.Test.YtjoncjnmhhimhaaDoorLaid
import Derived.Test.YtjoncjnmhhimhaaDoorShelf
import Derived.Test.YtjoncjnmhhimhaaDoorWMore
import Derived.Test.YtjoncjnmhhimhaaDoorWLast
import Derived.WalkKit
import Derived.BigCall
import Derived.BigGuard
import Derived.Lib.AppendIntMem
import Derived.Lib.AtoiErrMem
namespace Go.Proofs.YtjoncjnmhhimhaaDoor.Hand
set_option linter.unusedVariables false
set_option linter.unusedSimpArgs false
open Go.RowKit Go.Proofs.YtjoncjnmhhimhaaDoorW.PrintWords Go.Proofs.YtjoncjnmhhimhaaDoorW.PrintLast Go.Proofs.YtjoncjnmhhimhaaDoorW.PrintMore
open Go.Shelf Go.Sort Go.Lib

def decB (u : Nat) : ByteArray := ⟨(Lib.decDigits u).toArray⟩
def strconv_FormatUint.f (a0 a1 : Int) : Option ByteArray := if 0 ≤ a0 ∧ a0 < 18446744073709551616 ∧ a1 = 10 then some (decB a0.toNat) else none
def strings_Join.f (l0 : List ByteArray) (a1 : ByteArray) : Option ByteArray :=
  if l0.length ≤ 140737488355328 ∧ (Lib.join (l0.map (·.data.toList)) a1.data.toList).length ≤ 140737488355328 then some ⟨(Lib.join (l0.map (·.data.toList)) a1.data.toList).toArray⟩ else none

set_option maxHeartbeats 2000000 in
set_option maxRecDepth 100000 in
theorem fmtU (u : Nat) (hu64 : u < 18446744073709551616) (w : World) (HLd : LaidOk w) :
    Calls Tryd.prog 63 #[.int .u64 u, .int .i64 10] w fun e w' => e = .returned (.string (decB u)) ∧ Below w.heap.size w w' := by
  unfold decB
  by_cases hs : u < 100
  · have g1 : decide ((u : Int) < 100) = true := decide_eq_true (by omega)
    have g2 : decide (u < 100) = true := decide_eq_true hs
    go_enter Tryd.func63, Tryd.ntmps63
    go_wp2_with (go_at_call 79; refine (Tryd.internal_strconv_small u hs _).mono ?_; rintro e w' ⟨rfl, rfl⟩)
    go_ret
    exact ⟨rfl, Below.refl _ _⟩
  · have htab := HLd.pow
    have hu1 : 1 ≤ u := by omega
    have hnd20 : Lib.nDigits u ≤ 20 := by have := Lib.numDigits_eq u hu1 hu64; split at this <;> omega
    have hal : Tryd.prog.arrayLen 101 = 24 := by kernel_rfl
    have hsl : ∀ W, (Instr.sliceAt 101 (.pointer (some ⟨w.heap.size, 0, none⟩)) none (some (.int .i64 (Lib.nDigits u : Int))) none).run Tryd.prog W = .ok (.slice (some ⟨w.heap.size, 0, none⟩) (Lib.nDigits u) 24) W := fun W => by
      rw [run_sliceAt_array_h W 101 ⟨w.heap.size, 0, none⟩ (by kernel_rfl) .i64 (Lib.nDigits u : Int) (by omega) (by rw [hal]; omega)]
      rw [hal]
      rfl
    have hH0 := Lib.holds_zero0 w 101 (Lib.nDigits u) (by omega)
    have hfmt := Tryd.internal_strconv_formatBase10 w.heap.size 0 24 u (Array.replicate (Lib.nDigits u) 0) (w.alloc (.cells Lib.zeros24 101)) hH0 (by rw [Array.size_replicate]; exact Lib.lt_pow_nDigits u) hu64 (by rw [Array.size_replicate]; omega)
    rw [Array.size_replicate] at hfmt
    have HH0 := Lib.hid hH0
    have iu : (100 : Int) ≤ (u : Int) := by omega
    have g1 : decide ((u : Int) < 100) = false := decide_eq_false (by omega)
    have g2 : decide (u < 100) = false := decide_eq_false hs
    clear hH0 hal
    go_enter Tryd.func63, Tryd.ntmps63
    go_wp2_with (first
      | (go_at_call 80; refine (Tryd.internal_strconv_numDigits u hu1 hu64 _ (Lib.tabIs_alloc htab _)).mono ?_; rintro e w' ⟨rfl, rfl⟩))
    go_at_call 81
    refine hfmt.mono ?_
    rintro e w' ⟨rfl, k, v', dk, rfl, hF⟩
    have hcv : (convert 30 9 (.slice (some ⟨w.heap.size, 0, none⟩) (Lib.nDigits u) 24)).run Tryd.prog ((putRow (fun (b : UInt8) => Value.int .u8 (b.toNat : Int)) (w.alloc (.cells Lib.zeros24 101)) w.heap.size 0 dk).drewN k) = .ok (.string ⟨(Lib.decDigits u).toArray⟩) ((putRow (fun (b : UInt8) => Value.int .u8 (b.toNat : Int)) (w.alloc (.cells Lib.zeros24 101)) w.heap.size 0 dk).drewN k) := by
      have h := run_convert_bytes_back (P := Tryd.prog) ((putRow (fun (b : UInt8) => Value.int .u8 (b.toNat : Int)) (w.alloc (.cells Lib.zeros24 101)) w.heap.size 0 dk).drewN k) 30 9 5 ⟨w.heap.size, 0, none⟩ 24 (Lib.decDigits u) Tryd.underlying30 Tryd.underlying5 Tryd.underlying9 (fun j hj => by
        rw [Lib.row_is_numeral hF j hj, Lib.add_plain, World.cell?_drewN]
        exact cell?_putRow (fun (b : UInt8) => Value.int .u8 (b.toNat : Int)) _ w.heap.size 0 _ dk HH0.out (by rw [hF.size, Array.size_replicate]) j (by rw [hF.size]; rw [Lib.decDigits_length] at hj; exact hj))
      rw [Lib.decDigits_length] at h
      exact h
    go_wp2
    go_ret
    obtain ⟨os, eo⟩ := Lib.fin_at w (.cells Lib.zeros24 101) dk k 0
    refine ⟨rfl, ?_⟩
    rw [eo]
    exact Lib.below_grow _ w (Nat.le_refl _) k os

theorem strconv_FormatUint.calls (a0 a1 : Int) (r : ByteArray) (w : World) (HLd : LaidOk w) (h : strconv_FormatUint.f a0 a1 = some r) :
    Calls Tryd.prog 40 #[.int .u64 a0, .int .i64 a1] w fun e w' => e = .returned (.string r) ∧ Below w.heap.size w w' := by
  unfold strconv_FormatUint.f at h
  by_cases hc : 0 ≤ a0 ∧ a0 < 18446744073709551616 ∧ a1 = 10
  · rw [if_pos hc] at h
    obtain ⟨h0, h1, rfl⟩ := hc
    obtain rfl := Option.some.inj h
    clear h
    obtain ⟨u, rfl⟩ := Int.eq_ofNat_of_zero_le h0
    rw [Int.toNat_natCast]
    have hf := fmtU u (by omega)
    go_enter Tryd.func40, Tryd.ntmps40
    go_wp2_with (go_at_call 63; refine (hf _ HLd).mono ?_; rintro e w' ⟨rfl, hb⟩)
    go_ret
    exact ⟨rfl, hb⟩
  · rw [if_neg hc] at h
    cases h

theorem C_strs {w : World} {A : Option Addr} {l : List ByteArray} (h : Kd.C Kd.string w A l.length l) (h0 : 0 < l.length) :
    ∃ b off, A = some ⟨b, off, none⟩ ∧ l.length ≤ 9223372036854775807 ∧ ∀ j x, l[j]? = some x → w.cell? ⟨b, off + j, none⟩ = some (.string x) := by
  obtain ⟨_, h2, h3⟩ := Kd.reads_of_C (d := ByteArray.empty) h
  obtain ⟨ad, e, hc⟩ := h3 h0
  subst e
  obtain ⟨b, off, spot⟩ := ad
  have hspot : spot = none := by simpa [Addr.add] using World.cell?_spot (hc 0 h0)
  subst hspot
  refine ⟨b, off, rfl, h2, fun j x hx => ?_⟩
  have hj := (List.getElem?_eq_some_iff.1 hx).1
  have := hc j hj
  rw [add_plain'] at this
  rw [this]
  simp [List.getD, hx]

theorem strings_Join.calls (A0 : Option Addr) (c0 : Nat) (l0 : List ByteArray) (a1 : ByteArray) (r : ByteArray) (w : World) (hr0 : Kd.C Kd.string w A0 l0.length l0) (hc0 : l0.length ≤ c0) (h : strings_Join.f l0 a1 = some r) :
    Calls Tryd.prog 41 #[.slice A0 l0.length c0, .string a1] w fun e w' => e = .returned (.string r) ∧ Below w.heap.size w w' := by
  unfold strings_Join.f at h
  by_cases hc : l0.length ≤ 140737488355328 ∧ (Lib.join (l0.map (·.data.toList)) a1.data.toList).length ≤ 140737488355328
  · rw [if_pos hc] at h
    obtain rfl := Option.some.inj h
    by_cases h0 : l0.length = 0
    · have : l0 = [] := List.eq_nil_of_length_eq_zero h0
      subst this
      exact (Tryd.strings_Join_none A0 c0 a1 w).mono fun e w' ⟨he, hw⟩ => ⟨he, by subst hw; exact Below.refl _ _⟩
    · obtain ⟨b, off, rfl, h2, hcc⟩ := C_strs hr0 (by omega)
      exact Tryd.strings_Join b off c0 l0 a1 w hcc (World.block_lt_of_cell? w ⟨b, off + 0, none⟩ (hcc 0 l0[0] (by simp))) hc.1 hc0 hc.2
  · rw [if_neg hc] at h
    cases h

/-- An error value: none, or some value of some type. -/
def ErrIs : Option Int → Value → Prop
  | none, ev => ev = .nilIface
  | some _, ev => ∃ tp p, ev = .iface tp p
def strconv_ParseUint.f (a0 : ByteArray) (a1 a2 : Int) : Option (Int × Option Int) :=
  if a0.size ≤ 281474976710656 ∧ a1 = 10 ∧ a2 = 32 then
    match Lib.parseUintB 32 a0.data.toList with
    | .ok u => some ((u : Int), none)
    | .range => some (4294967295, some 1)
    | _ => some (0, some 0)
  else none
theorem strconv_ParseUint.calls (a0 : ByteArray) (a1 a2 : Int) (r1 : Int) (r2 : Option Int) (w : World) (HLd : LaidOk w) (h : strconv_ParseUint.f a0 a1 a2 = some (r1, r2)) :
    Calls Tryd.prog 38 #[.string a0, .int .i64 a1, .int .i64 a2] w fun e w' => ∃ ev, e = .returned (.tuple #[.int .u64 r1, ev]) ∧ ErrIs r2 ev ∧ Below w.heap.size w w' := by
  unfold strconv_ParseUint.f at h
  by_cases hc : a0.size ≤ 281474976710656 ∧ a1 = 10 ∧ a2 = 32
  · rw [if_pos hc] at h
    obtain ⟨hs, rfl, rfl⟩ := hc
    rcases hp : Lib.parseUintB 32 a0.data.toList with u | _ | _
    · rw [hp] at h
      simp only [Option.some.injEq, Prod.mk.injEq] at h
      obtain ⟨rfl, rfl⟩ := h
      refine (Any.strconv_ParseUint_10_at32_ok Tryd.laysPu14 a0 (by omega) u hp w).mono ?_
      rintro e w' ⟨rfl, hw⟩
      refine ⟨_, rfl, rfl, ?_⟩
      rcases hw with rfl | rfl
      · exact Below.refl _ _
      · exact Lib.bytesWorld_below _ _ _
    · rw [hp] at h
      simp only [Option.some.injEq, Prod.mk.injEq] at h
      obtain ⟨rfl, rfl⟩ := h
      obtain ⟨tp, p, hv⟩ := HLd.syn
      refine (Any.strconv_ParseUint_10_at32_syntax_var Tryd.laysPu14 a0 hs hp tp p w hv).mono ?_
      rintro e w' ⟨N, rfl, _, _, hb⟩
      exact ⟨_, rfl, ⟨_, _, rfl⟩, hb⟩
    · rw [hp] at h
      simp only [Option.some.injEq, Prod.mk.injEq] at h
      obtain ⟨rfl, rfl⟩ := h
      obtain ⟨tp, p, hv⟩ := HLd.rng
      refine (Any.strconv_ParseUint_10_at32_range_var Tryd.laysPu14 a0 hs hp tp p w hv).mono ?_
      rintro e w' ⟨N, rfl, _, _, hb⟩
      exact ⟨_, rfl, ⟨_, _, rfl⟩, hb⟩
  · rw [if_neg hc] at h
    cases h

/-- What Split leaves is a row of the call's own. -/
def strings_Split.f (a0 a1 : ByteArray) : Option (List ByteArray) := if a0.size < 4294967281 ∧ 1 ≤ a1.size then some (Lib.splitB a1 0 (Lib.countB a0 a1) a0) else none
theorem strings_Split.calls (a0 a1 : ByteArray) (r : List ByteArray) (w : World) (HLd : LaidOk w) (h : strings_Split.f a0 a1 = some r) :
    Calls Tryd.prog 37 #[.string a0, .string a1] w fun e w' => ∃ v0_ : Value, e = .returned v0_ ∧ Kd.R Kd.string 9 w' w.heap.size (fun _ => True) v0_ r ∧ Below w.heap.size w w' := by
  unfold strings_Split.f at h
  by_cases hc : a0.size < 4294967281 ∧ 1 ≤ a1.size
  · rw [if_pos hc] at h
    obtain rfl := Option.some.inj h
    obtain ⟨m, hm⟩ := HLd.max
    refine (Tryd.strings_Split a0 a1 m w hc.1 hm hc.2).mono ?_
    rintro e w' ⟨rfl, rfl⟩
    refine ⟨_, rfl, ?_, below_alloc (Below.refl _ _) _⟩
    have hlen := Lib.splitB_all a1 hc.2 0 _ a0 rfl
    have hle := Lib.countB_le a1 hc.2 a0.size a0 (Nat.le_refl _)
    rw [← hlen]
    exact Kd.R_of_own (enc := Value.string) (h1 := fun _ => rfl) (own_lit_of (enc := Value.string) w w.heap.size 9 (Lib.splitB a1 0 (Lib.countB a0 a1) a0) (Nat.le_refl _) (by omega)) (fun _ _ => trivial)
  · rw [if_neg hc] at h
    cases h

end Go.Proofs.YtjoncjnmhhimhaaDoor.Hand

/- oid.Parse: the printed loop over the words comes to the plain function. -/
import Derived.Test.YtjoncjnmhhimhaaDoorPParsex
import Derived.Test.YtjoncjnmhhimhaaDoorOidText
namespace Go.Proofs.YtjoncjnmhhimhaaDoor.Hand
set_option linter.unusedVariables false
set_option linter.unusedSimpArgs false
open Go.RowKit Go.Proofs.YtjoncjnmhhimhaaDoorW.PrintWords Go.Proofs.YtjoncjnmhhimhaaDoorW.PrintLast Go.Proofs.YtjoncjnmhhimhaaDoorW.PrintMore
open Go.Proofs.YtjoncjnmhhimhaaDoor.Oid

theorem words_size (sep : ByteArray) : ∀ (k : Nat) (s : ByteArray), ∀ w ∈ Lib.splitB sep 0 k s, w.size ≤ s.size
  | 0, s, w, h => by
    rw [Lib.splitB_zero] at h
    simp only [List.mem_singleton] at h
    subst h; exact Nat.le_refl _
  | k + 1, s, w, h => by
    rcases Lib.indexB_cases s sep with hix | ⟨i, hix, hroom⟩
    · rw [Lib.splitB_miss sep 0 _ s hix] at h
      simp only [List.mem_singleton] at h
      subst h; exact Nat.le_refl _
    · rw [Lib.splitB_hit sep 0 k s i hix] at h
      rcases List.mem_cons.1 h with rfl | h
      · rw [ByteArray.size_extract]; omega
      · have := words_size sep k _ w h
        rw [ByteArray.size_extract] at this
        omega

theorem parseUintB_le {l : List UInt8} {u : Nat} (h : Lib.parseUintB 32 l = .ok u) : u ≤ 4294967295 := by
  unfold Lib.parseUintB at h
  split at h
  · cases h
  · exact (parseUintM_ok _ _ _ _ h).2.2 (by omega)

theorem bytes_eq (a b : ByteArray) : (a.toList = b.toList) ↔ a = b := by
  rw [Lib.toList_data, Lib.toList_data]
  constructor
  · intro h
    obtain ⟨⟨x⟩⟩ := a
    obtain ⟨⟨y⟩⟩ := b
    simpa using h
  · intro h; rw [h]

theorem parse_loop (s : ByteArray) (ws : List ByteArray) (hn : ws.length ≤ 4294967296) (hw : ∀ w ∈ ws, w.size ≤ 4294967296) : ∀ (d k i : Nat) (acc : List Int), i + d = ws.length → acc.length = i → (∀ x ∈ acc, 0 ≤ x) → d < k →
    PParse.oid_Parse.l0 k s acc ws (ws.length : Int) (i : Int) = some (match parseLoop (ws.drop i) acc with
      | some out => if textB out = s ∧ validB out = true then (out, true) else ([], false)
      | none => ([], false)) := by
  intro d
  induction d with
  | zero =>
    intro k i acc h1 h2 hp h3
    obtain ⟨k, rfl⟩ : ∃ m, k = m + 1 := ⟨k - 1, by omega⟩
    have : ws.drop i = [] := List.drop_eq_nil_of_le (by omega)
    simp only [PParse.oid_Parse.l0]
    rw [if_neg (by omega), this]
    have ht : oid_Text.f acc = some (textB acc) := by
      unfold oid_Text.f
      rw [if_pos (List.all_eq_true.2 (fun x hx => by simpa using hp x hx))]
    rw [ht]
    simp only [Option.bind_some, parseLoop, oid_Valid.f]
    by_cases h4 : textB acc = s
    · rw [if_pos ((bytes_eq _ _).2 h4)]
      by_cases h5 : validB acc = true
      · rw [if_pos h5, if_pos ⟨h4, h5⟩]
      · rw [if_neg h5, if_neg (fun h => h5 h.2)]
    · rw [if_neg (fun h => h4 ((bytes_eq _ _).1 h)), if_neg (fun h => h4 h.1)]
  | succ d ih =>
    intro k i acc h1 h2 hp h3
    obtain ⟨k, rfl⟩ : ∃ m, k = m + 1 := ⟨k - 1, by omega⟩
    have hlt : i < ws.length := by omega
    have hrd : rdOf ByteArray.empty ws (i : Int) = ws[i] := by simp [rdOf, List.getD, hlt]
    have hsz := hw ws[i] (List.getElem_mem hlt)
    simp only [PParse.oid_Parse.l0]
    rw [if_pos (by omega), if_pos (by omega), if_pos (by omega), hrd, List.drop_eq_getElem_cons hlt]
    simp only [parseLoop]
    have hf : ∀ x, x = Lib.parseUintB 32 ws[i].data.toList → strconv_ParseUint.f ws[i] 10 32 = (match x with
      | .ok u => some ((u : Int), none)
      | .range => some (4294967295, some 1)
      | _ => some (0, some 0)) := by intro x hx; unfold strconv_ParseUint.f; rw [if_pos ⟨by omega, rfl, rfl⟩, ← hx]; cases x <;> rfl
    rw [hf _ rfl]
    cases hp2 : Lib.parseUintB 32 ws[i].data.toList with
    | ok u =>
      have hu := parseUintB_le hp2
      simp only [Option.bind_some, Option.isNone_none, if_true]
      by_cases h20 : 20 < acc.length
      · rw [if_pos (by omega), if_pos h20]
      · rw [if_neg (by omega), if_neg h20, if_pos (by omega), i64_in _ (by omega) (by omega), show (u : Int) % 4294967296 = u by omega]
        have := ih k (i + 1) (acc ++ [(u : Int)]) (by omega) (by simp; omega) (fun x hx => by
          rcases List.mem_append.1 hx with hx | hx
          · exact hp x hx
          · simp only [List.mem_singleton] at hx; omega) (by omega)
        rw [show ((i + 1 : Nat) : Int) = (i : Int) + 1 from by omega] at this
        exact this
    | _ => simp

theorem oid_Parse.calls (a0 : ByteArray) (r1 : List Int) (r2 : Bool) (w : World) (HLd : LaidOk w) (h : oid_Parse.f a0 = some (r1, r2)) :
    Calls Tryd.prog 13 #[.string a0] w fun e w' => ∃ v0_ : Value, e = .returned (.tuple #[v0_, .bool r2]) ∧ Kd.R (Kd.int .u32) 27 w' w.heap.size (fun _ => True) v0_ r1 ∧ Below w.heap.size w w' := by
  unfold oid_Parse.f at h
  by_cases hs : a0.size < 4294967281
  · rw [if_pos hs] at h
    have hlen := Lib.splitB_all ⟨#[46]⟩ (by decide) 0 _ a0 rfl
    have hle := Lib.countB_le ⟨#[46]⟩ (by decide) a0.size a0 (Nat.le_refl _)
    refine PParse.oid_Parse.calls ((wordsB a0).length + 1) a0 r1 r2 w HLd ?_
    unfold PParse.oid_Parse.f strings_Split.f
    rw [if_pos ⟨hs, by decide⟩]
    simp only [Option.bind_some]
    have := parse_loop a0 (wordsB a0) (by unfold wordsB; omega) (fun w hw => by have := words_size _ _ _ w hw; omega) (wordsB a0).length ((wordsB a0).length + 1) 0 [] (by omega) rfl (by simp) (by omega)
    rw [show ((0 : Nat) : Int) = 0 from rfl, List.drop_zero] at this
    exact this.trans h
  · rw [if_neg hs] at h
    cases h

end Go.Proofs.YtjoncjnmhhimhaaDoor.Hand

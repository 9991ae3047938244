/- What the contracts of this place ask of the library's own variables, and that it lasts. -/
import Derived.Test.YtjoncjnmhhimhaaDoorProg
import Derived.Below
import Derived.Lib.LaidTab
import Derived.Lib.ItoaNum
import Derived.Test.YtjoncjnmhhimhaaDoorWWords
namespace Go.Proofs.YtjoncjnmhhimhaaDoor.Hand
set_option linter.unusedVariables false
set_option linter.unusedSimpArgs false
open Go.RowKit Go.Proofs.YtjoncjnmhhimhaaDoorW.PrintWords

theorem var_keep {P : Program} {w w' : World} {n : String} {cs : Array Value} (h : Below w.heap.size w w') (hv : w.var? P n = some cs) : w'.var? P n = some cs := by
  unfold World.var? at hv ⊢
  cases hg : P.globalNamed n with
  | none => rw [hg] at hv; cases hv
  | some g =>
    rw [hg] at hv
    simp only [Option.bind_some] at hv ⊢
    have hlt : g < w.heap.size := by
      rcases Nat.lt_or_ge g w.heap.size with h1 | h1
      · exact h1
      · rw [Array.getElem?_eq_none h1] at hv; cases hv
    rw [h.block g hlt]
    exact hv

/-- The library's variables that are read hold what the program's text lays. -/
structure LaidOk (w : World) : Prop where
  max : ∃ m : Int, w.cell? ⟨3, 0, none⟩ = some (.int .i64 m)
  pow : Lib.TabIs Tryd.prog w "internal/strconv.uint64pow10" .u64 Lib.pow10Tab
  syn : ∃ tp p, w.var? Tryd.prog "strconv.ErrSyntax" = some #[.iface tp p]
  rng : ∃ tp p, w.var? Tryd.prog "strconv.ErrRange" = some #[.iface tp p]
theorem LaidOk.below {w w' : World} (h : LaidOk w) (hb : Below w.heap.size w w') : LaidOk w' := by
  obtain ⟨⟨m, h1⟩, h2, ⟨a, b, h3⟩, ⟨c, d, h4⟩⟩ := h
  exact ⟨⟨m, pw_cell_below hb h1⟩, var_keep hb h2, ⟨a, b, var_keep hb h3⟩, ⟨c, d, var_keep hb h4⟩⟩
theorem LaidOk.drewN {w : World} (h : LaidOk w) (n : Nat) : LaidOk (w.drewN n) := h.below (pw_below_drewN (Below.refl _ _) n)
theorem LaidOk.drew {w : World} (h : LaidOk w) : LaidOk w.drew := h.below (Below.refl _ _).drew
theorem LaidOk.alloc {w : World} (h : LaidOk w) (o : Obj) : LaidOk (w.alloc o) := h.below (below_alloc (Below.refl _ _) o)
theorem LaidOk.drawn {w w' : World} (h : LaidOk w) (hd : Drawn0 w w') : LaidOk w' := by
  obtain ⟨n, rfl⟩ := hd
  exact h.drewN n

theorem add_plain' (g o j : Nat) : (⟨g, o, none⟩ : Addr).add j = ⟨g, o + j, none⟩ := by unfold Addr.add; split <;> simp_all
/-- A slice of numbers that is read, not empty: its cells. -/
theorem C_ints {k : IntKind} {w : World} {A : Option Addr} {l : List Int} (h : Kd.C (Kd.int k) w A l.length l) (h0 : 0 < l.length) :
    ∃ b off, A = some ⟨b, off, none⟩ ∧ l.length ≤ 9223372036854775807 ∧ ∀ j, j < l.length → w.cell? ⟨b, off + j, none⟩ = some (.int k (l[j]!)) := by
  obtain ⟨_, h2, h3⟩ := Kd.reads_of_C (d := (0 : Int)) h
  obtain ⟨ad, e, hc⟩ := h3 h0
  subst e
  obtain ⟨b, off, spot⟩ := ad
  have hspot : spot = none := by simpa [Addr.add] using World.cell?_spot (hc 0 h0)
  subst hspot
  refine ⟨b, off, rfl, h2, fun j hj => ?_⟩
  have := hc j hj
  rw [add_plain'] at this
  rw [this]
  simp [List.getD, hj]

theorem C_intsD {k : IntKind} {w : World} {A : Option Addr} {l : List Int} (h : Kd.C (Kd.int k) w A l.length l) (h0 : 0 < l.length) :
    ∃ b off, A = some ⟨b, off, none⟩ ∧ l.length ≤ 9223372036854775807 ∧ ∀ j, j < l.length → w.cell? ⟨b, off + j, none⟩ = some (.int k (l.getD j 0)) := by
  obtain ⟨b, off, e, h2, hc⟩ := C_ints h h0
  refine ⟨b, off, e, h2, fun j hj => ?_⟩
  rw [hc j hj]
  simp [List.getD, hj]

end Go.Proofs.YtjoncjnmhhimhaaDoor.Hand

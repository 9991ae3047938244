/- Texts of one proof, one behind the other. -/
import Derived.Test.YtjoncjnmhhimhaaDoorProg
import Derived.Below
import Derived.Lib.LaidTab
import Derived.Lib.ItoaNum
import Derived.Test.YtjoncjnmhhimhaaDoorWWords
import Derived.Test.YtjoncjnmhhimhaaDoorRows
import Derived.WalkKit
import Derived.ProofKit
import Derived.LaidMore
import Derived.OpenShut
import Derived.Stop.LaidErr
import Derived.Shelf.Vars
import Derived.SizedLaws
import Derived.Lib.Join
import Derived.Lib.SplitLaws
import Derived.Lib.ParseIntB
import Derived.Calls
import Derived.KernelRfl
import Derived.Test.YtjoncjnmhhimhaaDoorWMore
import Derived.Test.YtjoncjnmhhimhaaDoorWLast
import Derived.Shelf.Strings.Builder1
import Derived.Shelf.Strings.Builder2
import Derived.Shelf.Strings.OnBuilder
import Derived.Shelf.Utf8.RuneCount
import Derived.Shelf.Strconv.Itoa0
import Derived.Shelf.Strconv.Itoa1
import Derived.Shelf.LaysM
import Derived.Shelf.Strconv.Itoa2
import Derived.Shelf.Strconv.Itoa3
import Derived.Ground.MpProg
import Derived.Shelf.Pu.ParseUintPublic10
import Derived.Shelf.Pu.ErrVarParseUint
import Derived.Shelf.Strings.Search1
import Derived.Shelf.Strings.Search2
import Derived.Shelf.Strings.Search3
import Derived.Shelf.Strings.Count
import Derived.Shelf.Strings.Shaped
import Derived.Shelf.Strings.Split
import Derived.Shelf.Strings.SplitShaped
import Derived.Shelf.Unicode.Decode
import Derived.Shelf.Strings.RuneCount
import Derived.Shelf.Strings.Explode
import Derived.Shelf.Unicode.DecodeSlow
import Derived.Shelf.Unicode.DecodeAny
import Derived.Shelf.Slices.Equal
import Derived.Shelf.Slices.Empties2
import Derived.Ground.SlgfProg
import Derived.Shelf.SlicesE.IndexFunc
import Derived.BigCall
import Derived.BigGuard
import Derived.Lib.AppendIntMem
import Derived.Lib.AtoiErrMem
import Derived.Deep.Draws
import Derived.Deep.AppendLies
import Derived.Maps.AppendAt
import Derived.OwnWalk
import Derived.Laws.BytesArg
import Derived.Laws.MakeOwn
import Derived.Laws.OwnMore
import Derived.Deep.OwnRows
import Derived.Tactics
import Derived.Lib.ConvBytes
import Derived.Laws.Slices
import Derived.RowKit3
import Derived.Deep.LoopGhost
import Derived.Deep.QuietTactic
import Derived.BigQuiet
import Derived.WideLaws
import Derived.Deep.DeepCutAuto
import Derived.Deep.CutBlock
import Derived.Deep.RegionHeld3
import Derived.Laws.Rows
import Derived.Lib.AppendStr
import Derived.ArgAppend
import Derived.Laws.IdiomCopy
import Derived.OrdersHeld
import Derived.Laws.BitsLemmas
import Derived.RowKit
import Derived.Test.YtjoncjnmhhimhaaDoorWGuard
import Derived.Test.YtjoncjnmhhimhaaDoorWRepsOne
import Derived.Test.YtjoncjnmhhimhaaDoorWTab
section
/- What the contracts of this place ask of the library's own variables, and that it lasts. -/
namespace Go.Proofs.YtjoncjnmhhimhaaDoor.Hand
set_option linter.unusedVariables false
set_option linter.unusedSimpArgs false
open Go.RowKit Go.Proofs.YtjoncjnmhhimhaaDoorW.PrintWords

theorem var_keep {P : Program} {w w' : World} {n : String} {cs : Array Value} (h : Below w.heap.size w w') (hv : w.var? P n = some cs) : w'.var? P n = some cs := by
  unfold World.var? at hv ⊢
  cases hg : P.globalNamed n with
  | none => rw [hg] at hv; cases hv
  | some g =>
    rw [hg] at hv
    simp only [Option.bind_some] at hv ⊢
    have hlt : g < w.heap.size := by
      rcases Nat.lt_or_ge g w.heap.size with h1 | h1
      · exact h1
      · rw [Array.getElem?_eq_none h1] at hv; cases hv
    rw [h.block g hlt]
    exact hv

/-- The library's variables that are read hold what the program's text lays. -/
structure LaidOk (w : World) : Prop where
  max : ∃ m : Int, w.cell? ⟨3, 0, none⟩ = some (.int .i64 m)
  pow : Lib.TabIs Tryd.prog w "internal/strconv.uint64pow10" .u64 Lib.pow10Tab
  syn : ∃ tp p, w.var? Tryd.prog "strconv.ErrSyntax" = some #[.iface tp p]
  rng : ∃ tp p, w.var? Tryd.prog "strconv.ErrRange" = some #[.iface tp p]
theorem LaidOk.below {w w' : World} (h : LaidOk w) (hb : Below w.heap.size w w') : LaidOk w' := by
  obtain ⟨⟨m, h1⟩, h2, ⟨a, b, h3⟩, ⟨c, d, h4⟩⟩ := h
  exact ⟨⟨m, pw_cell_below hb h1⟩, var_keep hb h2, ⟨a, b, var_keep hb h3⟩, ⟨c, d, var_keep hb h4⟩⟩
theorem LaidOk.drewN {w : World} (h : LaidOk w) (n : Nat) : LaidOk (w.drewN n) := h.below (pw_below_drewN (Below.refl _ _) n)
theorem LaidOk.drew {w : World} (h : LaidOk w) : LaidOk w.drew := h.below (Below.refl _ _).drew
theorem LaidOk.alloc {w : World} (h : LaidOk w) (o : Obj) : LaidOk (w.alloc o) := h.below (below_alloc (Below.refl _ _) o)
theorem LaidOk.drawn {w w' : World} (h : LaidOk w) (hd : Drawn0 w w') : LaidOk w' := by
  obtain ⟨n, rfl⟩ := hd
  exact h.drewN n

theorem add_plain' (g o j : Nat) : (⟨g, o, none⟩ : Addr).add j = ⟨g, o + j, none⟩ := by unfold Addr.add; split <;> simp_all
/-- A slice of numbers that is read, not empty: its cells. -/
theorem C_ints {k : IntKind} {w : World} {A : Option Addr} {l : List Int} (h : Kd.C (Kd.int k) w A l.length l) (h0 : 0 < l.length) :
    ∃ b off, A = some ⟨b, off, none⟩ ∧ l.length ≤ 9223372036854775807 ∧ ∀ j, j < l.length → w.cell? ⟨b, off + j, none⟩ = some (.int k (l[j]!)) := by
  obtain ⟨_, h2, h3⟩ := Kd.reads_of_C (d := (0 : Int)) h
  obtain ⟨ad, e, hc⟩ := h3 h0
  subst e
  obtain ⟨b, off, spot⟩ := ad
  have hspot : spot = none := by simpa [Addr.add] using World.cell?_spot (hc 0 h0)
  subst hspot
  refine ⟨b, off, rfl, h2, fun j hj => ?_⟩
  have := hc j hj
  rw [add_plain'] at this
  rw [this]
  simp [List.getD, hj]

theorem C_intsD {k : IntKind} {w : World} {A : Option Addr} {l : List Int} (h : Kd.C (Kd.int k) w A l.length l) (h0 : 0 < l.length) :
    ∃ b off, A = some ⟨b, off, none⟩ ∧ l.length ≤ 9223372036854775807 ∧ ∀ j, j < l.length → w.cell? ⟨b, off + j, none⟩ = some (.int k (l.getD j 0)) := by
  obtain ⟨b, off, e, h2, hc⟩ := C_ints h h0
  refine ⟨b, off, e, h2, fun j hj => ?_⟩
  rw [hc j hj]
  simp [List.getD, hj]

end Go.Proofs.YtjoncjnmhhimhaaDoor.Hand
end

section
/- What all rows of this seat share: the start in which the listed variables lie as the program's text lays them, and what the rows' condition gives to the walks. After the guide's worked text on a listed map. -/
namespace Go
set_option linter.unusedVariables false
set_option linter.unusedSimpArgs false
variable {H : Type} {enc : TypeId × Value → H}
/-- The wrap with a condition on the world and the world's shape, both handed on. -/
theorem Tryd.returns_laid_shaped {a : Assume} {C : Checked} {os : Os} {f : FuncId} {fn : Func} {s : ChangeSpec} {conds : List PathCond} {apart fresh handsOn again : Bool} {X : World → Array Value → Prop}
    (hX : ∀ (w w' : World) (args : Array Value), w.heap = w'.heap → X w args → X w' args)
    (own : ownKnob C.prog.godebug = none) (started : os.Started) (noInit : C.prog.inits.idxOf? f = none) (hfn : C.prog.funcs[f]? = some fn)
    (witness : ∃ (w : World) (tape : Tape) (i : Input), w.os = os ∧ (w.forCall tape i).Shaped C.prog ∧ i.vars = [] ∧ Input.okWide C.prog (w.forCall tape i) .any w.heap.size f i ∧
      ((s.pre enc C.prog fn conds apart (w.forCall tape i).memory i.args ∧ X (w.forCall tape i).memory i.args) ∧ sizedMet enc C.prog fn (OpenSpec.ofChange s) apart (w.forCall tape i).memory i.args) ∧ a.holds C.prog (lone (Frame.enter C.prog f i.args .normal) [] (w.forCall tape i)))
    (contract : ∀ (W : World) (base : Nat) (args : Array Value) (ds gs : List (DataW H)) (before : List MemPlace),
      (∀ (j : Nat) t v, fn.params[j]? = some t → args[j]? = some v → Value.okWide C.prog W .any base t v) →
      DataW.Whole enc C.prog fn.params.toList s.vars apart W args.toList ds gs before →
      conds.all (PathCond.test C.prog ⟨fn.params.toList, ds, s.plain.varTypes C.prog, gs⟩) = true →
      (DataW.weightsEach C.prog (fn.params.toList ++ s.plain.varTypes C.prog) (ds ++ gs)).all (· ≤ reachBytes) = true → X W args →
      W.ShapedOpen C.prog →
      a.holds C.prog (lone (Frame.enter C.prog f args .normal) [] W) →
      Calls C.prog f args W fun e W' => ∃ v, e = .returned v ∧ s.post enc C.prog fn apart fresh handsOn again W args v W') :
    ReturnsInHanded a C os f .any (fun w args => (s.pre enc C.prog fn conds apart w args ∧ X w args) ∧ sizedMet enc C.prog fn (OpenSpec.ofChange s) apart w args) (s.post enc C.prog fn apart fresh handsOn again) := by
  refine returnsInHanded_of_calls own started noInit witness ?_
  intro w tape i _ hsh _ hok hpre hholds
  obtain ⟨_, _, _, fn', hfn', _, _, _, _, hval⟩ := hok
  have e : fn' = fn := Option.some.inj (hfn'.symm.trans hfn)
  subst e
  obtain ⟨⟨⟨ds, gs, before, hw, hc⟩, hx⟩, hz⟩ := hpre
  have hw' := DataW.Whole.of_heap (w' := w.forCall tape i) (by rfl) hw
  refine (contract (w.forCall tape i) w.heap.size i.args ds gs before hval hw' hc (hz.weights hw) (hX _ _ _ (by rfl) hx) hsh hholds).mono fun e W' ⟨v, he, hp⟩ => ?_
  subst he
  exact ChangeSpec.post_blind hp
end Go
namespace Go.Proofs.YtjoncjnmhhimhaaDoor.Row
open Go Go.Proofs.YtjoncjnmhhimhaaDoor.Hand Go.RowKit

theorem own : ownKnob Tryd.prog.godebug = none := by kernel_rfl
theorem laidOut : laidOutB Tryd.prog = true := by kernel_rfl
def laidL : List (String × DataW Unit) := Rows.oidParsesRow.laid

set_option maxRecDepth 100000 in
/-- The start: the heap that the program's own initialisers leave, the library's great table in its place. -/
noncomputable def startW (os : Os) : World :=
  let w := World.doorLaid Tryd.prog 72 os
  { w with heap := w.heap.setIfInBounds 4 (.cells (Pinned.utf8FirstZ.map fun (n : Nat) => Value.int .u8 (n : Int)).toArray 126) }

set_option maxRecDepth 100000 in
theorem door_met (os : Os) (args : Array Value) : laidMetH Tryd.prog laidL ((startW os).forCall (fun _ _ => 0) ⟨#[], args, []⟩).memory :=
  laidMetH_of_parts3 (fuel := 8) (laidMet_of_run' 8 (by kernel_rfl) (by kernel_rfl)) (by kernel_rfl) (by kernel_rfl)

set_option maxRecDepth 100000 in
theorem startShaped (os : Os) (args : Array Value) : ((startW os).forCall (fun _ _ => 0) ⟨#[], args, []⟩).Shaped Tryd.prog :=
  World.shaped_of_RefB (by kernel_rfl) (by kernel_rfl)

end Go.Proofs.YtjoncjnmhhimhaaDoor.Row
end

section
/- From the rows' condition to what the walks ask. -/
namespace Go.Proofs.YtjoncjnmhhimhaaDoor.Row
set_option linter.unusedVariables false
set_option linter.unusedSimpArgs false
open Go Go.Proofs.YtjoncjnmhhimhaaDoor.Hand Go.RowKit

theorem gErrR : Tryd.prog.globalNamed "strconv.ErrRange" = some 1 := by kernel_rfl
theorem gErrS : Tryd.prog.globalNamed "strconv.ErrSyntax" = some 0 := by kernel_rfl
theorem gPow : Tryd.prog.globalNamed "internal/strconv.uint64pow10" = some 2 := by kernel_rfl
theorem tErrR : (Tryd.prog.globals[1]?).map (·.type) = some 63 := by kernel_rfl
theorem tErrS : (Tryd.prog.globals[0]?).map (·.type) = some 63 := by kernel_rfl
theorem tPow : (Tryd.prog.globals[2]?).map (·.type) = some 116 := by kernel_rfl
theorem cPow : Tryd.prog.cellsOf 116 = 20 := by kernel_rfl
theorem cU64 : Tryd.prog.cellsOf 61 = 1 := by kernel_rfl
theorem cStr : Tryd.prog.cellsOf 9 = 1 := by kernel_rfl
theorem cErr : Tryd.prog.cellsOf 124 = 1 := by kernel_rfl
theorem powData : (Rows.laid_internal_strconv_uint64pow10 : DataW Unit) = Lib.tabData .u64 Lib.pow10Tab := by kernel_rfl
theorem star : "*" ++ "errors.errorString" = "*errors.errorString" := by decide
theorem rowErr (u : TypeId) (h : Tryd.prog.typeName? 3 u = some "*errors.errorString") : u = 122 :=
  typeName_ptr_named (nm := "errors.errorString") (by rw [star]; kernel_rfl) (by kernel_rfl) (by decide) u (by rw [star]; exact h)

/-- FROM THE ROWS' CONDITION TO WHAT THE WALKS ASK. -/
theorem laid_of {W : World} (hL0 : laidMetH Tryd.prog laidL W) (hsh : W.ShapedOpen Tryd.prog) : LaidOk W := by
  have hL := hL0
  rw [MakeChecks.laidMetH_plain _ _ _ (by kernel_rfl)] at hL
  have h1 : laidMet Tryd.prog (("internal/strconv.uint64pow10", Lib.tabData .u64 Lib.pow10Tab) :: laidL.drop 3) W := by
    rw [← powData]
    exact hL.tail.tail
  have hR : laidMet Tryd.prog (laidL.drop 4) W := hL.tail.tail.tail.tail
  have hS : laidMet Tryd.prog (laidL.drop 5) W := hR.tail
  refine ⟨?_, Lib.tabIs_of_head gPow tPow Tryd.underlying116 Tryd.underlying61 cU64 cPow h1, ?_, ?_⟩
  · exact cell_of_shapedOpen_int hsh (g := 3) (t := 3) (zero := #[.int .i64 0]) (of_decide_eq_true (by kernel_rfl)) (by kernel_rfl) rfl (by kernel_rfl) (by kernel_rfl) Tryd.underlying3
  · obtain ⟨a, s, hv, _⟩ := laid_sentinel hS gErrS tErrS Tryd.underlying63 rowErr Tryd.underlying122 Tryd.underlying124 rfl rfl Tryd.underlying9 cErr cStr
    exact ⟨_, _, hv⟩
  · obtain ⟨a, s, hv, _⟩ := laid_sentinel hR gErrR tErrR Tryd.underlying63 rowErr Tryd.underlying122 Tryd.underlying124 rfl rfl Tryd.underlying9 cErr cStr
    exact ⟨_, _, hv⟩

end Go.Proofs.YtjoncjnmhhimhaaDoor.Row
end

section
/- Plain facts on object identifiers: what the text of an identifier is, which strings are texts, and that reading a text is unique. No program in sight. -/
namespace Go.Proofs.YtjoncjnmhhimhaaDoor.Oid
set_option linter.unusedVariables false
set_option linter.unusedSimpArgs false
open Go.Lib

/-- A list is an identifier. -/
def validB (l : List Int) : Bool :=
  decide (2 ≤ l.length) && decide (l.length ≤ 20) && decide (l.getD 0 0 ≤ 2) && (decide (2 ≤ l.getD 0 0) || decide (l.getD 1 0 < 40)) && l.all (fun n => decide (n < 4294967216))
/-- The text of a list. -/
def textL (l : List Int) : List UInt8 := Lib.join (l.map fun n => decDigits n.toNat) [46]
def textB (l : List Int) : ByteArray := if validB l then ⟨(textL l).toArray⟩ else ⟨#[]⟩
/-- The words of a text. -/
def wordsB (s : ByteArray) : List ByteArray := splitB ⟨#[46]⟩ 0 (countB s ⟨#[46]⟩) s
/-- The program's loop over the words. -/
def parseLoop : List ByteArray → List Int → Option (List Int)
  | [], out => some out
  | w :: ws, out =>
    match parseUintB 32 w.data.toList with
    | .ok u => if 20 < out.length then none else parseLoop ws (out ++ [(u : Int)])
    | _ => none
def parseB (s : ByteArray) : List Int × Bool :=
  match parseLoop (wordsB s) [] with
  | some out => if textB out = s ∧ validB out = true then (out, true) else ([], false)
  | none => ([], false)

/-! ### Decimal numbers -/
def isDig (c : UInt8) : Bool := decide (48 ≤ c.toNat) && decide (c.toNat ≤ 57)
def valL (acc : Nat) (l : List UInt8) : Nat := l.foldl (fun a c => a * 10 + (c.toNat - 48)) acc
theorem valL_nil (acc : Nat) : valL acc [] = acc := by rw [valL, List.foldl_nil]
theorem valL_cons (acc : Nat) (c : UInt8) (r : List UInt8) : valL acc (c :: r) = valL (acc * 10 + (c.toNat - 48)) r := by rw [valL, List.foldl_cons, valL]
theorem valL_append (a : List UInt8) : ∀ (acc : Nat) (b : List UInt8), valL acc (a ++ b) = valL (valL acc a) b := by
  induction a with
  | nil => intro acc b; rw [List.nil_append, valL_nil]
  | cons c r ih => intro acc b; rw [List.cons_append, valL_cons, valL_cons]; exact ih _ b
theorem valL_ge (l : List UInt8) : ∀ acc, acc ≤ valL acc l := by
  induction l with
  | nil => intro acc; rw [valL_nil]; exact Nat.le_refl _
  | cons c r ih => intro acc; rw [valL_cons]; exact Nat.le_trans (by omega) (ih (acc * 10 + (c.toNat - 48)))
theorem valL_mono (l : List UInt8) : ∀ a b, a ≤ b → valL a l ≤ valL b l := by
  induction l with
  | nil => intro a b h; rw [valL_nil, valL_nil]; exact h
  | cons c r ih => intro a b h; rw [valL_cons, valL_cons]; exact ih _ _ (by omega)
theorem u8 (n : Nat) (h : n < 256) : (UInt8.ofNat n).toNat = n := by
  have := UInt8.toNat_ofNat' (n := n)
  rw [this]; exact Nat.mod_eq_of_lt h
/-- A number as its digits: not empty, no zero ahead. -/
def Canon (w : List UInt8) : Prop := w ≠ [] ∧ (∀ c ∈ w, isDig c = true) ∧ (w.head? = some 48 → w.length = 1)
theorem dec_canon (n : Nat) : Canon (decDigits n) ∧ valL 0 (decDigits n) = n := by
  induction n using Nat.strongRecOn with
  | _ n ih =>
    by_cases h : n < 10
    · rw [decDigits, dif_pos h]
      refine ⟨⟨by simp, ?_, by simp⟩, ?_⟩
      · intro c hc
        simp only [List.mem_singleton] at hc
        subst hc
        have e : (UInt8.ofNat (48 + n)).toNat = 48 + n := u8 _ (by omega)
        simp only [isDig, e]; simp; omega
      · have e : (UInt8.ofNat (48 + n)).toNat = 48 + n := u8 _ (by omega)
        rw [valL_cons, valL_nil, e]; omega
    · rw [decDigits, dif_neg h]
      obtain ⟨⟨h1, h2, h3⟩, h4⟩ := ih (n / 10) (by omega)
      have e : (UInt8.ofNat (48 + n % 10)).toNat = 48 + n % 10 := u8 _ (by omega)
      refine ⟨⟨by simp, ?_, ?_⟩, ?_⟩
      · intro c hc
        rcases List.mem_append.1 hc with hc | hc
        · exact h2 c hc
        · simp only [List.mem_singleton] at hc
          subst hc
          simp only [isDig, e]; simp; omega
      · intro hh
        exfalso
        obtain ⟨x, r, hx⟩ : ∃ x r, decDigits (n / 10) = x :: r := by
          cases hd : decDigits (n / 10) with
          | nil => exact absurd hd h1
          | cons x r => exact ⟨x, r, rfl⟩
        rw [hx] at hh h3 h4
        simp only [List.cons_append, List.head?_cons, Option.some.injEq] at hh
        subst hh
        have hl := h3 rfl
        simp only [List.length_cons] at hl
        have : r = [] := List.eq_nil_of_length_eq_zero (by omega)
        subst this
        rw [valL_cons, valL_nil, show (48 : UInt8).toNat = 48 from rfl] at h4
        omega
      · rw [valL_append, h4]
        rw [valL_cons, valL_nil, e]
        omega
theorem canon_dec (w : List UInt8) (h : Canon w) : decDigits (valL 0 w) = w := by
  obtain ⟨h1, h2, h3⟩ := h
  induction hn : w.length using Nat.strongRecOn generalizing w with
  | _ n ih =>
    obtain ⟨v, c, rfl⟩ : ∃ v c, w = v ++ [c] := ⟨w.dropLast, w.getLast h1, (List.dropLast_concat_getLast h1).symm⟩
    have hc := h2 c (by simp)
    simp only [isDig, Bool.and_eq_true, decide_eq_true_eq] at hc
    have hcb : UInt8.ofNat (48 + (c.toNat - 48)) = c := by
      rw [show 48 + (c.toNat - 48) = c.toNat from by omega]; simp
    by_cases hv : v = []
    · subst hv
      rw [List.nil_append, valL_cons, valL_nil]
      rw [decDigits, dif_pos (by omega)]
      rw [show 48 + (0 * 10 + (c.toNat - 48)) = 48 + (c.toNat - 48) from by omega, hcb]
    · have hlen : 0 < v.length := List.length_pos_iff.2 hv
      obtain ⟨x, r, rfl⟩ : ∃ x r, v = x :: r := by
        cases v with
        | nil => exact absurd rfl hv
        | cons x r => exact ⟨x, r, rfl⟩
      have hx : x ≠ 48 := by
        intro e
        subst e
        have := h3 (by simp)
        simp at this
      have hxd := h2 x (by simp)
      simp only [isDig, Bool.and_eq_true, decide_eq_true_eq] at hxd
      have hx1 : 49 ≤ x.toNat := by
        rcases Nat.lt_or_ge x.toNat 49 with hl | hl
        · exfalso
          apply hx
          have : x.toNat = 48 := by omega
          exact UInt8.toNat_inj.1 this
        · exact hl
      have hv1 : 1 ≤ valL 0 (x :: r) := by
        have := valL_ge r (0 * 10 + (x.toNat - 48))
        rw [valL_cons]
        omega
      have hih := ih (x :: r).length (by rw [← hn]; simp) (x :: r) (by simp) (fun d hd => h2 d (by simp only [List.mem_append]; exact .inl hd)) (by simp [hx]) rfl
      rw [valL_cons] at hih hv1
      rw [valL_append, valL_cons, valL_cons, valL_nil]
      rw [decDigits, dif_neg (by omega)]
      rw [show (valL (0 * 10 + (x.toNat - 48)) r * 10 + (c.toNat - 48)) / 10 = valL (0 * 10 + (x.toNat - 48)) r from by omega, hih,
        show (valL (0 * 10 + (x.toNat - 48)) r * 10 + (c.toNat - 48)) % 10 = c.toNat - 48 from by omega, hcb]

theorem parseUintM_ok (M : Nat) (w : List UInt8) : ∀ acc u, parseUintM M acc w = .ok u → (∀ c ∈ w, isDig c = true) ∧ valL acc w = u ∧ (acc ≤ M → u ≤ M) := by
  induction w with
  | nil => intro acc u h; simp only [parseUintM] at h; injection h with h; subst h; exact ⟨by simp, by rw [valL_nil], fun h => h⟩
  | cons c r ih =>
    intro acc u h
    simp only [parseUintM] at h
    split at h
    · rename_i hd
      split at h
      · cases h
      · split at h
        · cases h
        · rename_i h1 h2
          obtain ⟨h3, h4, h5⟩ := ih _ _ h
          refine ⟨?_, by rw [valL_cons]; exact h4, fun _ => h5 (by omega)⟩
          intro x hx
          rcases List.mem_cons.1 hx with rfl | hx
          · simp [isDig, hd]
          · exact h3 x hx
    · cases h
theorem parseUintM_of (M : Nat) (hM : M < 18446744073709551616) (w : List UInt8) : ∀ acc, (∀ c ∈ w, isDig c = true) → valL acc w ≤ M → parseUintM M acc w = .ok (valL acc w) := by
  induction w with
  | nil => intro acc _ _; rw [valL_nil]; rfl
  | cons c r ih =>
    intro acc hd hm
    have hc := hd c (by simp)
    simp only [isDig, Bool.and_eq_true, decide_eq_true_eq] at hc
    have hg := valL_ge r (acc * 10 + (c.toNat - 48))
    rw [valL_cons] at hm
    simp only [parseUintM]
    rw [if_pos hc, if_neg (by omega), if_neg (by omega), ih _ (fun x hx => hd x (by simp [hx])) hm, valL_cons]

/-! ### Texts -/
theorem join_nil : Lib.join [] [46] = [] := rfl
theorem join_one (w : List UInt8) : Lib.join [w] [46] = w := by simp [Lib.join]
theorem join_cons (w v : List UInt8) (ws : List (List UInt8)) : Lib.join (w :: v :: ws) [46] = w ++ 46 :: Lib.join (v :: ws) [46] := by
  simp [Lib.join, List.intercalate]

/-- The words of a list of bytes, dots between them: 'cur' is what the word that is read begins with. -/
def splitL (cur : List UInt8) : List UInt8 → List (List UInt8)
  | [] => [cur]
  | c :: r => if c = 46 then cur :: splitL [] r else splitL (cur ++ [c]) r
theorem splitL_ne (r : List UInt8) : ∀ cur, splitL cur r ≠ [] := by
  induction r with
  | nil => intro cur; simp [splitL]
  | cons c r ih => intro cur; simp only [splitL]; split <;> simp [ih]
theorem join_splitL (r : List UInt8) : ∀ cur, Lib.join (splitL cur r) [46] = cur ++ r := by
  induction r with
  | nil => intro cur; simp [splitL, join_one]
  | cons c r ih =>
    intro cur
    simp only [splitL]
    split
    · rename_i h
      subst h
      cases hs : splitL [] r with
      | nil => exact absurd hs (splitL_ne r [])
      | cons v ws => rw [join_cons, ← hs, ih]; simp
    · rw [ih]; simp
theorem splitL_skip (w : List UInt8) (hw : ∀ c ∈ w, c ≠ 46) : ∀ cur r, splitL cur (w ++ r) = splitL (cur ++ w) r := by
  induction w with
  | nil => intro cur r; simp
  | cons c w ih =>
    intro cur r
    rw [List.cons_append, splitL, if_neg (hw c (by simp)), ih (fun x hx => hw x (by simp [hx]))]
    simp
theorem splitL_join (ws : List (List UInt8)) (h0 : ws ≠ []) (h : ∀ w ∈ ws, ∀ c ∈ w, c ≠ (46 : UInt8)) : splitL [] (Lib.join ws [46]) = ws := by
  induction ws with
  | nil => exact absurd rfl h0
  | cons w ws ih =>
    cases ws with
    | nil =>
      rw [join_one]
      have := splitL_skip w (h w (by simp)) [] []
      rw [List.append_nil] at this
      rw [this]
      simp [splitL]
    | cons v ws =>
      rw [join_cons, splitL_skip w (h w (by simp))]
      simp only [splitL, if_true, List.nil_append]
      rw [ih (by simp) (fun x hx => h x (by simp only [List.mem_cons] at hx ⊢; exact .inr hx))]

end Go.Proofs.YtjoncjnmhhimhaaDoor.Oid
end

section
/- What the functions of the package oid compute: the plain functions, and the contracts' names. -/
namespace Go.Proofs.YtjoncjnmhhimhaaDoor.Oid
set_option linter.unusedVariables false
set_option linter.unusedSimpArgs false
open Go.Lib

/-- The group of a number; 'mark' is laid on the last byte. -/
def grpL (n : Nat) (mark : Nat) : List Int :=
  if h : n < 128 then [((n % 128 + mark : Nat) : Int)] else grpL (n / 128) 128 ++ [((n % 128 + mark : Nat) : Int)]
termination_by n
decreasing_by omega
def contentL (l : List Int) : List Int := grpL (40 * (l.getD 0 0).toNat + (l.getD 1 0).toNat) 0 ++ (l.drop 2).flatMap fun n => grpL n.toNat 0
/-- The program's loop over the bytes of a content. -/
def readLoop : List Int → List Int → Int → Bool → Option (List Int × Bool)
  | [], out, _, op => some (out, op)
  | c :: r, out, n, op =>
    if (op = false ∧ c = 128) ∨ 20 < out.length then some (out, true)
    else if 4294967296 ≤ n then none
    else if 128 ≤ c then readLoop r out (n * 128 + c % 128) true
    else if 4294967296 ≤ n * 128 + c % 128 then none
    else if out = [] then readLoop r [min ((n * 128 + c % 128) / 40) 2, n * 128 + c % 128 - 40 * min ((n * 128 + c % 128) / 40) 2] 0 false
    else readLoop r (out ++ [n * 128 + c % 128]) 0 false
def readL (b : List Int) : List Int × Bool :=
  match readLoop b [] 0 false with
  | some (out, false) => if validB out then (out, true) else ([], false)
  | _ => ([], false)
end Go.Proofs.YtjoncjnmhhimhaaDoor.Oid
namespace Go.Proofs.YtjoncjnmhhimhaaDoor.Hand
open Go.Proofs.YtjoncjnmhhimhaaDoor.Oid
def oid_Valid.f (l0 : List Int) : Option Bool := some (validB l0)
def oid_Text.f (l0 : List Int) : Option ByteArray := if (l0.all fun x => decide (0 ≤ x)) = true then some (textB l0) else none
def oid_Parse.f (a0 : ByteArray) : Option (List Int × Bool) := if a0.size < 4294967281 then some (parseB a0) else none
def oid_Content.f (l0 : List Int) : Option (List Int) := if (l0.all fun x => decide (0 ≤ x)) = true then some (if validB l0 = true then contentL l0 else []) else none
def oid_Read.f (l0 : List Int) : Option (List Int × Bool) := if l0.length ≤ 140737488355328 ∧ (l0.all fun x => decide (0 ≤ x) && decide (x < 256)) = true then some (readL l0) else none
end Go.Proofs.YtjoncjnmhhimhaaDoor.Hand
end

section
/- A function without a drawn order, run by the kernel: what its code comes to is a plain equation. -/
namespace Go.Proofs.YtjoncjnmhhimhaaDoor.Hand
set_option linter.unusedVariables false
set_option linter.unusedSimpArgs false
open Go.RowKit Go.Proofs.YtjoncjnmhhimhaaDoorW.PrintWords Go.Proofs.YtjoncjnmhhimhaaDoorW.PrintLast Go.Proofs.YtjoncjnmhhimhaaDoorW.PrintMore

def runOps (P : Program) (ops : Array Oper) : List Nat → Act → World → Option (Act × World)
  | [], a, w => some (a, w)
  | i :: rest, a, w =>
    match ops[i]? with
    | none => runOps P ops rest a w
    | some o =>
      if Region.wanted o (yielded ops a.tmps) = true then
        match (execOp a.eval o).run P w with
        | .ok (.value v) w' => runOps P ops rest (a.put o.dst v) w'
        | .ok .skip w' => runOps P ops rest (a.put o.dst undef) w'
        | _ => none
      else runOps P ops rest (a.put o.dst undef) w
theorem wpOps_of_run {P : Program} {ops : Array Oper} {Q : Exit → Act → World → Prop} : ∀ (l : List Nat) (a : Act) (w : World) (a' : Act) (w' : World), runOps P ops l a w = some (a', w') → Q .normal a' w' → wpOps P ops Q l a w := by
  intro l
  induction l with
  | nil =>
    intro a w a' w' h hq
    simp only [runOps, Option.some.injEq, Prod.mk.injEq] at h
    obtain ⟨rfl, rfl⟩ := h
    exact hq
  | cons i rest ih =>
    intro a w a' w' h hq
    simp only [runOps] at h
    simp only [wpOps]
    cases ho : ops[i]? with
    | none =>
      simp only [ho] at h
      exact ih _ _ _ _ h hq
    | some o =>
      simp only [ho] at h
      by_cases hw : Region.wanted o (yielded ops a.tmps) = true
      · simp only [hw, if_true] at h ⊢
        refine .inl ?_
        unfold Oper.wp
        cases hr : (execOp a.eval o).run P w with
        | ok x w1 =>
          rw [hr] at h
          cases x with
          | value v => exact ih _ _ _ _ h hq
          | skip => exact ih _ _ _ _ h hq
          | _ => cases h
        | halt x w1 =>
          rw [hr] at h
          cases h
      · simp only [hw, if_false, Bool.false_eq_true] at h ⊢
        exact ih _ _ _ _ h hq

def runCode (P : Program) : Nat → Code → Act → World → Option (Exit × Act × World)
  | 0, _, _, _ => none
  | n + 1, c, a, w =>
    match c with
    | .skip => some (.normal, a, w)
    | .region _ ops false => (runOps P ops (List.range ops.size) a w).map fun r => (.normal, r.1, r.2)
    | .seq x y =>
      match runCode P n x a w with
      | some (.normal, a1, w1) => runCode P n y a1 w1
      | some (.ret, a1, w1) => some (.ret, a1, w1)
      | _ => none
    | .cond e x y =>
      match a.eval e with
      | .bool true => runCode P n x a w
      | .bool false => runCode P n y a w
      | _ => none
    | .ret => some (.ret, a, w)
    | _ => none
theorem wp_of_runCode {P : Program} : ∀ (n : Nat) (c : Code) (Q : Exit → Act → World → Prop) (a : Act) (w : World) (e : Exit) (a' : Act) (w' : World), runCode P n c a w = some (e, a', w') → Q e a' w' → c.wp P Q a w := by
  intro n
  induction n with
  | zero =>
    intro c Q a w e a' w' h
    cases h
  | succ n ih =>
    intro c Q a w e a' w' h hq
    cases c with
    | skip =>
      simp only [runCode, Option.some.injEq, Prod.mk.injEq] at h
      obtain ⟨rfl, rfl, rfl⟩ := h
      exact wp_skip hq
    | ret =>
      simp only [runCode, Option.some.injEq, Prod.mk.injEq] at h
      obtain ⟨rfl, rfl, rfl⟩ := h
      exact wp_ret hq
    | region id ops draw =>
      cases draw with
      | true => simp [runCode] at h
      | false =>
        simp only [runCode, Option.map_eq_some_iff] at h
        obtain ⟨⟨a1, w1⟩, h1, h2⟩ := h
        simp only [Prod.mk.injEq] at h2
        obtain ⟨rfl, rfl, rfl⟩ := h2
        exact wp_region (wpOps_of_run _ _ _ _ _ h1 hq)
    | seq x y =>
      simp only [runCode] at h
      cases hx : runCode P n x a w with
      | none => simp [hx] at h
      | some r =>
        obtain ⟨e1, a1, w1⟩ := r
        cases e1 with
        | normal =>
          simp only [hx] at h
          exact wp_seq (ih x _ a w _ _ _ hx (ih y Q a1 w1 _ _ _ h hq))
        | ret =>
          simp only [hx, Option.some.injEq, Prod.mk.injEq] at h
          obtain ⟨rfl, rfl, rfl⟩ := h
          exact wp_seq (ih x _ a w _ _ _ hx hq)
        | _ => simp [hx] at h
    | cond t x y =>
      simp only [runCode] at h
      cases ht : a.eval t with
      | bool b =>
        cases b with
        | true =>
          simp only [ht] at h
          exact wp_cond_true ht (ih x Q a w _ _ _ h hq)
        | false =>
          simp only [ht] at h
          exact wp_cond_false ht (ih y Q a w _ _ _ h hq)
      | _ => simp [ht] at h
    | _ => simp [runCode] at h

/-- What the kernel finds: the value that is returned, the world behind, and that world once more behind the reading of the results. -/
def runFn (P : Program) (n : Nat) (fn : Func) (args : Array Value) (w : World) : Option (Value × World × World) :=
  match fn.body with
  | none => none
  | some c =>
    match runCode P n c { tmps := args ++ Array.replicate (fn.ntmps - args.size) undef, defers := [] } w with
    | some (.ret, a, w1) =>
      match a.defers with
      | [] =>
        match (results fn a.tmps).run P w1 with
        | .ok v w2 => some (v, w1, w2)
        | _ => none
      | _ => none
    | _ => none
theorem calls_of_runFn {P : Program} {f : FuncId} {fn : Func} (hf : P.funcs[f]? = some fn) (n : Nat) {args : Array Value} {w w' : World} {v : Value} (h : runFn P n fn args w = some (v, w', w')) :
    Calls P f args w fun e w2 => e = .returned v ∧ w2 = w' := by
  unfold runFn at h
  cases hb : fn.body with
  | none => simp [hb] at h
  | some c =>
    simp only [hb] at h
    cases hr : runCode P n c { tmps := args ++ Array.replicate (fn.ntmps - args.size) undef, defers := [] } w with
    | none => simp [hr] at h
    | some r =>
      obtain ⟨e, a, w1⟩ := r
      cases e with
      | ret =>
        simp only [hr] at h
        cases hd : a.defers with
        | cons _ _ => simp [hd] at h
        | nil =>
          simp only [hd] at h
          cases hres : (results fn a.tmps).run P w1 with
          | halt x w2 => simp [hres] at h
          | ok v2 w2 =>
            simp only [hres, Option.some.injEq, Prod.mk.injEq] at h
            obtain ⟨rfl, rfl, rfl⟩ := h
            exact calls_of_wp hf hb (wp_of_runCode n c _ _ _ _ _ _ hr ⟨hd, _, hres, rfl, rfl⟩)
      | _ => simp [hr] at h

theorem reps_flat {α : Type} {R : α → List Value → Prop} {size : Nat} (enc : α → List Value) (h : ∀ x, R x (enc x)) (hl : ∀ x, (enc x).length = size) (xs : List α) : Reps R size xs (xs.flatMap enc) := by
  suffices key : ∀ (ys done : List α), Reps R size done (done.flatMap enc) → Reps R size (done ++ ys) ((done ++ ys).flatMap enc) by
    exact key xs [] (Reps.none R size)
  intro ys
  induction ys with
  | nil =>
    intro done hd
    rw [List.append_nil]
    exact hd
  | cons y ys ih =>
    intro done hd
    have h1 := hd.snoc (h y) (hl y)
    have e1 : (done ++ [y]).flatMap enc = done.flatMap enc ++ enc y := by simp
    have e2 : done ++ y :: ys = (done ++ [y]) ++ ys := by simp
    rw [e2]
    exact ih (done ++ [y]) (by rw [e1]; exact h1)
/-- A literal of the call's own: a row of elements whose cells hold no rows. -/
theorem R_lit_any {α : Type} (d : Kd α) (e : Nat) (enc : α → List Value) (hM : ∀ (w : World) base ok x, d.M w base ok x (enc x)) (W : World) (xs : List α) (hm : xs.length ≤ 9223372036854775807) :
    d.R e (W.alloc (.cells (xs.flatMap enc).toArray e)) W.heap.size (fun _ => True) (.slice (some ⟨W.heap.size, 0, none⟩) xs.length xs.length) xs := by
  have hl : ∀ x, (enc x).length = d.sz := fun x => d.K_len (d.K_of_M (hM W 0 (fun _ => True) x))
  refine ⟨fun _ _ => trivial, xs.flatMap enc, ?_, reps_flat enc (fun x => hM _ _ _ x) hl xs⟩
  have h := World.ownsRow_lit (base := W.heap.size) (e := e) (size := d.sz) W (xs.flatMap enc).toArray xs.length (Nat.le_refl _) (by simpa [maxLen] using hm) (by
    rw [List.size_toArray]
    exact (reps_flat (R := fun _ _ => True) enc (fun _ => trivial) hl xs).1)
  simpa using h
end Go.Proofs.YtjoncjnmhhimhaaDoor.Hand
end

section
/- An array of bools by its number, the lowest bit first. -/
namespace Go.Proofs.YtjoncjnmhhimhaaDoor.Hand
def bv (n m : Nat) : Array Bool := ((List.range n).map fun i => m.testBit i).toArray
end Go.Proofs.YtjoncjnmhhimhaaDoor.Hand
end

section
/- The library's contracts that this place uses, at this program's numbers, in plain words: written by the kit's shelf tools. -/
namespace Go.Proofs
open Go.Shelf
def Tryd.lays156_ren : Go.Shelf.Ren := ⟨fun | 156 => 41 | 165 => 64 | 166 => 65 | 169 => 66 | 240 => 83 | 241 => 84 | 276 => 97 | 277 => 98 | n => n, fun | 31 => 59 | 9 => 9 | 3 => 3 | 4 => 4 | 0 => 0 | 20 => 20 | 72 => 85 | 76 => 87 | 70 => 83 | 37 => 30 | 75 => 63 | 127 => 106 | 164 => 119 | 5 => 5 | 80 => 89 | n => n, fun | n => n⟩
theorem Tryd.lays156 : Go.Proofs.Lays.n156 Tryd.prog Tryd.lays156_ren := {
  mixed := by kernel_rfl
  f156 := Tryd.func41.trans (congrArg some (by kernel_rfl))
  f165 := Tryd.func64.trans (congrArg some (by kernel_rfl))
  f166 := Tryd.func65.trans (congrArg some (by kernel_rfl))
  f169 := Tryd.func66.trans (congrArg some (by kernel_rfl))
  f240 := Tryd.func83.trans (congrArg some (by kernel_rfl))
  f241 := Tryd.func84.trans (congrArg some (by kernel_rfl))
  f276 := Tryd.func97.trans (congrArg some (by kernel_rfl))
  f277 := Tryd.func98.trans (congrArg some (by kernel_rfl))
  t0 := Tryd.underlying0
  a0 := Tryd.isAgg0
  z0 := Tryd.sizeOf0
  v0 := Tryd.zeroValue0
  t3 := Tryd.underlying3
  a3 := Tryd.isAgg3
  z3 := Tryd.sizeOf3
  v3 := Tryd.zeroValue3
  t4 := Tryd.underlying4
  a4 := Tryd.isAgg4
  z4 := Tryd.sizeOf4
  v4 := Tryd.zeroValue4
  t9 := Tryd.underlying9
  a9 := Tryd.isAgg9
  z9 := Tryd.sizeOf9
  v9 := Tryd.zeroValue9
  t20 := Tryd.underlying20
  a20 := Tryd.isAgg20
  z20 := Tryd.sizeOf20
  v20 := Tryd.zeroValue20
  t31 := Tryd.underlying59
  a31 := Tryd.isAgg59
  z31 := Tryd.sizeOf59
  v31 := Tryd.zeroValue59
  t37 := Tryd.underlying30
  a37 := Tryd.isAgg30
  z37 := Tryd.sizeOf30
  v37 := Tryd.zeroValue30
  t70 := Tryd.underlying83
  a70 := Tryd.isAgg83
  z70 := Tryd.sizeOf83
  v70 := Tryd.zeroValue83
  t72 := Tryd.underlying85
  a72 := Tryd.isAgg85
  z72 := Tryd.sizeOf85
  v72 := Tryd.zeroValue85
  t75 := Tryd.underlying63
  a75 := Tryd.isAgg63
  z75 := Tryd.sizeOf63
  v75 := Tryd.zeroValue63
  t76 := Tryd.underlying87
  a76 := Tryd.isAgg87
  z76 := Tryd.sizeOf87
  v76 := Tryd.zeroValue87
  t127 := Tryd.underlying106
  a127 := Tryd.isAgg106
  z127 := Tryd.sizeOf106
  v127 := Tryd.zeroValue106
  t164 := Tryd.underlying119
  a164 := Tryd.isAgg119
  z164 := Tryd.sizeOf119
  v164 := Tryd.zeroValue119 }
theorem Tryd.Builder_Extra_156 : Builder.Extra Tryd.prog Tryd.lays156_ren := {
  sizeBuilder := by kernel_rfl
  liesBuilder := by kernel_rfl
  t5 := Tryd.underlying5
  a5 := Tryd.isAgg5
  z5 := Tryd.sizeOf5
  v5 := Tryd.zeroValue5
  infoByte := by kernel_rfl
  cellsByte := by kernel_rfl
  sizeByte := by kernel_rfl
  neB5 := by decide }
open Go.RowKit in
theorem Tryd.strings_Join_none (a : Option Addr) (c : Nat) (sep : ByteArray) (w : World) :
    Calls Tryd.prog 41 #[.slice a 0 c, .string sep] w fun e w' => e = .returned (.string ⟨#[]⟩) ∧ w' = w := Any.strings_Join_none Tryd.lays156 Tryd.Builder_Extra_156 a c sep w
open Go.RowKit in
theorem Tryd.strings_Join (bk o c : Nat) (xs : List ByteArray) (sep : ByteArray) (w : World) (hcells : ∀ (j : Nat) x, xs[j]? = some x → w.cell? ⟨bk, o + j, none⟩ = some (.string x)) (hbk : bk < w.heap.size) (hN : xs.length ≤ 140737488355328) (hcap : xs.length ≤ c) (hlen : (Lib.join (xs.map (·.data.toList)) sep.data.toList).length ≤ 140737488355328) :
    Calls Tryd.prog 41 #[.slice (some ⟨bk, o, none⟩) xs.length c, .string sep] w fun e w' => e = .returned (.string ⟨(Lib.join (xs.map (·.data.toList)) sep.data.toList).toArray⟩) ∧ Below w.heap.size w w' := Any.strings_Join Tryd.lays156 Tryd.Builder_Extra_156 bk o c xs sep w hcells hbk hN hcap hlen
def Tryd.lays283_ren : Go.Shelf.Ren := ⟨fun | 283 => 79 | n => n, fun | 3 => 3 | 9 => 9 | 4 => 4 | n => n, fun | n => n⟩
theorem Tryd.lays283 : Go.Proofs.Lays.n283 Tryd.prog Tryd.lays283_ren := {
  mixed := by kernel_rfl
  f283 := Tryd.func79.trans (congrArg some (by kernel_rfl))
  t3 := Tryd.underlying3
  a3 := Tryd.isAgg3
  z3 := Tryd.sizeOf3
  v3 := Tryd.zeroValue3
  t4 := Tryd.underlying4
  a4 := Tryd.isAgg4
  z4 := Tryd.sizeOf4
  v4 := Tryd.zeroValue4
  t9 := Tryd.underlying9
  a9 := Tryd.isAgg9
  z9 := Tryd.sizeOf9
  v9 := Tryd.zeroValue9 }
open Go.Lib in
theorem Tryd.internal_strconv_small (i : Nat) (h : i < 100) (w : World) :
    Calls Tryd.prog 79 #[.int .i64 i] w fun e w' => e = .returned (.string ⟨(Lib.decDigits i).toArray⟩) ∧ w' = w := Any.internal_strconv_small Tryd.lays283 i h w
def Tryd.laysM284_ren : Go.Shelf.Ren := ⟨fun | 284 => 80 | 129 => 93 | 317 => 92 | 318 => 94 | n => n, fun | 53 => 61 | 3 => 3 | 212 => 116 | 0 => 0 | 4 => 4 | 46 => 69 | 5 => 5 | 9 => 9 | n => n, fun | 17 => 2 | n => n⟩
theorem Tryd.laysM284 : Go.Proofs.LaysM.n284 Tryd.prog Tryd.laysM284_ren := {
  mixed := by kernel_rfl
  f129 := Tryd.func93.trans (congrArg some (by kernel_rfl))
  f284 := Tryd.func80.trans (congrArg some (by kernel_rfl))
  f317 := Tryd.func92.trans (congrArg some (by kernel_rfl))
  f318 := Tryd.func94.trans (congrArg some (by kernel_rfl))
  t0 := Tryd.underlying0
  a0 := Tryd.isAgg0
  z0 := Tryd.sizeOf0
  v0 := Tryd.zeroValue0
  t3 := Tryd.underlying3
  a3 := Tryd.isAgg3
  z3 := Tryd.sizeOf3
  v3 := Tryd.zeroValue3
  t4 := Tryd.underlying4
  a4 := Tryd.isAgg4
  z4 := Tryd.sizeOf4
  v4 := Tryd.zeroValue4
  t5 := Tryd.underlying5
  a5 := Tryd.isAgg5
  z5 := Tryd.sizeOf5
  v5 := Tryd.zeroValue5
  t9 := Tryd.underlying9
  a9 := Tryd.isAgg9
  z9 := Tryd.sizeOf9
  v9 := Tryd.zeroValue9
  t46 := Tryd.underlying69
  a46 := Tryd.isAgg69
  z46 := Tryd.sizeOf69
  v46 := Tryd.zeroValue69
  t53 := Tryd.underlying61
  a53 := Tryd.isAgg61
  z53 := Tryd.sizeOf61
  v53 := Tryd.zeroValue61
  t212 := Tryd.underlying116
  a212 := Tryd.isAgg116
  z212 := Tryd.sizeOf116
  v212 := Tryd.zeroValue116
  g17 := by kernel_rfl
  i0 := by kernel_rfl
  i3 := by kernel_rfl
  i4 := by kernel_rfl
  i5 := by kernel_rfl
  i9 := by kernel_rfl
  i46 := by kernel_rfl
  i53 := by kernel_rfl
  i212 := by kernel_rfl
  m17 := by kernel_rfl }
open Go.Lib in
theorem Tryd.internal_strconv_numDigits (u : Nat) (h1 : 1 ≤ u) (h2 : u < 18446744073709551616) (w : World) (htab : Lib.TabIs Tryd.prog w "internal/strconv.uint64pow10" .u64 Lib.pow10Tab) :
    Calls Tryd.prog 80 #[.int .u64 u] w fun e w' => e = .returned (.int .i64 (Lib.nDigits u)) ∧ w' = w := Any.internal_strconv_numDigits Tryd.laysM284 u h1 h2 w htab
def Tryd.lays285_ren : Go.Shelf.Ren := ⟨fun | 285 => 81 | n => n, fun | 37 => 30 | 53 => 61 | 3 => 3 | 4 => 4 | 51 => 27 | 9 => 9 | 5 => 5 | 0 => 0 | n => n, fun | n => n⟩
theorem Tryd.lays285 : Go.Proofs.Lays.n285 Tryd.prog Tryd.lays285_ren := {
  mixed := by kernel_rfl
  f285 := Tryd.func81.trans (congrArg some (by kernel_rfl))
  t0 := Tryd.underlying0
  a0 := Tryd.isAgg0
  z0 := Tryd.sizeOf0
  v0 := Tryd.zeroValue0
  t3 := Tryd.underlying3
  a3 := Tryd.isAgg3
  z3 := Tryd.sizeOf3
  v3 := Tryd.zeroValue3
  t4 := Tryd.underlying4
  a4 := Tryd.isAgg4
  z4 := Tryd.sizeOf4
  v4 := Tryd.zeroValue4
  t5 := Tryd.underlying5
  a5 := Tryd.isAgg5
  z5 := Tryd.sizeOf5
  v5 := Tryd.zeroValue5
  t9 := Tryd.underlying9
  a9 := Tryd.isAgg9
  z9 := Tryd.sizeOf9
  v9 := Tryd.zeroValue9
  t37 := Tryd.underlying30
  a37 := Tryd.isAgg30
  z37 := Tryd.sizeOf30
  v37 := Tryd.zeroValue30
  t51 := Tryd.underlying27
  a51 := Tryd.isAgg27
  z51 := Tryd.sizeOf27
  v51 := Tryd.zeroValue27
  t53 := Tryd.underlying61
  a53 := Tryd.isAgg61
  z53 := Tryd.sizeOf61
  v53 := Tryd.zeroValue61 }
open Go.RowKit Go.Sort Go.Lib in
theorem Tryd.internal_strconv_formatBase10 (blk off cap : Nat) (u : Nat) (d : Array UInt8) (w : World) (hH : Holds (fun (b : UInt8) => Value.int .u8 (b.toNat : Int)) w blk off d) (hu : u < 10 ^ d.size) (hu64 : u < 18446744073709551616) (hsz : d.size < 4611686018427387904) :
    Calls Tryd.prog 81 #[.slice (some ⟨blk, off, none⟩) d.size cap, .int .u64 u] w fun e w' =>
      e = .returned (.tuple #[]) ∧ ∃ (n v' : Nat) (dk : Array UInt8), w' = (putRow (fun (b : UInt8) => Value.int .u8 (b.toNat : Int)) w blk off dk).drewN n ∧ FmtInv d.size u 0 v' dk := Any.internal_strconv_formatBase10 Tryd.lays285 blk off cap u d w hH hu hu64 hsz
def Tryd.laysM171_ren : Go.Shelf.Ren := ⟨fun | 171 => 68 | 243 => 85 | 246 => 99 | 283 => 79 | 284 => 80 | 285 => 81 | 286 => 82 | 129 => 93 | 317 => 92 | 318 => 94 | 319 => 95 | 320 => 96 | 337 => 105 | 338 => 106 | n => n, fun | 3 => 3 | 9 => 9 | 2 => 2 | 4 => 4 | 171 => 101 | 0 => 0 | 53 => 61 | 37 => 30 | 5 => 5 | 173 => 104 | 212 => 116 | 51 => 27 | 20 => 20 | 213 => 117 | 46 => 69 | 232 => 132 | 233 => 133 | n => n, fun | 17 => 2 | 18 => 6 | 19 => 7 | n => n⟩
theorem Tryd.laysM171 : Go.Proofs.LaysM.n171 Tryd.prog Tryd.laysM171_ren := {
  mixed := by kernel_rfl
  f129 := Tryd.func93.trans (congrArg some (by kernel_rfl))
  f171 := Tryd.func68.trans (congrArg some (by kernel_rfl))
  f243 := Tryd.func85.trans (congrArg some (by kernel_rfl))
  f246 := Tryd.func99.trans (congrArg some (by kernel_rfl))
  f283 := Tryd.func79.trans (congrArg some (by kernel_rfl))
  f284 := Tryd.func80.trans (congrArg some (by kernel_rfl))
  f285 := Tryd.func81.trans (congrArg some (by kernel_rfl))
  f286 := Tryd.func82.trans (congrArg some (by kernel_rfl))
  f317 := Tryd.func92.trans (congrArg some (by kernel_rfl))
  f318 := Tryd.func94.trans (congrArg some (by kernel_rfl))
  f319 := Tryd.func95.trans (congrArg some (by kernel_rfl))
  f320 := Tryd.func96.trans (congrArg some (by kernel_rfl))
  f337 := Tryd.func105.trans (congrArg some (by kernel_rfl))
  f338 := Tryd.func106.trans (congrArg some (by kernel_rfl))
  t0 := Tryd.underlying0
  a0 := Tryd.isAgg0
  z0 := Tryd.sizeOf0
  v0 := Tryd.zeroValue0
  t2 := Tryd.underlying2
  a2 := Tryd.isAgg2
  z2 := Tryd.sizeOf2
  v2 := Tryd.zeroValue2
  t3 := Tryd.underlying3
  a3 := Tryd.isAgg3
  z3 := Tryd.sizeOf3
  v3 := Tryd.zeroValue3
  t4 := Tryd.underlying4
  a4 := Tryd.isAgg4
  z4 := Tryd.sizeOf4
  v4 := Tryd.zeroValue4
  t5 := Tryd.underlying5
  a5 := Tryd.isAgg5
  z5 := Tryd.sizeOf5
  v5 := Tryd.zeroValue5
  t9 := Tryd.underlying9
  a9 := Tryd.isAgg9
  z9 := Tryd.sizeOf9
  v9 := Tryd.zeroValue9
  t20 := Tryd.underlying20
  a20 := Tryd.isAgg20
  z20 := Tryd.sizeOf20
  v20 := Tryd.zeroValue20
  t37 := Tryd.underlying30
  a37 := Tryd.isAgg30
  z37 := Tryd.sizeOf30
  v37 := Tryd.zeroValue30
  t46 := Tryd.underlying69
  a46 := Tryd.isAgg69
  z46 := Tryd.sizeOf69
  v46 := Tryd.zeroValue69
  t51 := Tryd.underlying27
  a51 := Tryd.isAgg27
  z51 := Tryd.sizeOf27
  v51 := Tryd.zeroValue27
  t53 := Tryd.underlying61
  a53 := Tryd.isAgg61
  z53 := Tryd.sizeOf61
  v53 := Tryd.zeroValue61
  t171 := Tryd.underlying101
  a171 := Tryd.isAgg101
  z171 := Tryd.sizeOf101
  v171 := Tryd.zeroValue101
  t173 := Tryd.underlying104
  a173 := Tryd.isAgg104
  z173 := Tryd.sizeOf104
  v173 := Tryd.zeroValue104
  t212 := Tryd.underlying116
  a212 := Tryd.isAgg116
  z212 := Tryd.sizeOf116
  v212 := Tryd.zeroValue116
  t213 := Tryd.underlying117
  a213 := Tryd.isAgg117
  z213 := Tryd.sizeOf117
  t232 := Tryd.underlying132
  a232 := Tryd.isAgg132
  z232 := Tryd.sizeOf132
  v232 := Tryd.zeroValue132
  t233 := Tryd.underlying133
  a233 := Tryd.isAgg133
  z233 := Tryd.sizeOf133
  v233 := Tryd.zeroValue133
  g17 := by kernel_rfl
  g18 := by kernel_rfl
  g19 := by kernel_rfl
  i0 := by kernel_rfl
  i2 := by kernel_rfl
  i3 := by kernel_rfl
  i4 := by kernel_rfl
  i5 := by kernel_rfl
  i9 := by kernel_rfl
  i20 := by kernel_rfl
  i37 := by kernel_rfl
  i46 := by kernel_rfl
  i51 := by kernel_rfl
  i53 := by kernel_rfl
  i171 := by kernel_rfl
  i173 := by kernel_rfl
  i212 := by kernel_rfl
  i232 := by kernel_rfl
  i233 := by kernel_rfl
  m17 := by kernel_rfl
  m18 := by kernel_rfl
  m19 := by kernel_rfl }
open Go.RowKit Go.Sort Go.Lib in
theorem Tryd.strconv_Itoa (n : Int) (h0 : -9223372036854775808 ≤ n) (h1 : n ≤ 9223372036854775807) (w : World) (htab : Lib.TabIs Tryd.prog w "internal/strconv.uint64pow10" .u64 Lib.pow10Tab) :
    Calls Tryd.prog 68 #[.int .i64 n] w fun e w' => e = .returned (.string ⟨(Lib.itoa n).toArray⟩) ∧ ∃ k os, w' = grow (w.drewN k) os := Any.strconv_Itoa Tryd.laysM171 n h0 h1 w htab
def Tryd.laysPu14_ren : Go.Shelf.Ren := ⟨fun | 14 => 38 | 16 => 61 | 17 => 62 | 19 => 73 | 20 => 74 | 21 => 75 | 22 => 76 | 23 => 77 | 24 => 78 | 25 => 90 | 27 => 68 | 26 => 91 | 28 => 85 | 29 => 99 | 30 => 79 | 31 => 80 | 32 => 81 | 33 => 82 | 35 => 93 | 34 => 92 | 36 => 94 | 37 => 95 | 38 => 96 | 39 => 105 | 40 => 106 | n => n, fun | 9 => 9 | 3 => 3 | 22 => 61 | 24 => 63 | 25 => 64 | 4 => 4 | 34 => 96 | 5 => 5 | 36 => 69 | 37 => 30 | 0 => 0 | 39 => 98 | 21 => 21 | 44 => 112 | 47 => 106 | 50 => 124 | 48 => 122 | 2 => 2 | 52 => 101 | 55 => 104 | 59 => 116 | 60 => 27 | 20 => 20 | 61 => 117 | 65 => 132 | 66 => 133 | 67 => 89 | n => n, fun | 0 => 0 | 1 => 1 | 2 => 2 | 3 => 6 | 4 => 7 | n => n⟩
theorem Tryd.laysPu14 : Go.Proofs.LaysPu.n14 Tryd.prog Tryd.laysPu14_ren := {
  mixed := by kernel_rfl
  f14 := Tryd.func38.trans (congrArg some (by kernel_rfl))
  f16 := Tryd.func61.trans (congrArg some (by kernel_rfl))
  f17 := Tryd.func62.trans (congrArg some (by kernel_rfl))
  f19 := Tryd.func73.trans (congrArg some (by kernel_rfl))
  f20 := Tryd.func74.trans (congrArg some (by kernel_rfl))
  f21 := Tryd.func75.trans (congrArg some (by kernel_rfl))
  f22 := Tryd.func76.trans (congrArg some (by kernel_rfl))
  f23 := Tryd.func77.trans (congrArg some (by kernel_rfl))
  f24 := Tryd.func78.trans (congrArg some (by kernel_rfl))
  f25 := Tryd.func90.trans (congrArg some (by kernel_rfl))
  f26 := Tryd.func91.trans (congrArg some (by kernel_rfl))
  f27 := Tryd.func68.trans (congrArg some (by kernel_rfl))
  f28 := Tryd.func85.trans (congrArg some (by kernel_rfl))
  f29 := Tryd.func99.trans (congrArg some (by kernel_rfl))
  f30 := Tryd.func79.trans (congrArg some (by kernel_rfl))
  f31 := Tryd.func80.trans (congrArg some (by kernel_rfl))
  f32 := Tryd.func81.trans (congrArg some (by kernel_rfl))
  f33 := Tryd.func82.trans (congrArg some (by kernel_rfl))
  f34 := Tryd.func92.trans (congrArg some (by kernel_rfl))
  f35 := Tryd.func93.trans (congrArg some (by kernel_rfl))
  f36 := Tryd.func94.trans (congrArg some (by kernel_rfl))
  f37 := Tryd.func95.trans (congrArg some (by kernel_rfl))
  f38 := Tryd.func96.trans (congrArg some (by kernel_rfl))
  f39 := Tryd.func105.trans (congrArg some (by kernel_rfl))
  f40 := Tryd.func106.trans (congrArg some (by kernel_rfl))
  t0 := Tryd.underlying0
  a0 := Tryd.isAgg0
  z0 := Tryd.sizeOf0
  v0 := Tryd.zeroValue0
  i0 := by kernel_rfl
  t2 := Tryd.underlying2
  a2 := Tryd.isAgg2
  z2 := Tryd.sizeOf2
  v2 := Tryd.zeroValue2
  i2 := by kernel_rfl
  t3 := Tryd.underlying3
  a3 := Tryd.isAgg3
  z3 := Tryd.sizeOf3
  v3 := Tryd.zeroValue3
  i3 := by kernel_rfl
  t4 := Tryd.underlying4
  a4 := Tryd.isAgg4
  z4 := Tryd.sizeOf4
  v4 := Tryd.zeroValue4
  i4 := by kernel_rfl
  t5 := Tryd.underlying5
  a5 := Tryd.isAgg5
  z5 := Tryd.sizeOf5
  v5 := Tryd.zeroValue5
  i5 := by kernel_rfl
  t9 := Tryd.underlying9
  a9 := Tryd.isAgg9
  z9 := Tryd.sizeOf9
  v9 := Tryd.zeroValue9
  i9 := by kernel_rfl
  t20 := Tryd.underlying20
  a20 := Tryd.isAgg20
  z20 := Tryd.sizeOf20
  v20 := Tryd.zeroValue20
  i20 := by kernel_rfl
  t21 := Tryd.underlying21
  a21 := Tryd.isAgg21
  z21 := Tryd.sizeOf21
  v21 := Tryd.zeroValue21
  i21 := by kernel_rfl
  t22 := Tryd.underlying61
  a22 := Tryd.isAgg61
  z22 := Tryd.sizeOf61
  v22 := Tryd.zeroValue61
  i22 := by kernel_rfl
  t24 := Tryd.underlying63
  a24 := Tryd.isAgg63
  z24 := Tryd.sizeOf63
  v24 := Tryd.zeroValue63
  i24 := by kernel_rfl
  t25 := Tryd.underlying64
  a25 := Tryd.isAgg64
  z25 := Tryd.sizeOf64
  v25 := Tryd.zeroValue64
  i25 := by kernel_rfl
  t34 := Tryd.underlying96
  a34 := Tryd.isAgg96
  z34 := Tryd.sizeOf96
  v34 := Tryd.zeroValue96
  i34 := by kernel_rfl
  c34 := by kernel_rfl
  t36 := Tryd.underlying69
  a36 := Tryd.isAgg69
  z36 := Tryd.sizeOf69
  v36 := Tryd.zeroValue69
  i36 := by kernel_rfl
  t37 := Tryd.underlying30
  a37 := Tryd.isAgg30
  z37 := Tryd.sizeOf30
  v37 := Tryd.zeroValue30
  i37 := by kernel_rfl
  t39 := Tryd.underlying98
  a39 := Tryd.isAgg98
  z39 := Tryd.sizeOf98
  v39 := Tryd.zeroValue98
  i39 := by kernel_rfl
  t44 := Tryd.underlying112
  a44 := Tryd.isAgg112
  z44 := Tryd.sizeOf112
  v44 := Tryd.zeroValue112
  i44 := by kernel_rfl
  t47 := Tryd.underlying106
  a47 := Tryd.isAgg106
  z47 := Tryd.sizeOf106
  v47 := Tryd.zeroValue106
  i47 := by kernel_rfl
  t48 := Tryd.underlying122
  a48 := Tryd.isAgg122
  z48 := Tryd.sizeOf122
  v48 := Tryd.zeroValue122
  i48 := by kernel_rfl
  t50 := Tryd.underlying124
  a50 := Tryd.isAgg124
  z50 := Tryd.sizeOf124
  v50 := Tryd.zeroValue124
  i50 := by kernel_rfl
  t52 := Tryd.underlying101
  a52 := Tryd.isAgg101
  z52 := Tryd.sizeOf101
  v52 := Tryd.zeroValue101
  i52 := by kernel_rfl
  t55 := Tryd.underlying104
  a55 := Tryd.isAgg104
  z55 := Tryd.sizeOf104
  v55 := Tryd.zeroValue104
  i55 := by kernel_rfl
  t59 := Tryd.underlying116
  a59 := Tryd.isAgg116
  z59 := Tryd.sizeOf116
  v59 := Tryd.zeroValue116
  i59 := by kernel_rfl
  t60 := Tryd.underlying27
  a60 := Tryd.isAgg27
  z60 := Tryd.sizeOf27
  v60 := Tryd.zeroValue27
  i60 := by kernel_rfl
  t61 := Tryd.underlying117
  a61 := Tryd.isAgg117
  z61 := Tryd.sizeOf117
  t65 := Tryd.underlying132
  a65 := Tryd.isAgg132
  z65 := Tryd.sizeOf132
  v65 := Tryd.zeroValue132
  i65 := by kernel_rfl
  t66 := Tryd.underlying133
  a66 := Tryd.isAgg133
  z66 := Tryd.sizeOf133
  v66 := Tryd.zeroValue133
  i66 := by kernel_rfl
  t67 := Tryd.underlying89
  a67 := Tryd.isAgg89
  z67 := Tryd.sizeOf89
  v67 := Tryd.zeroValue89
  i67 := by kernel_rfl
  g0 := by kernel_rfl
  m0 := by kernel_rfl
  g1 := by kernel_rfl
  m1 := by kernel_rfl
  g2 := by kernel_rfl
  m2 := by kernel_rfl
  g3 := by kernel_rfl
  m3 := by kernel_rfl
  g4 := by kernel_rfl
  m4 := by kernel_rfl }
def Tryd.lays146_ren : Go.Shelf.Ren := ⟨fun | 146 => 37 | 221 => 60 | 268 => 70 | 138 => 71 | 143 => 72 | 195 => 86 | 197 => 87 | 218 => 88 | 219 => 89 | 260 => 100 | 217 => 101 | 225 => 102 | 224 => 103 | 267 => 104 | 266 => 107 | 314 => 108 | n => n, fun | 9 => 9 | 31 => 59 | 3 => 3 | 4 => 4 | 0 => 0 | 105 => 107 | 21 => 21 | 5 => 5 | 46 => 69 | 119 => 126 | 139 => 129 | 138 => 128 | 146 => 130 | 51 => 27 | n => n, fun | 1 => 3 | 3 => 4 | 4 => 5 | n => n⟩
theorem Tryd.lays146 : Go.Proofs.Lays.n146 Tryd.prog Tryd.lays146_ren := {
  mixed := by kernel_rfl
  f138 := Tryd.func71.trans (congrArg some (by kernel_rfl))
  f143 := Tryd.func72.trans (congrArg some (by kernel_rfl))
  f146 := Tryd.func37.trans (congrArg some (by kernel_rfl))
  f195 := Tryd.func86.trans (congrArg some (by kernel_rfl))
  f197 := Tryd.func87.trans (congrArg some (by kernel_rfl))
  f217 := Tryd.func101.trans (congrArg some (by kernel_rfl))
  f218 := Tryd.func88.trans (congrArg some (by kernel_rfl))
  f219 := Tryd.func89.trans (congrArg some (by kernel_rfl))
  f221 := Tryd.func60.trans (congrArg some (by kernel_rfl))
  f224 := Tryd.func103.trans (congrArg some (by kernel_rfl))
  f225 := Tryd.func102.trans (congrArg some (by kernel_rfl))
  f260 := Tryd.func100.trans (congrArg some (by kernel_rfl))
  f266 := Tryd.func107.trans (congrArg some (by kernel_rfl))
  f267 := Tryd.func104.trans (congrArg some (by kernel_rfl))
  f268 := Tryd.func70.trans (congrArg some (by kernel_rfl))
  f314 := Tryd.func108.trans (congrArg some (by kernel_rfl))
  t0 := Tryd.underlying0
  a0 := Tryd.isAgg0
  z0 := Tryd.sizeOf0
  v0 := Tryd.zeroValue0
  t3 := Tryd.underlying3
  a3 := Tryd.isAgg3
  z3 := Tryd.sizeOf3
  v3 := Tryd.zeroValue3
  t4 := Tryd.underlying4
  a4 := Tryd.isAgg4
  z4 := Tryd.sizeOf4
  v4 := Tryd.zeroValue4
  t5 := Tryd.underlying5
  a5 := Tryd.isAgg5
  z5 := Tryd.sizeOf5
  v5 := Tryd.zeroValue5
  t9 := Tryd.underlying9
  a9 := Tryd.isAgg9
  z9 := Tryd.sizeOf9
  v9 := Tryd.zeroValue9
  t21 := Tryd.underlying21
  a21 := Tryd.isAgg21
  z21 := Tryd.sizeOf21
  v21 := Tryd.zeroValue21
  t31 := Tryd.underlying59
  a31 := Tryd.isAgg59
  z31 := Tryd.sizeOf59
  v31 := Tryd.zeroValue59
  t46 := Tryd.underlying69
  a46 := Tryd.isAgg69
  z46 := Tryd.sizeOf69
  v46 := Tryd.zeroValue69
  t51 := Tryd.underlying27
  a51 := Tryd.isAgg27
  z51 := Tryd.sizeOf27
  v51 := Tryd.zeroValue27
  t105 := Tryd.underlying107
  a105 := Tryd.isAgg107
  z105 := Tryd.sizeOf107
  v105 := Tryd.zeroValue107
  t119 := Tryd.underlying126
  a119 := Tryd.isAgg126
  z119 := Tryd.sizeOf126
  t138 := Tryd.underlying128
  a138 := Tryd.isAgg128
  z138 := Tryd.sizeOf128
  v138 := Tryd.zeroValue128
  t139 := Tryd.underlying129
  a139 := Tryd.isAgg129
  z139 := Tryd.sizeOf129
  v139 := Tryd.zeroValue129
  t146 := Tryd.underlying130
  a146 := Tryd.isAgg130
  z146 := Tryd.sizeOf130
  v146 := Tryd.zeroValue130
  g1 := by kernel_rfl
  g3 := by kernel_rfl
  g4 := by kernel_rfl }
open Go.RowKit Go.Lib in
theorem Tryd.strings_Split (s sep : ByteArray) (m : Int) (w : World) (hs : s.size < 4294967281) (hm : w.cell? ⟨3, 0, none⟩ = some (.int .i64 m)) (h1 : 1 ≤ sep.size) :
    Calls Tryd.prog 37 #[.string s, .string sep] w fun e w' =>
      e = .returned (.slice (some ⟨w.heap.size, 0, none⟩) (Lib.countB s sep + 1) (Lib.countB s sep + 1)) ∧ w' = w.alloc (.cells ((Lib.splitB sep 0 (Lib.countB s sep) s).map Value.string).toArray 9) := Any.strings_Split Tryd.lays146 (by kernel_rfl) s sep m w hs hm h1
def Tryd.laysSlH8_f58_ren : Go.Shelf.Ren := ⟨fun | 8 => 58 | 6 => 69 | n => n, fun | 22 => 23 | 23 => 27 | 25 => 80 | 4 => 4 | 3 => 3 | 0 => 0 | n => n, fun | n => n⟩
theorem Tryd.laysSlH8_f58 : Go.Proofs.SlLaysH.n8 Tryd.prog Tryd.laysSlH8_f58_ren := {
  mixed := by kernel_rfl
  f6 := ⟨Tryd.f69.name, by decide, Tryd.func69.trans (congrArg some (by kernel_rfl))⟩
  f8 := ⟨Tryd.f58.name, by decide, Tryd.func58.trans (congrArg some (by kernel_rfl))⟩
  t0 := Tryd.underlying0
  a0 := Tryd.isAgg0
  z0 := Tryd.sizeOf0
  v0 := Tryd.zeroValue0
  t3 := Tryd.underlying3
  a3 := Tryd.isAgg3
  z3 := Tryd.sizeOf3
  v3 := Tryd.zeroValue3
  t4 := Tryd.underlying4
  a4 := Tryd.isAgg4
  z4 := Tryd.sizeOf4
  v4 := Tryd.zeroValue4
  t22 := Tryd.underlying23
  a22 := Tryd.isAgg23
  z22 := Tryd.sizeOf23
  v22 := Tryd.zeroValue23
  a23 := Tryd.isAgg27
  z23 := Tryd.sizeOf27
  t25 := Tryd.underlying80
  a25 := Tryd.isAgg80
  z25 := Tryd.sizeOf80
  v25 := Tryd.zeroValue80 }
open Go.RowKit Go.Lib in
theorem Tryd.slices_ContainsFunc {α : Type} [Inhabited α] (enc : α → Value) (p : α → Bool) (g : Nat) (lb : Array Value) (eg : ∀ args w, (callFunc g args).run Tryd.prog w = .ok (.enter g args) w) (b off n c : Nat) (zs : List α) (w : World) (hp : PredAt Tryd.prog g lb enc p w) (hz : n ≤ zs.length) (hbig : n ≤ 9223372036854775807) (hc : ∀ j, j < zs.length → w.cell? ⟨b, off + j, none⟩ = some (enc zs[j]!)) :
    Calls Tryd.prog 58 #[.slice (some ⟨b, off, none⟩) n c, .func (.func g) #[] lb] w fun e w' => e = .returned (.bool ((zs.take n).any p)) ∧ ∃ q, w' = w.drewN q := AnyE.slices_ContainsFunc Tryd.laysSlH8_f58 enc p g lb eg b off n c zs w hp hz hbig hc
open Go.RowKit Go.Lib in
theorem Tryd.slices_ContainsFunc_empty {α : Type} [Inhabited α] (a : Option Addr) (c : Nat) (fv : Value) (w : World) :
    Calls Tryd.prog 58 #[.slice a 0 c, fv] w fun e w' => e = .returned (.bool false) ∧ w' = w := AnyE.slices_ContainsFunc_empty Tryd.laysSlH8_f58 a c fv w
end Go.Proofs
end

section
/- The library's FormatUint at base 10, strings.Join and strings.Split, strconv.ParseUint at 32 bits, in the form of this place's contracts. After the shelf's worked proofs of FormatInt and AppendUint. -/
namespace Go.Proofs.YtjoncjnmhhimhaaDoor.Hand
set_option linter.unusedVariables false
set_option linter.unusedSimpArgs false
open Go.RowKit Go.Proofs.YtjoncjnmhhimhaaDoorW.PrintWords Go.Proofs.YtjoncjnmhhimhaaDoorW.PrintLast Go.Proofs.YtjoncjnmhhimhaaDoorW.PrintMore
open Go.Shelf Go.Sort Go.Lib

def decB (u : Nat) : ByteArray := ⟨(Lib.decDigits u).toArray⟩
def strconv_FormatUint.f (a0 a1 : Int) : Option ByteArray := if 0 ≤ a0 ∧ a0 < 18446744073709551616 ∧ a1 = 10 then some (decB a0.toNat) else none
def strings_Join.f (l0 : List ByteArray) (a1 : ByteArray) : Option ByteArray :=
  if l0.length ≤ 140737488355328 ∧ (Lib.join (l0.map (·.data.toList)) a1.data.toList).length ≤ 140737488355328 then some ⟨(Lib.join (l0.map (·.data.toList)) a1.data.toList).toArray⟩ else none

set_option maxHeartbeats 2000000 in
set_option maxRecDepth 100000 in
theorem fmtU (u : Nat) (hu64 : u < 18446744073709551616) (w : World) (HLd : LaidOk w) :
    Calls Tryd.prog 63 #[.int .u64 u, .int .i64 10] w fun e w' => e = .returned (.string (decB u)) ∧ Below w.heap.size w w' := by
  unfold decB
  by_cases hs : u < 100
  · have g1 : decide ((u : Int) < 100) = true := decide_eq_true (by omega)
    have g2 : decide (u < 100) = true := decide_eq_true hs
    go_enter Tryd.func63, Tryd.ntmps63
    go_wp2_with (go_at_call 79; refine (Tryd.internal_strconv_small u hs _).mono ?_; rintro e w' ⟨rfl, rfl⟩)
    go_ret
    exact ⟨rfl, Below.refl _ _⟩
  · have htab := HLd.pow
    have hu1 : 1 ≤ u := by omega
    have hnd20 : Lib.nDigits u ≤ 20 := by have := Lib.numDigits_eq u hu1 hu64; split at this <;> omega
    have hal : Tryd.prog.arrayLen 101 = 24 := by kernel_rfl
    have hsl : ∀ W, (Instr.sliceAt 101 (.pointer (some ⟨w.heap.size, 0, none⟩)) none (some (.int .i64 (Lib.nDigits u : Int))) none).run Tryd.prog W = .ok (.slice (some ⟨w.heap.size, 0, none⟩) (Lib.nDigits u) 24) W := fun W => by
      rw [run_sliceAt_array_h W 101 ⟨w.heap.size, 0, none⟩ (by kernel_rfl) .i64 (Lib.nDigits u : Int) (by omega) (by rw [hal]; omega)]
      rw [hal]
      rfl
    have hH0 := Lib.holds_zero0 w 101 (Lib.nDigits u) (by omega)
    have hfmt := Tryd.internal_strconv_formatBase10 w.heap.size 0 24 u (Array.replicate (Lib.nDigits u) 0) (w.alloc (.cells Lib.zeros24 101)) hH0 (by rw [Array.size_replicate]; exact Lib.lt_pow_nDigits u) hu64 (by rw [Array.size_replicate]; omega)
    rw [Array.size_replicate] at hfmt
    have HH0 := Lib.hid hH0
    have iu : (100 : Int) ≤ (u : Int) := by omega
    have g1 : decide ((u : Int) < 100) = false := decide_eq_false (by omega)
    have g2 : decide (u < 100) = false := decide_eq_false hs
    clear hH0 hal
    go_enter Tryd.func63, Tryd.ntmps63
    go_wp2_with (first
      | (go_at_call 80; refine (Tryd.internal_strconv_numDigits u hu1 hu64 _ (Lib.tabIs_alloc htab _)).mono ?_; rintro e w' ⟨rfl, rfl⟩))
    go_at_call 81
    refine hfmt.mono ?_
    rintro e w' ⟨rfl, k, v', dk, rfl, hF⟩
    have hcv : (convert 30 9 (.slice (some ⟨w.heap.size, 0, none⟩) (Lib.nDigits u) 24)).run Tryd.prog ((putRow (fun (b : UInt8) => Value.int .u8 (b.toNat : Int)) (w.alloc (.cells Lib.zeros24 101)) w.heap.size 0 dk).drewN k) = .ok (.string ⟨(Lib.decDigits u).toArray⟩) ((putRow (fun (b : UInt8) => Value.int .u8 (b.toNat : Int)) (w.alloc (.cells Lib.zeros24 101)) w.heap.size 0 dk).drewN k) := by
      have h := run_convert_bytes_back (P := Tryd.prog) ((putRow (fun (b : UInt8) => Value.int .u8 (b.toNat : Int)) (w.alloc (.cells Lib.zeros24 101)) w.heap.size 0 dk).drewN k) 30 9 5 ⟨w.heap.size, 0, none⟩ 24 (Lib.decDigits u) Tryd.underlying30 Tryd.underlying5 Tryd.underlying9 (fun j hj => by
        rw [Lib.row_is_numeral hF j hj, Lib.add_plain, World.cell?_drewN]
        exact cell?_putRow (fun (b : UInt8) => Value.int .u8 (b.toNat : Int)) _ w.heap.size 0 _ dk HH0.out (by rw [hF.size, Array.size_replicate]) j (by rw [hF.size]; rw [Lib.decDigits_length] at hj; exact hj))
      rw [Lib.decDigits_length] at h
      exact h
    go_wp2
    go_ret
    obtain ⟨os, eo⟩ := Lib.fin_at w (.cells Lib.zeros24 101) dk k 0
    refine ⟨rfl, ?_⟩
    rw [eo]
    exact Lib.below_grow _ w (Nat.le_refl _) k os

theorem strconv_FormatUint.calls (a0 a1 : Int) (r : ByteArray) (w : World) (HLd : LaidOk w) (h : strconv_FormatUint.f a0 a1 = some r) :
    Calls Tryd.prog 40 #[.int .u64 a0, .int .i64 a1] w fun e w' => e = .returned (.string r) ∧ Below w.heap.size w w' := by
  unfold strconv_FormatUint.f at h
  by_cases hc : 0 ≤ a0 ∧ a0 < 18446744073709551616 ∧ a1 = 10
  · rw [if_pos hc] at h
    obtain ⟨h0, h1, rfl⟩ := hc
    obtain rfl := Option.some.inj h
    clear h
    obtain ⟨u, rfl⟩ := Int.eq_ofNat_of_zero_le h0
    rw [Int.toNat_natCast]
    have hf := fmtU u (by omega)
    go_enter Tryd.func40, Tryd.ntmps40
    go_wp2_with (go_at_call 63; refine (hf _ HLd).mono ?_; rintro e w' ⟨rfl, hb⟩)
    go_ret
    exact ⟨rfl, hb⟩
  · rw [if_neg hc] at h
    cases h

theorem C_strs {w : World} {A : Option Addr} {l : List ByteArray} (h : Kd.C Kd.string w A l.length l) (h0 : 0 < l.length) :
    ∃ b off, A = some ⟨b, off, none⟩ ∧ l.length ≤ 9223372036854775807 ∧ ∀ j x, l[j]? = some x → w.cell? ⟨b, off + j, none⟩ = some (.string x) := by
  obtain ⟨_, h2, h3⟩ := Kd.reads_of_C (d := ByteArray.empty) h
  obtain ⟨ad, e, hc⟩ := h3 h0
  subst e
  obtain ⟨b, off, spot⟩ := ad
  have hspot : spot = none := by simpa [Addr.add] using World.cell?_spot (hc 0 h0)
  subst hspot
  refine ⟨b, off, rfl, h2, fun j x hx => ?_⟩
  have hj := (List.getElem?_eq_some_iff.1 hx).1
  have := hc j hj
  rw [add_plain'] at this
  rw [this]
  simp [List.getD, hx]

theorem strings_Join.calls (A0 : Option Addr) (c0 : Nat) (l0 : List ByteArray) (a1 : ByteArray) (r : ByteArray) (w : World) (hr0 : Kd.C Kd.string w A0 l0.length l0) (hc0 : l0.length ≤ c0) (h : strings_Join.f l0 a1 = some r) :
    Calls Tryd.prog 41 #[.slice A0 l0.length c0, .string a1] w fun e w' => e = .returned (.string r) ∧ Below w.heap.size w w' := by
  unfold strings_Join.f at h
  by_cases hc : l0.length ≤ 140737488355328 ∧ (Lib.join (l0.map (·.data.toList)) a1.data.toList).length ≤ 140737488355328
  · rw [if_pos hc] at h
    obtain rfl := Option.some.inj h
    by_cases h0 : l0.length = 0
    · have : l0 = [] := List.eq_nil_of_length_eq_zero h0
      subst this
      exact (Tryd.strings_Join_none A0 c0 a1 w).mono fun e w' ⟨he, hw⟩ => ⟨he, by subst hw; exact Below.refl _ _⟩
    · obtain ⟨b, off, rfl, h2, hcc⟩ := C_strs hr0 (by omega)
      exact Tryd.strings_Join b off c0 l0 a1 w hcc (World.block_lt_of_cell? w ⟨b, off + 0, none⟩ (hcc 0 l0[0] (by simp))) hc.1 hc0 hc.2
  · rw [if_neg hc] at h
    cases h

/-- An error value: none, or some value of some type. -/
def ErrIs : Option Int → Value → Prop
  | none, ev => ev = .nilIface
  | some _, ev => ∃ tp p, ev = .iface tp p
def strconv_ParseUint.f (a0 : ByteArray) (a1 a2 : Int) : Option (Int × Option Int) :=
  if a0.size ≤ 281474976710656 ∧ a1 = 10 ∧ a2 = 32 then
    match Lib.parseUintB 32 a0.data.toList with
    | .ok u => some ((u : Int), none)
    | .range => some (4294967295, some 1)
    | _ => some (0, some 0)
  else none
theorem strconv_ParseUint.calls (a0 : ByteArray) (a1 a2 : Int) (r1 : Int) (r2 : Option Int) (w : World) (HLd : LaidOk w) (h : strconv_ParseUint.f a0 a1 a2 = some (r1, r2)) :
    Calls Tryd.prog 38 #[.string a0, .int .i64 a1, .int .i64 a2] w fun e w' => ∃ ev, e = .returned (.tuple #[.int .u64 r1, ev]) ∧ ErrIs r2 ev ∧ Below w.heap.size w w' := by
  unfold strconv_ParseUint.f at h
  by_cases hc : a0.size ≤ 281474976710656 ∧ a1 = 10 ∧ a2 = 32
  · rw [if_pos hc] at h
    obtain ⟨hs, rfl, rfl⟩ := hc
    rcases hp : Lib.parseUintB 32 a0.data.toList with u | _ | _
    · rw [hp] at h
      simp only [Option.some.injEq, Prod.mk.injEq] at h
      obtain ⟨rfl, rfl⟩ := h
      refine (Any.strconv_ParseUint_10_at32_ok Tryd.laysPu14 a0 (by omega) u hp w).mono ?_
      rintro e w' ⟨rfl, hw⟩
      refine ⟨_, rfl, rfl, ?_⟩
      rcases hw with rfl | rfl
      · exact Below.refl _ _
      · exact Lib.bytesWorld_below _ _ _
    · rw [hp] at h
      simp only [Option.some.injEq, Prod.mk.injEq] at h
      obtain ⟨rfl, rfl⟩ := h
      obtain ⟨tp, p, hv⟩ := HLd.syn
      refine (Any.strconv_ParseUint_10_at32_syntax_var Tryd.laysPu14 a0 hs hp tp p w hv).mono ?_
      rintro e w' ⟨N, rfl, _, _, hb⟩
      exact ⟨_, rfl, ⟨_, _, rfl⟩, hb⟩
    · rw [hp] at h
      simp only [Option.some.injEq, Prod.mk.injEq] at h
      obtain ⟨rfl, rfl⟩ := h
      obtain ⟨tp, p, hv⟩ := HLd.rng
      refine (Any.strconv_ParseUint_10_at32_range_var Tryd.laysPu14 a0 hs hp tp p w hv).mono ?_
      rintro e w' ⟨N, rfl, _, _, hb⟩
      exact ⟨_, rfl, ⟨_, _, rfl⟩, hb⟩
  · rw [if_neg hc] at h
    cases h

/-- What Split leaves is a row of the call's own. -/
def strings_Split.f (a0 a1 : ByteArray) : Option (List ByteArray) := if a0.size < 4294967281 ∧ 1 ≤ a1.size then some (Lib.splitB a1 0 (Lib.countB a0 a1) a0) else none
theorem strings_Split.calls (a0 a1 : ByteArray) (r : List ByteArray) (w : World) (HLd : LaidOk w) (h : strings_Split.f a0 a1 = some r) :
    Calls Tryd.prog 37 #[.string a0, .string a1] w fun e w' => ∃ v0_ : Value, e = .returned v0_ ∧ Kd.R Kd.string 9 w' w.heap.size (fun _ => True) v0_ r ∧ Below w.heap.size w w' := by
  unfold strings_Split.f at h
  by_cases hc : a0.size < 4294967281 ∧ 1 ≤ a1.size
  · rw [if_pos hc] at h
    obtain rfl := Option.some.inj h
    obtain ⟨m, hm⟩ := HLd.max
    refine (Tryd.strings_Split a0 a1 m w hc.1 hm hc.2).mono ?_
    rintro e w' ⟨rfl, rfl⟩
    refine ⟨_, rfl, ?_, below_alloc (Below.refl _ _) _⟩
    have hlen := Lib.splitB_all a1 hc.2 0 _ a0 rfl
    have hle := Lib.countB_le a1 hc.2 a0.size a0 (Nat.le_refl _)
    rw [← hlen]
    exact Kd.R_of_own (enc := Value.string) (h1 := fun _ => rfl) (own_lit_of (enc := Value.string) w w.heap.size 9 (Lib.splitB a1 0 (Lib.countB a0 a1) a0) (Nat.le_refl _) (by omega)) (fun _ _ => trivial)
  · rw [if_neg hc] at h
    cases h

end Go.Proofs.YtjoncjnmhhimhaaDoor.Hand
end

section
/- The walk of oid.Valid: what the program's test on a list comes to. -/
namespace Go.Proofs.YtjoncjnmhhimhaaDoor.Hand
set_option linter.unusedVariables false
set_option linter.unusedSimpArgs false
open Go.RowKit Go.Proofs.YtjoncjnmhhimhaaDoorW.PrintWords Go.Proofs.YtjoncjnmhhimhaaDoorW.PrintLast Go.Proofs.YtjoncjnmhhimhaaDoorW.PrintMore
open Go.Proofs.YtjoncjnmhhimhaaDoor.Oid Go.Shelf

/-- The test on a number, a function value. -/
theorem valid1 (w : World) : PredAt Tryd.prog 59 #[] (Value.int .u32) (fun n => decide (4294967216 ≤ n)) w := fun W n _ => by
  unfold FnGives
  go_enter Tryd.func59, Tryd.ntmps59
  go_wp2
  go_ret
  exact ⟨rfl, 0, rfl⟩

theorem contains_any (A0 : Option Addr) (c0 : Nat) (l0 : List Int) (w : World) (hr0 : Kd.C (Kd.int .u32) w A0 l0.length l0) :
    Calls Tryd.prog 58 #[.slice A0 l0.length c0, .func (.func 59) #[] #[]] w fun e w' => e = .returned (.bool (l0.any fun n => decide (4294967216 ≤ n))) ∧ Drawn0 w w' := by
  by_cases h0 : l0.length = 0
  · have : l0 = [] := List.eq_nil_of_length_eq_zero h0
    subst this
    exact (Tryd.slices_ContainsFunc_empty (α := Int) A0 c0 _ w).mono fun e w' ⟨he, hw⟩ => ⟨he, by subst hw; exact Drawn0.refl _⟩
  · obtain ⟨b, off, rfl, h2, hc⟩ := C_ints hr0 (by omega)
    refine (Tryd.slices_ContainsFunc (Value.int .u32) (fun n => decide (4294967216 ≤ n)) 59 #[] (enters_of Tryd.func59 (by kernel_rfl) rfl) b off l0.length c0 l0 w (valid1 w) (Nat.le_refl _) h2 hc).mono fun e w' ⟨he, q, hw⟩ => ⟨?_, ?_⟩
    · rw [he, List.take_length]
    · subst hw
      exact (Drawn0.refl w).step q

theorem valid_no {l : List Int} (h : l.length < 2 ∨ 20 < l.length ∨ 2 < l.getD 0 0 ∨ (l.getD 0 0 < 2 ∧ 40 ≤ l.getD 1 0)) : validB l = false := by
  unfold validB
  simp only [Bool.and_eq_false_iff, Bool.or_eq_false_iff, decide_eq_false_iff_not]
  omega
theorem valid_yes {l : List Int} (h1 : 2 ≤ l.length) (h2 : l.length ≤ 20) (h3 : l.getD 0 0 ≤ 2) (h4 : 2 ≤ l.getD 0 0 ∨ l.getD 1 0 < 40) : validB l = !(l.any fun n => decide (4294967216 ≤ n)) := by
  unfold validB
  rw [decide_eq_true h1, decide_eq_true h2, decide_eq_true h3]
  have : (decide (2 ≤ l.getD 0 0) || decide (l.getD 1 0 < 40)) = true := by simpa using h4
  rw [this, List.not_any_eq_all_not]
  simp only [Bool.true_and]
  congr 1
  funext n
  by_cases hn : n < 4294967216
  · rw [decide_eq_true hn, decide_eq_false (by omega)]; rfl
  · rw [decide_eq_false hn, decide_eq_true (by omega)]; rfl

set_option maxHeartbeats 2000000 in
theorem oid_Valid.calls (A0 : Option Addr) (c0 : Nat) (l0 : List Int) (r : Bool) (w : World) (hr0 : Kd.C (Kd.int .u32) w A0 l0.length l0) (hc0 : l0.length ≤ c0) (h : oid_Valid.f l0 = some r) :
    Calls Tryd.prog 36 #[.slice A0 l0.length c0] w fun e w' => e = .returned (.bool r) ∧ Drawn0 w w' := by
  obtain rfl := Option.some.inj h
  clear h
  by_cases h1 : l0.length < 2
  · rw [valid_no (.inl h1)]
    have g1 : decide ((l0.length : Int) < 2) = true := decide_eq_true (by omega)
    have g2 : decide (l0.length < 2) = true := decide_eq_true h1
    clear h1 hr0
    go_enter Tryd.func36, Tryd.ntmps36
    go_wp2
    go_ret
    exact ⟨rfl, Drawn0.refl _⟩
  · have g1 : decide ((l0.length : Int) < 2) = false := decide_eq_false (by omega)
    have g2 : decide (l0.length < 2) = false := decide_eq_false h1
    by_cases h2 : 20 < l0.length
    · rw [valid_no (.inr (.inl h2))]
      have g3 : decide (20 < (l0.length : Int)) = true := decide_eq_true (by omega)
      have g4 : decide (20 < l0.length) = true := decide_eq_true h2
      clear h1 h2 hr0
      go_enter Tryd.func36, Tryd.ntmps36
      go_wp2
      go_ret
      exact ⟨rfl, Drawn0.refl _⟩
    · have g3 : decide (20 < (l0.length : Int)) = false := decide_eq_false (by omega)
      have g4 : decide (20 < l0.length) = false := decide_eq_false h2
      obtain ⟨b, off, rfl, hl, hc⟩ := C_intsD hr0 (by omega)
      have x0 : w.cell? ⟨b, off, none⟩ = some (.int .u32 (l0.getD 0 0)) := hc 0 (by omega)
      have x1 : w.cell? ⟨b, off + 1, none⟩ = some (.int .u32 (l0.getD 1 0)) := hc 1 (by omega)
      have q0 : (0 < l0.length) = True := eq_true (by omega)
      have q1 : (1 < l0.length) = True := eq_true (by omega)
      have q0' : (0 < (l0.length : Int)) = True := eq_true (by omega)
      have q1' : (1 < (l0.length : Int)) = True := eq_true (by omega)
      have Y := Lib.hid (@valid_yes l0)
      have Z := Lib.hid (@valid_no l0)
      have H1 := Lib.hid h1
      have H2 := Lib.hid h2
      have HR := Lib.hid hr0
      clear hc h1 h2 hr0
      generalize l0.getD 0 0 = a at *
      generalize l0.getD 1 0 = b1 at *
      by_cases h3 : 2 < a
      · rw [Z.out (.inr (.inr (.inl h3)))]
        have g5 : decide (2 < a) = true := decide_eq_true h3
        clear h3
        go_enter Tryd.func36, Tryd.ntmps36
        go_wp2
        go_ret
        exact ⟨rfl, Drawn0.refl _⟩
      · have g5 : decide (2 < a) = false := decide_eq_false h3
        by_cases h4 : a < 2
        · have g6 : decide (a < 2) = true := decide_eq_true h4
          by_cases h5 : 40 ≤ b1
          · rw [Z.out (.inr (.inr (.inr ⟨h4, h5⟩)))]
            have g7 : decide (40 ≤ b1) = true := decide_eq_true h5
            clear h3 h4 h5
            go_enter Tryd.func36, Tryd.ntmps36
            go_wp2
            go_ret
            exact ⟨rfl, Drawn0.refl _⟩
          · rw [Y.out (by have := H1.out; omega) (by have := H2.out; omega) (by omega) (.inr (by omega))]
            have g7 : decide (40 ≤ b1) = false := decide_eq_false h5
            clear h3 h4 h5
            go_enter Tryd.func36, Tryd.ntmps36
            go_wp2_with (go_at_call 58; refine (contains_any _ c0 l0 _ HR.out).mono ?_; rintro e w' ⟨rfl, ⟨nd, rfl⟩⟩)
            go_ret
            exact ⟨rfl, (Drawn0.refl w).step nd⟩
        · rw [Y.out (by have := H1.out; omega) (by have := H2.out; omega) (by omega) (.inl (by omega))]
          have g6 : decide (a < 2) = false := decide_eq_false h4
          clear h3 h4
          go_enter Tryd.func36, Tryd.ntmps36
          go_wp2_with (go_at_call 58; refine (contains_any _ c0 l0 _ HR.out).mono ?_; rintro e w' ⟨rfl, ⟨nd, rfl⟩⟩)
          go_ret
          exact ⟨rfl, (Drawn0.refl w).step nd⟩

end Go.Proofs.YtjoncjnmhhimhaaDoor.Hand
end

section
-- Written by the kit's print.py, driven by this place's wip/tools/myprint.py. Not trusted: Lean checks it.
namespace Go.Proofs.YtjoncjnmhhimhaaDoor.PText
open Go.RowKit Go.Proofs.YtjoncjnmhhimhaaDoor.Hand Go.Proofs.YtjoncjnmhhimhaaDoorW.PrintWords Go.Proofs.YtjoncjnmhhimhaaDoorW.PrintLast Go.Proofs.YtjoncjnmhhimhaaDoorW.PrintMore
attribute [local go_sem] max2_int min2_int max_two min_two max_three min_three max_four min_four   -- for this text's walks alone
set_option linter.unusedVariables false
set_option linter.unusedSimpArgs false



def errW : Option Int → Value
  | none => .nilIface
  | some c => .iface 0 (.int .i64 c)
theorem errW_none : errW none = .nilIface := rfl
theorem errW_some (c : Int) : errW (some c) = .iface 0 (.int .i64 c) := rfl

theorem info9 : (Tryd.prog.info? 9).map (fun i => (i.zero, i.size, i.bytes)) = some (some (.string ⟨#[]⟩), 1, 16) := by kernel_rfl
-- the values' own types
def rd_L1 (xs : List (List Int)) (i : Int) : (List Int) := xs.getD i.toNat ([] : List Int)
theorem at_L1 {w : World} {A : Option Addr} {n : Nat} {xs : List (List Int)} (h : Kd.C (Kd.slice 27 (Kd.int .u32)) w A n xs) (i : Int) (h0 : 0 ≤ i) (h1 : i < n) : ∃ ad A0 c0, A = some ad ∧ w.cell? (ad.add i.toNat) = some (.slice A0 (rd_L1 xs i).length c0) ∧ (rd_L1 xs i).length ≤ c0 ∧ (Kd.int .u32).C w A0 (rd_L1 xs i).length (rd_L1 xs i) := by
  obtain ⟨ad, c, e, _, hK, hc0⟩ := Kd.C_get h ([] : List Int) i h0 h1
  have hc : ∀ j u, c[j]? = some u → w.cell? (ad.add (i.toNat * 1 + j)) = some u := hc0
  obtain ⟨A0, c0, rfl, l0, g0⟩ := hK
  exact ⟨ad, A0, c0, e, by have hq := hc 0 _ rfl; rwa [Nat.mul_one, Nat.add_zero] at hq, l0, g0⟩

def rd_L6 (xs : List (List ByteArray)) (i : Int) : (List ByteArray) := xs.getD i.toNat ([] : List ByteArray)
theorem at_L6 {w : World} {A : Option Addr} {n : Nat} {xs : List (List ByteArray)} (h : Kd.C (Kd.slice 9 Kd.string) w A n xs) (i : Int) (h0 : 0 ≤ i) (h1 : i < n) : ∃ ad A0 c0, A = some ad ∧ w.cell? (ad.add i.toNat) = some (.slice A0 (rd_L6 xs i).length c0) ∧ (rd_L6 xs i).length ≤ c0 ∧ Kd.string.C w A0 (rd_L6 xs i).length (rd_L6 xs i) := by
  obtain ⟨ad, c, e, _, hK, hc0⟩ := Kd.C_get h ([] : List ByteArray) i h0 h1
  have hc : ∀ j u, c[j]? = some u → w.cell? (ad.add (i.toNat * 1 + j)) = some u := hc0
  obtain ⟨A0, c0, rfl, l0, g0⟩ := hK
  exact ⟨ad, A0, c0, e, by have hq := hc 0 _ rfl; rwa [Nat.mul_one, Nat.add_zero] at hq, l0, g0⟩

end Go.Proofs.YtjoncjnmhhimhaaDoor.PText
namespace Go.Proofs.YtjoncjnmhhimhaaDoor.PText
open Go.RowKit Go.Proofs.YtjoncjnmhhimhaaDoor.Hand Go.Proofs.YtjoncjnmhhimhaaDoorW.PrintWords Go.Proofs.YtjoncjnmhhimhaaDoorW.PrintLast Go.Proofs.YtjoncjnmhhimhaaDoorW.PrintMore
attribute [local go_sem] max2_int min2_int max_two min_two max_three min_three max_four min_four   -- for this text's walks alone
set_option linter.unusedVariables false
set_option linter.unusedSimpArgs false

-- BY CONTRACT: function 36 (oid_Valid)

-- BY CONTRACT: function 40 (strconv_FormatUint)

-- BY CONTRACT: function 41 (strings_Join)

/-! ### oid_Text: function 16 -/
def oid_Text.l0 : Nat → List ByteArray → List Int → Int → Int → Option (ByteArray)
  | 0, _, _, _, _ => none
  | k + 1, x3, x9, x10, x11 => if x11 < x10 then (if 0 ≤ x11 then (if x11 < (x9.length : Int) then ((strconv_FormatUint.f (IntKind.u64.wrap (rd x9 x11)) 10).bind fun t103 => (if x3.length < 8796093022208 then (oid_Text.l0 k (x3 ++ [t103]) x9 x10 (wrap64 (x11 + 1))) else (none))) else (none)) else (none)) else ((strings_Join.f x3 (⟨#[46]⟩ : ByteArray)).bind fun t107 => (some t107))
def oid_Text.f (k : Nat) (l0 : List Int) : Option (ByteArray) := (oid_Valid.f l0).bind fun t101 => (if t101 = true then (oid_Text.l0 k ([] : List ByteArray) l0 (l0.length : Int) 0) else (some (⟨#[]⟩ : ByteArray)))
theorem oid_Text.mono_l : ∀ k, (∀ y0 y1 y2 y3, LeO (oid_Text.l0 k y0 y1 y2 y3) (oid_Text.l0 (k + 1) y0 y1 y2 y3))
  | 0 => fun _ _ _ _ r h => by simp [oid_Text.l0] at h
  | k + 1 => by
    have ih0 := oid_Text.mono_l k
    · intro y0 y1 y2 y3
      unfold oid_Text.l0
      repeat' first
      | (with_reducible exact ih0 _ _ _ _)
      | (with_reducible exact LeO.refl _)
      | (with_reducible exact LeO.none _)
      | (with_reducible refine LeO.ite ?_ ?_)
      | (with_reducible refine LeO.bind ?_ (fun _ => ?_))
      | exact ih0 _ _ _ _
      | exact LeO.none _
      | refine LeO.ite ?_ ?_
      | refine LeO.bind ?_ (fun _ => ?_)
theorem oid_Text.mono : ∀ a0 k, LeO (oid_Text.f k a0) (oid_Text.f (k + 1) a0) := by
  intro a0 k
  have ih0 := oid_Text.mono_l k
  unfold oid_Text.f
  repeat' first
      | (with_reducible exact ih0 _ _ _ _)
      | (with_reducible exact LeO.refl _)
      | (with_reducible exact LeO.none _)
      | (with_reducible refine LeO.ite ?_ ?_)
      | (with_reducible refine LeO.bind ?_ (fun _ => ?_))
      | exact ih0 _ _ _ _
      | exact LeO.none _
      | refine LeO.ite ?_ ?_
      | refine LeO.bind ?_ (fun _ => ?_)
set_option maxHeartbeats 8000000 in
set_option maxRecDepth 100000 in
theorem oid_Text.calls (k : Nat) (A0 : Option Addr) (c0 : Nat) (l0 : List Int) (r : ByteArray) (w : World) (HLd : LaidOk w) (hr0 : Kd.C (Kd.int .u32) w A0 l0.length l0) (hc0 : l0.length ≤ c0) (h : oid_Text.f k l0 = some r) :
    Calls Tryd.prog 16 #[.slice A0 l0.length c0] w fun e w' => e = .returned (.string r) ∧ Below w.heap.size w w' := by
  have HR0 := Aside0.mk hr0
  have HC0 := Aside0.mk hc0
  clear hr0 hc0
  have HB := Aside0.mk (Below.refl w.heap.size w)
  have H : ((oid_Valid.f l0).bind fun t101 => (if t101 = true then (oid_Text.l0 k ([] : List ByteArray) l0 (l0.length : Int) 0) else (some (⟨#[]⟩ : ByteArray)))) = some r := h
  clear h
  replace H := Option.bind_eq_some_iff.mp H
  obtain ⟨t101, A20, H⟩ := H
  replace H : (if t101 = true then (oid_Text.l0 k ([] : List ByteArray) l0 (l0.length : Int) 0) else (some (⟨#[]⟩ : ByteArray))) = some r := H
  have A2 := Aside0.mk A20
  clear A20
  by_cases c3 : t101 = true
  · subst c3
    have H1 : (oid_Text.l0 k ([] : List ByteArray) l0 (l0.length : Int) 0) = some r := by rw [if_pos rfl] at H; exact H
    clear H
    have H := H1
    clear H1
    have H' := Aside0.mk H
    clear H
    go_enter Tryd.func16, Tryd.ntmps16
    go_wp2_with (first | ((with_reducible refine gate_callee (f := 36) rfl ?_); refine goesL_ (some 7) rfl rfl Tryd.func36 (by kernel_rfl) rfl #[.slice A0 l0.length c0] rfl (by (try simp only [List.map_toArray, List.map_cons, List.map_nil]); first | done | rfl | (simp only [List.length_drop, List.length_take]; rfl)) ?_; (with_reducible refine (oid_Valid.calls _ _ l0 true _ ?side1 ?side2 A2.out).mono ?_); (case side1 => repeat (first | exact HR0.out | (with_reducible refine Kd.C_alloc ?_ _) | (with_reducible refine Kd.C_drewN ?_ _) | (with_reducible refine Kd.C_drew ?_))); (case side2 => exact HC0.out); rintro e w' ⟨rfl, ⟨nd, rfl⟩⟩; refine ⟨_, rfl, ?_⟩))
    go_loopg [3, 11] k (fun kq v3 v11 w' => ∃ (x3_1 : List ByteArray) (x11_1 : Int), v11 = .int .i64 x11_1 ∧ Aside0 (oid_Text.l0 kq x3_1 l0 (l0.length : Int) x11_1 = some r) ∧ Aside0 (kq ≤ k) ∧ Aside0 (Kd.R Kd.string 9 w' w.heap.size (fun _ => True) v3 x3_1) ∧ Aside0 (Below w.heap.size w w'))
    case atStart => exact ⟨(([] : List ByteArray)), (0), (by first | rfl | (simp; done) | (simp [*]; done)), H', ⟨Nat.le_refl _⟩, ⟨by first | exact Kd.R_nil _ _ _ _ _ | exact Kd.N_nil _ _ _ _ _ | exact Kd.V_nil _ _ _ _ _ | exact Kd.Q_nil _ _ _ _ _ | exact Kd.S_nil _ _ _ _ _⟩, ⟨by repeat (first | (with_reducible first | exact HB.out | apply below_alloc | apply pw_below_drewN | apply below_drew1) | exact HB.out)⟩⟩
    case round =>
      clear H'
      try clear c1
      try clear p2
      try clear c3
      obtain ⟨x3_1, x11_1, rfl, HA, HK1, HO_3, HB⟩ := hrel
      cases gk with
      | zero => exact absurd HA.out (by simp [oid_Text.l0])
      | succ k1 =>
        have H := HA.out
        clear HA
        simp only [oid_Text.l0] at H
        by_cases c4 : x11_1 < (l0.length : Int)
        · rw [if_pos c4] at H
          have c4b0 : decide (x11_1 < (l0.length : Int)) = true := decide_eq_true c4
          clear c4
          by_cases c5 : 0 ≤ x11_1
          · rw [if_pos c5] at H
            have c5b0 : decide (0 ≤ x11_1) = true := decide_eq_true c5
            clear c5
            by_cases c6 : x11_1 < (l0.length : Int)
            · rw [if_pos c6] at H
              have c6b0 : decide (x11_1 < (l0.length : Int)) = true := decide_eq_true c6
              clear c6
              replace H := Option.bind_eq_some_iff.mp H
              obtain ⟨t103, A70, H⟩ := H
              replace H : (if x3_1.length < 8796093022208 then (oid_Text.l0 k1 (x3_1 ++ [t103]) l0 (l0.length : Int) (wrap64 (x11_1 + 1))) else (none)) = some r := H
              have A7 := Aside0.mk A70
              clear A70
              by_cases c8 : x3_1.length < 8796093022208
              · rw [if_pos c8] at H
                have LMc8 := Aside0.mk c8
                clear c8
                obtain ⟨y104, hy104⟩ : ∃ y_ : List ByteArray, y_ = (x3_1 ++ [t103]) := ⟨_, rfl⟩
                replace H : (oid_Text.l0 k1 y104 l0 (l0.length : Int) (wrap64 (x11_1 + 1))) = some r := by first | (rw [hy104]; with_reducible exact H) | (have H2_ := (Option.bind_some _ _).symm.trans H; rw [hy104]; with_reducible exact H2_) | (have H2_ := (Option.bind_some _ _).symm.trans H; with_reducible exact H2_) | with_reducible exact H | (rw [hy104]; exact H) | exact H
                have Ny104 := Aside0.mk hy104
                clear hy104
                have H' := Aside0.mk H
                clear H
                have p102 : 0 ≤ (x11_1 : Int) := of_decide_eq_true (by first | (with_reducible assumption) | assumption)
                have q102 : x11_1 < (l0.length : Int) := of_decide_eq_true (by first | (with_reducible assumption) | assumption)
                obtain ⟨ad102, e102, hx102_0⟩ := Kd.at_int HR0.out x11_1 p102 q102
                cases e102
                replace hx102_0 := (HB.out.cell (World.block_lt_of_cell? w _ hx102_0)).trans hx102_0
                replace p102 := eq_true p102
                replace q102 := eq_true q102
                go_wp2_with (first | ((with_reducible refine gate_callee (f := 40) rfl ?_); refine goesL_ (some 18) rfl rfl Tryd.func40 (by kernel_rfl) rfl #[.int .u64 (IntKind.u64.wrap (rd l0 x11_1)), .int .i64 10] rfl (by (try simp only [List.map_toArray, List.map_cons, List.map_nil]); first | done | rfl | (simp only [List.length_drop, List.length_take]; rfl)) ?_; (with_reducible refine (strconv_FormatUint.calls (IntKind.u64.wrap (rd l0 x11_1)) 10 t103 _ ?side1 A7.out).mono ?_); (case side1 => first | exact HLd | (exact LaidOk.below HLd (by repeat (first | (with_reducible first | exact HB.out | apply below_alloc | apply pw_below_drewN | apply below_drew1) | exact HB.out))) | (repeat (first | exact HLd | apply LaidOk.drewN | apply LaidOk.drew | apply LaidOk.alloc))); rintro e w9 ⟨rfl, hb⟩; refine ⟨_, rfl, ?_⟩; have n0_ := Aside0.mk (Kd.R_below (by (with_reducible repeat (first | apply Kd.R_alloc | apply Kd.R_drewN | apply Kd.R_drew)); exact HO_3.out) hb); have n1_ := Aside0.mk (below_step (by repeat (first | (with_reducible first | exact HB.out | apply below_alloc | apply pw_below_drewN | apply below_drew1) | exact HB.out)) hb); clear HO_3; clear HB; have HO_3 := n0_; have HB := n1_; clear n0_ n1_; (try clear hb); (try clear hb2); (try clear hk); (try clear hi)) | ((with_reducible refine gate_builtin (b := .append) (xs := #[.tmp 15, .tmp 19]) rfl ?_); at_builtin; refine Kd.R_append Kd.string (w0 := w) w.heap.size rfl (.tmp 15) (.tmp 19) 59 9 (.string ⟨#[]⟩) 16 rfl Tryd.underlying59 info9 rfl (by decide) (by omega) u3 x3_1 t103 [.string t103] (fun _ => True) (fun _ => False) rfl rfl ?aP (fun _ hk => hk.elim) ?aF ?aO ?aB ?aS ?aL ?_; (case aP => exact rfl); (case aB => exact (by repeat (first | (with_reducible first | exact HB.out | apply below_alloc | apply pw_below_drewN | apply below_drew1) | exact HB.out))); (case aF => exact (fun _ _ => trivial)); (case aO => exact (by (with_reducible repeat (first | apply Kd.R_alloc | apply Kd.R_drewN | apply Kd.R_drew)); exact HO_3.out)); (case aS => exact (below_size (by repeat (first | (with_reducible first | exact HB.out | apply below_alloc | apply pw_below_drewN | apply below_drew1) | exact HB.out)))); (case aL => have := LMc8.out; omega); intro v105 w10 ho hb hg hat; rw [← Ny104.out] at ho; have n0_ := Aside0.mk (hb); have n1_ := Aside0.mk (ho); clear HB; clear HO_3; have HB := n0_; have HO106 := n1_; clear n0_ n1_; clear ho hb hg hat))
                go_roundg k1
                case measure => have := HK1.out; omega
                case rel => exact ⟨(y104), (wrap64 (x11_1 + 1)), (by first | rfl | (simp; done) | (simp [*]; done)), H', ⟨by have := HK1.out; omega⟩, ⟨by (with_reducible repeat (first | apply Kd.R_alloc | apply Kd.R_drewN | apply Kd.R_drew)); exact HO106.out⟩, ⟨by repeat (first | (with_reducible first | exact HB.out | apply below_alloc | apply pw_below_drewN | apply below_drew1) | exact HB.out)⟩⟩
              · rw [if_neg c8] at H
                exact absurd H (by simp)
            · rw [if_neg c6] at H
              exact absurd H (by simp)
          · rw [if_neg c5] at H
            exact absurd H (by simp)
        · rw [if_neg c4] at H
          have c4b0 : decide (x11_1 < (l0.length : Int)) = false := decide_eq_false c4
          clear c4
          replace H := Option.bind_eq_some_iff.mp H
          obtain ⟨t107, A110, H⟩ := H
          replace H : (some t107) = some r := H
          have A11 := Aside0.mk A110
          clear A110
          obtain rfl := Option.some.inj H
          obtain ⟨Ao12, co12, eo12⟩ := Kd.R_slice HO_3.out
          subst eo12
          go_wp2_with (first | ((with_reducible refine gate_callee (f := 41) rfl ?_); refine goesL_ (some 23) rfl rfl Tryd.func41 (by kernel_rfl) rfl #[.slice Ao12 x3_1.length co12, .string (⟨#[46]⟩ : ByteArray)] rfl (by (try simp only [List.map_toArray, List.map_cons, List.map_nil]); first | done | rfl | (simp only [List.length_drop, List.length_take]; rfl)) ?_; (with_reducible refine (strings_Join.calls _ _ x3_1 (⟨#[46]⟩ : ByteArray) t107 _ ?side1 ?side2 A11.out).mono ?_); (case side1 => repeat (first | exact (Kd.R_reads' HO_3.out).2.2 | (with_reducible refine Kd.C_alloc ?_ _) | (with_reducible refine Kd.C_drewN ?_ _) | (with_reducible refine Kd.C_drew ?_))); (case side2 => exact (Kd.R_reads' HO_3.out).2.1); rintro e w13 ⟨rfl, hb⟩; refine ⟨_, rfl, ?_⟩; have n0_ := Aside0.mk (Kd.R_below (by (with_reducible repeat (first | apply Kd.R_alloc | apply Kd.R_drewN | apply Kd.R_drew)); exact HO_3.out) hb); have n1_ := Aside0.mk (below_step (by repeat (first | (with_reducible first | exact HB.out | apply below_alloc | apply pw_below_drewN | apply below_drew1) | exact HB.out)) hb); clear HO_3; clear HB; have HO_3 := n0_; have HB := n1_; clear n0_ n1_; (try clear hb); (try clear hb2); (try clear hk); (try clear hi)))
          go_ret
          exact ⟨by first | rfl | (simp [errW_none, errW_some] <;> rfl) | (simp [*, errW_none, errW_some] <;> rfl), by repeat (first | (with_reducible first | exact HB.out | apply below_alloc | apply pw_below_drewN | apply below_drew1) | exact HB.out)⟩
  · replace c3 := Bool.eq_false_iff.mpr c3
    subst c3
    have H1 : (some (⟨#[]⟩ : ByteArray)) = some r := by rw [if_neg (show ¬ (false = true) by decide)] at H; exact H
    clear H
    have H := H1
    clear H1
    obtain rfl := Option.some.inj H
    go_enter Tryd.func16, Tryd.ntmps16
    go_wp2_with (first | ((with_reducible refine gate_callee (f := 36) rfl ?_); refine goesL_ (some 7) rfl rfl Tryd.func36 (by kernel_rfl) rfl #[.slice A0 l0.length c0] rfl (by (try simp only [List.map_toArray, List.map_cons, List.map_nil]); first | done | rfl | (simp only [List.length_drop, List.length_take]; rfl)) ?_; (with_reducible refine (oid_Valid.calls _ _ l0 false _ ?side1 ?side2 A2.out).mono ?_); (case side1 => repeat (first | exact HR0.out | (with_reducible refine Kd.C_alloc ?_ _) | (with_reducible refine Kd.C_drewN ?_ _) | (with_reducible refine Kd.C_drew ?_))); (case side2 => exact HC0.out); rintro e w' ⟨rfl, ⟨nd, rfl⟩⟩; refine ⟨_, rfl, ?_⟩))
    go_ret
    exact ⟨by first | rfl | (simp [errW_none, errW_some] <;> rfl) | (simp [*, errW_none, errW_some] <;> rfl), by repeat (first | (with_reducible first | exact HB.out | apply below_alloc | apply pw_below_drewN | apply below_drew1) | exact HB.out)⟩

end Go.Proofs.YtjoncjnmhhimhaaDoor.PText
end

section
-- Written by the kit's print.py, driven by this place's wip/tools/myprint.py. Not trusted: Lean checks it.
namespace Go.Proofs.YtjoncjnmhhimhaaDoor.PEq
open Go.RowKit Go.Proofs.YtjoncjnmhhimhaaDoor.Hand Go.Proofs.YtjoncjnmhhimhaaDoorW.PrintWords Go.Proofs.YtjoncjnmhhimhaaDoorW.PrintLast Go.Proofs.YtjoncjnmhhimhaaDoorW.PrintMore
attribute [local go_sem] max2_int min2_int max_two min_two max_three min_three max_four min_four   -- for this text's walks alone
set_option linter.unusedVariables false
set_option linter.unusedSimpArgs false



def errW : Option Int → Value
  | none => .nilIface
  | some c => .iface 0 (.int .i64 c)
theorem errW_none : errW none = .nilIface := rfl
theorem errW_some (c : Int) : errW (some c) = .iface 0 (.int .i64 c) := rfl

-- the values' own types

end Go.Proofs.YtjoncjnmhhimhaaDoor.PEq
namespace Go.Proofs.YtjoncjnmhhimhaaDoor.PEq
open Go.RowKit Go.Proofs.YtjoncjnmhhimhaaDoor.Hand Go.Proofs.YtjoncjnmhhimhaaDoorW.PrintWords Go.Proofs.YtjoncjnmhhimhaaDoorW.PrintLast Go.Proofs.YtjoncjnmhhimhaaDoorW.PrintMore
attribute [local go_sem] max2_int min2_int max_two min_two max_three min_three max_four min_four   -- for this text's walks alone
set_option linter.unusedVariables false
set_option linter.unusedSimpArgs false

/-! ### slices_Equal_uint32_uint32: function 15 -/
def slices_Equal_uint32_uint32.l0 : Nat → List Int → List Int → Int → Int → Option (Bool)
  | 0, _, _, _, _ => none
  | k + 1, x0, x1, x12, x13 => if x13 < x12 then (if 0 ≤ x13 then (if x13 < (x0.length : Int) then (if x13 < (x1.length : Int) then (if (rd x0 x13) = (rd x1 x13) then (slices_Equal_uint32_uint32.l0 k x0 x1 x12 (wrap64 (x13 + 1))) else (some false)) else (none)) else (none)) else (none)) else (some true)
def slices_Equal_uint32_uint32.f (k : Nat) (l0 : List Int) (l1 : List Int) : Option (Bool) := if (l0.length : Int) = (l1.length : Int) then (slices_Equal_uint32_uint32.l0 k l0 l1 (l0.length : Int) 0) else (some false)
theorem slices_Equal_uint32_uint32.mono_l : ∀ k, (∀ y0 y1 y2 y3, LeO (slices_Equal_uint32_uint32.l0 k y0 y1 y2 y3) (slices_Equal_uint32_uint32.l0 (k + 1) y0 y1 y2 y3))
  | 0 => fun _ _ _ _ r h => by simp [slices_Equal_uint32_uint32.l0] at h
  | k + 1 => by
    have ih0 := slices_Equal_uint32_uint32.mono_l k
    · intro y0 y1 y2 y3
      unfold slices_Equal_uint32_uint32.l0
      repeat' first
      | (with_reducible exact ih0 _ _ _ _)
      | (with_reducible exact LeO.refl _)
      | (with_reducible exact LeO.none _)
      | (with_reducible refine LeO.ite ?_ ?_)
      | (with_reducible refine LeO.bind ?_ (fun _ => ?_))
      | exact ih0 _ _ _ _
      | exact LeO.none _
      | refine LeO.ite ?_ ?_
      | refine LeO.bind ?_ (fun _ => ?_)
theorem slices_Equal_uint32_uint32.mono : ∀ a0 a1 k, LeO (slices_Equal_uint32_uint32.f k a0 a1) (slices_Equal_uint32_uint32.f (k + 1) a0 a1) := by
  intro a0 a1 k
  have ih0 := slices_Equal_uint32_uint32.mono_l k
  unfold slices_Equal_uint32_uint32.f
  repeat' first
      | (with_reducible exact ih0 _ _ _ _)
      | (with_reducible exact LeO.refl _)
      | (with_reducible exact LeO.none _)
      | (with_reducible refine LeO.ite ?_ ?_)
      | (with_reducible refine LeO.bind ?_ (fun _ => ?_))
      | exact ih0 _ _ _ _
      | exact LeO.none _
      | refine LeO.ite ?_ ?_
      | refine LeO.bind ?_ (fun _ => ?_)
set_option maxHeartbeats 8000000 in
set_option maxRecDepth 100000 in
theorem slices_Equal_uint32_uint32.calls (k : Nat) (A0 : Option Addr) (c0 : Nat) (l0 : List Int) (A1 : Option Addr) (c1 : Nat) (l1 : List Int) (r : Bool) (w : World) (hr0 : Kd.C (Kd.int .u32) w A0 l0.length l0) (hc0 : l0.length ≤ c0) (hr1 : Kd.C (Kd.int .u32) w A1 l1.length l1) (hc1 : l1.length ≤ c1) (h : slices_Equal_uint32_uint32.f k l0 l1 = some r) :
    Calls Tryd.prog 15 #[.slice A0 l0.length c0, .slice A1 l1.length c1] w fun e w' => e = .returned (.bool r) ∧ Drawn0 w w' := by
  have HR0 := Aside0.mk hr0
  have HC0 := Aside0.mk hc0
  clear hr0 hc0
  have HR1 := Aside0.mk hr1
  have HC1 := Aside0.mk hc1
  clear hr1 hc1
  have H : (if (l0.length : Int) = (l1.length : Int) then (slices_Equal_uint32_uint32.l0 k l0 l1 (l0.length : Int) 0) else (some false)) = some r := h
  clear h
  by_cases c3 : (l0.length : Int) = (l1.length : Int)
  · rw [if_pos c3] at H
    have c3b0 : ((l0.length : Int) == (l1.length : Int)) = true := beq_iff_eq.mpr c3
    have c3b1 : ((l0.length : Int) != (l1.length : Int)) = false := bne_eq_false_iff_eq.mpr c3
    have c3b2 : (l0.length == l1.length) = true := by first | simpa using c3 | (simp at c3 ⊢; omega)
    clear c3
    have H' := Aside0.mk H
    clear H
    go_enter Tryd.func15, Tryd.ntmps15
    go_wp2
    repeat (go_quiet (fail); try go_wp2)
    go_loopg [13] k (fun kq v13 w' => ∃ (x13_1 : Int), v13 = .int .i64 x13_1 ∧ Aside0 (slices_Equal_uint32_uint32.l0 kq l0 l1 (l0.length : Int) x13_1 = some r) ∧ Aside0 (kq ≤ k) ∧ Drawn0 w w')
    case atStart => exact ⟨(0), (by first | rfl | (simp; done) | (simp [*]; done)), H', ⟨Nat.le_refl _⟩, by repeat (first | exact Drawn0.refl _ | apply Drawn0.step)⟩
    case round =>
      clear H'
      try clear c1
      try clear p2
      try clear c3
      try clear c3b0
      try clear c3b1
      try clear c3b2
      obtain ⟨x13_1, rfl, HA, HK1, ⟨m1, rfl⟩⟩ := hrel
      cases gk with
      | zero => exact absurd HA.out (by simp [slices_Equal_uint32_uint32.l0])
      | succ k1 =>
        have H := HA.out
        clear HA
        simp only [slices_Equal_uint32_uint32.l0] at H
        by_cases c4 : x13_1 < (l0.length : Int)
        · rw [if_pos c4] at H
          have c4b0 : decide (x13_1 < (l0.length : Int)) = true := decide_eq_true c4
          clear c4
          by_cases c5 : 0 ≤ x13_1
          · rw [if_pos c5] at H
            have c5b0 : decide (0 ≤ x13_1) = true := decide_eq_true c5
            clear c5
            by_cases c6 : x13_1 < (l0.length : Int)
            · rw [if_pos c6] at H
              have c6b0 : decide (x13_1 < (l0.length : Int)) = true := decide_eq_true c6
              clear c6
              by_cases c7 : x13_1 < (l1.length : Int)
              · rw [if_pos c7] at H
                have c7b0 : decide (x13_1 < (l1.length : Int)) = true := decide_eq_true c7
                clear c7
                by_cases c8 : (rd l0 x13_1) = (rd l1 x13_1)
                · rw [if_pos c8] at H
                  have c8b0 : ((rd l0 x13_1) == (rd l1 x13_1)) = true := beq_iff_eq.mpr c8
                  have c8b1 : ((rd l0 x13_1) != (rd l1 x13_1)) = false := bne_eq_false_iff_eq.mpr c8
                  clear c8
                  have H' := Aside0.mk H
                  clear H
                  have p101 : 0 ≤ (x13_1 : Int) := of_decide_eq_true (by first | (with_reducible assumption) | assumption)
                  have q101 : x13_1 < (l0.length : Int) := of_decide_eq_true (by first | (with_reducible assumption) | assumption)
                  obtain ⟨ad101, e101, hx101_0⟩ := Kd.at_int HR0.out x13_1 p101 q101
                  cases e101
                  replace p101 := eq_true p101
                  replace q101 := eq_true q101
                  have p102 : 0 ≤ (x13_1 : Int) := of_decide_eq_true (by first | (with_reducible assumption) | assumption)
                  have q102 : x13_1 < (l1.length : Int) := of_decide_eq_true (by first | (with_reducible assumption) | assumption)
                  obtain ⟨ad102, e102, hx102_0⟩ := Kd.at_int HR1.out x13_1 p102 q102
                  cases e102
                  replace p102 := eq_true p102
                  replace q102 := eq_true q102
                  go_wp2
                  repeat (go_quiet (fail); try go_wp2)
                  go_roundg k1
                  case measure => have := HK1.out; omega
                  case rel => exact ⟨(wrap64 (x13_1 + 1)), (by first | rfl | (simp; done) | (simp [*]; done)), H', ⟨by have := HK1.out; omega⟩, by repeat (first | exact Drawn0.refl _ | apply Drawn0.step)⟩
                · rw [if_neg c8] at H
                  have c8b0 : ((rd l0 x13_1) == (rd l1 x13_1)) = false := beq_eq_false_iff_ne.mpr c8
                  have c8b1 : ((rd l0 x13_1) != (rd l1 x13_1)) = true := bne_iff_ne.mpr c8
                  obtain rfl := Option.some.inj H
                  have p101 : 0 ≤ (x13_1 : Int) := of_decide_eq_true (by first | (with_reducible assumption) | assumption)
                  have q101 : x13_1 < (l0.length : Int) := of_decide_eq_true (by first | (with_reducible assumption) | assumption)
                  obtain ⟨ad101, e101, hx101_0⟩ := Kd.at_int HR0.out x13_1 p101 q101
                  cases e101
                  replace p101 := eq_true p101
                  replace q101 := eq_true q101
                  have p102 : 0 ≤ (x13_1 : Int) := of_decide_eq_true (by first | (with_reducible assumption) | assumption)
                  have q102 : x13_1 < (l1.length : Int) := of_decide_eq_true (by first | (with_reducible assumption) | assumption)
                  obtain ⟨ad102, e102, hx102_0⟩ := Kd.at_int HR1.out x13_1 p102 q102
                  cases e102
                  replace p102 := eq_true p102
                  replace q102 := eq_true q102
                  go_wp2
                  repeat (go_quiet (fail); try go_wp2)
                  go_ret
                  exact ⟨by first | rfl | (simp; done) | (simp [*]; done), by repeat (first | exact Drawn0.refl _ | apply Drawn0.step)⟩
              · rw [if_neg c7] at H
                exact absurd H (by simp)
            · rw [if_neg c6] at H
              exact absurd H (by simp)
          · rw [if_neg c5] at H
            exact absurd H (by simp)
        · rw [if_neg c4] at H
          have c4b0 : decide (x13_1 < (l0.length : Int)) = false := decide_eq_false c4
          clear c4
          obtain rfl := Option.some.inj H
          go_wp2
          repeat (go_quiet (fail); try go_wp2)
          go_ret
          exact ⟨by first | rfl | (simp; done) | (simp [*]; done), by repeat (first | exact Drawn0.refl _ | apply Drawn0.step)⟩
  · rw [if_neg c3] at H
    have c3b0 : ((l0.length : Int) == (l1.length : Int)) = false := beq_eq_false_iff_ne.mpr c3
    have c3b1 : ((l0.length : Int) != (l1.length : Int)) = true := bne_iff_ne.mpr c3
    have c3b2 : (l0.length == l1.length) = false := by first | simpa using c3 | (simp at c3 ⊢; omega)
    obtain rfl := Option.some.inj H
    go_enter Tryd.func15, Tryd.ntmps15
    go_wp2
    repeat (go_quiet (fail); try go_wp2)
    go_ret
    exact ⟨by first | rfl | (simp; done) | (simp [*]; done), by repeat (first | exact Drawn0.refl _ | apply Drawn0.step)⟩

/-- THE ONE PURE STATEMENT of slices_Equal_uint32_uint32: yours. -/
def slices_Equal_uint32_uint32.Pure : Prop := ∀ (l0 : List Int) (l1 : List Int), l0.length ≤ maxLen → l0.length * 4 ≤ 140737488351232 → (∀ x ∈ l0, (Lit.int .u32 x).wf = true) → l1.length ≤ maxLen → l1.length * 4 ≤ 140737488351232 → (∀ x ∈ l1, (Lit.int .u32 x).wf = true) → ∃ k, slices_Equal_uint32_uint32.f k l0 l1 = some true
theorem slices_Equal_uint32_uint32.walk (P : slices_Equal_uint32_uint32.Pure) (a0 : Option Addr) (len0 cap0 : Nat) (z0 : List Int) (a1 : Option Addr) (len1 cap1 : Nat) (z1 : List Int) (w : World) (w0 : (a0 = none ∧ len0 = 0 ∧ cap0 = 0 ∧ z0 = []) ∨ ∃ x, a0 = some x ∧ len0 ≤ cap0 ∧ cap0 ≤ maxLen ∧ z0.length = cap0 ∧ (∀ i, i < z0.length → w.cell? (x.add i) = some (.int .u32 (z0.getD i 0))) ∧ ∀ n ∈ z0, (Lit.int .u32 n).wf = true) (y0 : len0 * 4 ≤ 140737488351232) (w1 : (a1 = none ∧ len1 = 0 ∧ cap1 = 0 ∧ z1 = []) ∨ ∃ x, a1 = some x ∧ len1 ≤ cap1 ∧ cap1 ≤ maxLen ∧ z1.length = cap1 ∧ (∀ i, i < z1.length → w.cell? (x.add i) = some (.int .u32 (z1.getD i 0))) ∧ ∀ n ∈ z1, (Lit.int .u32 n).wf = true) (y1 : len1 * 4 ≤ 140737488351232) :
    Calls Tryd.prog 15 #[.slice a0 len0 cap0, .slice a1 len1 cap1] w fun e w' => e = .returned (.bool true) ∧ Below w.heap.size w w' := by
  obtain ⟨l0, rfl, hr0, hm0, hw0, hc0⟩ := ReadsInt.ofRowC w0
  obtain ⟨l1, rfl, hr1, hm1, hw1, hc1⟩ := ReadsInt.ofRowC w1
  obtain ⟨k, h⟩ := P l0 l1 hm0 y0 hw0 hm1 y1 hw1
  refine (slices_Equal_uint32_uint32.calls k _ _ l0 _ _ l1 true w (Kd.C_of_reads (d := (0 : Int)) (h1 := fun _ => rfl) hr0) hc0 (Kd.C_of_reads (d := (0 : Int)) (h1 := fun _ => rfl) hr1) hc1 h).mono ?_
  rintro e w' ⟨rfl, hd⟩
  exact ⟨rfl, hd.below⟩

/-! ### pyxref01_Same: function 19 -/
def pyxref01_Same.l0 : Nat → List Int → List Int → Int → Option (Bool)
  | 0, _, _, _ => none
  | k + 1, x0, x1, x5 => if x5 < (x0.length : Int) then (if 0 ≤ x5 then (if x5 < (x1.length : Int) then (if (rd x0 x5) = (rd x1 x5) then (pyxref01_Same.l0 k x0 x1 (wrap64 (x5 + 1))) else (some false)) else (none)) else (none)) else (some true)
def pyxref01_Same.f (k : Nat) (l0 : List Int) (l1 : List Int) : Option (Bool) := if (l0.length : Int) = (l1.length : Int) then (pyxref01_Same.l0 k l0 l1 0) else (some false)
theorem pyxref01_Same.mono_l : ∀ k, (∀ y0 y1 y2, LeO (pyxref01_Same.l0 k y0 y1 y2) (pyxref01_Same.l0 (k + 1) y0 y1 y2))
  | 0 => fun _ _ _ r h => by simp [pyxref01_Same.l0] at h
  | k + 1 => by
    have ih0 := pyxref01_Same.mono_l k
    · intro y0 y1 y2
      unfold pyxref01_Same.l0
      repeat' first
      | (with_reducible exact ih0 _ _ _)
      | (with_reducible exact LeO.refl _)
      | (with_reducible exact LeO.none _)
      | (with_reducible refine LeO.ite ?_ ?_)
      | (with_reducible refine LeO.bind ?_ (fun _ => ?_))
      | exact ih0 _ _ _
      | exact LeO.none _
      | refine LeO.ite ?_ ?_
      | refine LeO.bind ?_ (fun _ => ?_)
theorem pyxref01_Same.mono : ∀ a0 a1 k, LeO (pyxref01_Same.f k a0 a1) (pyxref01_Same.f (k + 1) a0 a1) := by
  intro a0 a1 k
  have ih0 := pyxref01_Same.mono_l k
  unfold pyxref01_Same.f
  repeat' first
      | (with_reducible exact ih0 _ _ _)
      | (with_reducible exact LeO.refl _)
      | (with_reducible exact LeO.none _)
      | (with_reducible refine LeO.ite ?_ ?_)
      | (with_reducible refine LeO.bind ?_ (fun _ => ?_))
      | exact ih0 _ _ _
      | exact LeO.none _
      | refine LeO.ite ?_ ?_
      | refine LeO.bind ?_ (fun _ => ?_)
set_option maxHeartbeats 8000000 in
set_option maxRecDepth 100000 in
theorem pyxref01_Same.calls (k : Nat) (A0 : Option Addr) (c0 : Nat) (l0 : List Int) (A1 : Option Addr) (c1 : Nat) (l1 : List Int) (r : Bool) (w : World) (hr0 : Kd.C (Kd.int .u8) w A0 l0.length l0) (hc0 : l0.length ≤ c0) (hr1 : Kd.C (Kd.int .u8) w A1 l1.length l1) (hc1 : l1.length ≤ c1) (h : pyxref01_Same.f k l0 l1 = some r) :
    Calls Tryd.prog 19 #[.slice A0 l0.length c0, .slice A1 l1.length c1] w fun e w' => e = .returned (.bool r) ∧ Drawn0 w w' := by
  have HR0 := Aside0.mk hr0
  have HC0 := Aside0.mk hc0
  clear hr0 hc0
  have HR1 := Aside0.mk hr1
  have HC1 := Aside0.mk hc1
  clear hr1 hc1
  have H : (if (l0.length : Int) = (l1.length : Int) then (pyxref01_Same.l0 k l0 l1 0) else (some false)) = some r := h
  clear h
  by_cases c3 : (l0.length : Int) = (l1.length : Int)
  · rw [if_pos c3] at H
    have c3b0 : ((l0.length : Int) == (l1.length : Int)) = true := beq_iff_eq.mpr c3
    have c3b1 : ((l0.length : Int) != (l1.length : Int)) = false := bne_eq_false_iff_eq.mpr c3
    have c3b2 : (l0.length == l1.length) = true := by first | simpa using c3 | (simp at c3 ⊢; omega)
    clear c3
    have H' := Aside0.mk H
    clear H
    go_enter Tryd.func19, Tryd.ntmps19
    go_wp2
    repeat (go_quiet (fail); try go_wp2)
    go_loopg [5] k (fun kq v5 w' => ∃ (x5_1 : Int), v5 = .int .i64 x5_1 ∧ Aside0 (pyxref01_Same.l0 kq l0 l1 x5_1 = some r) ∧ Aside0 (kq ≤ k) ∧ Drawn0 w w')
    case atStart => exact ⟨(0), (by first | rfl | (simp; done) | (simp [*]; done)), H', ⟨Nat.le_refl _⟩, by repeat (first | exact Drawn0.refl _ | apply Drawn0.step)⟩
    case round =>
      clear H'
      try clear c1
      try clear p2
      try clear c3
      try clear c3b0
      try clear c3b1
      try clear c3b2
      obtain ⟨x5_1, rfl, HA, HK1, ⟨m1, rfl⟩⟩ := hrel
      cases gk with
      | zero => exact absurd HA.out (by simp [pyxref01_Same.l0])
      | succ k1 =>
        have H := HA.out
        clear HA
        simp only [pyxref01_Same.l0] at H
        by_cases c4 : x5_1 < (l0.length : Int)
        · rw [if_pos c4] at H
          have c4b0 : decide (x5_1 < (l0.length : Int)) = true := decide_eq_true c4
          clear c4
          by_cases c5 : 0 ≤ x5_1
          · rw [if_pos c5] at H
            have c5b0 : decide (0 ≤ x5_1) = true := decide_eq_true c5
            clear c5
            by_cases c6 : x5_1 < (l1.length : Int)
            · rw [if_pos c6] at H
              have c6b0 : decide (x5_1 < (l1.length : Int)) = true := decide_eq_true c6
              clear c6
              by_cases c7 : (rd l0 x5_1) = (rd l1 x5_1)
              · rw [if_pos c7] at H
                have c7b0 : ((rd l0 x5_1) == (rd l1 x5_1)) = true := beq_iff_eq.mpr c7
                have c7b1 : ((rd l0 x5_1) != (rd l1 x5_1)) = false := bne_eq_false_iff_eq.mpr c7
                clear c7
                have H' := Aside0.mk H
                clear H
                have p103 : 0 ≤ (x5_1 : Int) := of_decide_eq_true (by first | (with_reducible assumption) | assumption)
                have q103 : x5_1 < (l0.length : Int) := of_decide_eq_true (by first | (with_reducible assumption) | assumption)
                obtain ⟨ad103, e103, hx103_0⟩ := Kd.at_int HR0.out x5_1 p103 q103
                cases e103
                replace p103 := eq_true p103
                replace q103 := eq_true q103
                have p104 : 0 ≤ (x5_1 : Int) := of_decide_eq_true (by first | (with_reducible assumption) | assumption)
                have q104 : x5_1 < (l1.length : Int) := of_decide_eq_true (by first | (with_reducible assumption) | assumption)
                obtain ⟨ad104, e104, hx104_0⟩ := Kd.at_int HR1.out x5_1 p104 q104
                cases e104
                replace p104 := eq_true p104
                replace q104 := eq_true q104
                go_wp2
                repeat (go_quiet (fail); try go_wp2)
                go_roundg k1
                case measure => have := HK1.out; omega
                case rel => exact ⟨(wrap64 (x5_1 + 1)), (by first | rfl | (simp; done) | (simp [*]; done)), H', ⟨by have := HK1.out; omega⟩, by repeat (first | exact Drawn0.refl _ | apply Drawn0.step)⟩
              · rw [if_neg c7] at H
                have c7b0 : ((rd l0 x5_1) == (rd l1 x5_1)) = false := beq_eq_false_iff_ne.mpr c7
                have c7b1 : ((rd l0 x5_1) != (rd l1 x5_1)) = true := bne_iff_ne.mpr c7
                obtain rfl := Option.some.inj H
                have p103 : 0 ≤ (x5_1 : Int) := of_decide_eq_true (by first | (with_reducible assumption) | assumption)
                have q103 : x5_1 < (l0.length : Int) := of_decide_eq_true (by first | (with_reducible assumption) | assumption)
                obtain ⟨ad103, e103, hx103_0⟩ := Kd.at_int HR0.out x5_1 p103 q103
                cases e103
                replace p103 := eq_true p103
                replace q103 := eq_true q103
                have p104 : 0 ≤ (x5_1 : Int) := of_decide_eq_true (by first | (with_reducible assumption) | assumption)
                have q104 : x5_1 < (l1.length : Int) := of_decide_eq_true (by first | (with_reducible assumption) | assumption)
                obtain ⟨ad104, e104, hx104_0⟩ := Kd.at_int HR1.out x5_1 p104 q104
                cases e104
                replace p104 := eq_true p104
                replace q104 := eq_true q104
                go_wp2
                repeat (go_quiet (fail); try go_wp2)
                go_ret
                exact ⟨by first | rfl | (simp; done) | (simp [*]; done), by repeat (first | exact Drawn0.refl _ | apply Drawn0.step)⟩
            · rw [if_neg c6] at H
              exact absurd H (by simp)
          · rw [if_neg c5] at H
            exact absurd H (by simp)
        · rw [if_neg c4] at H
          have c4b0 : decide (x5_1 < (l0.length : Int)) = false := decide_eq_false c4
          clear c4
          obtain rfl := Option.some.inj H
          go_wp2
          repeat (go_quiet (fail); try go_wp2)
          go_ret
          exact ⟨by first | rfl | (simp; done) | (simp [*]; done), by repeat (first | exact Drawn0.refl _ | apply Drawn0.step)⟩
  · rw [if_neg c3] at H
    have c3b0 : ((l0.length : Int) == (l1.length : Int)) = false := beq_eq_false_iff_ne.mpr c3
    have c3b1 : ((l0.length : Int) != (l1.length : Int)) = true := bne_iff_ne.mpr c3
    have c3b2 : (l0.length == l1.length) = false := by first | simpa using c3 | (simp at c3 ⊢; omega)
    obtain rfl := Option.some.inj H
    go_enter Tryd.func19, Tryd.ntmps19
    go_wp2
    repeat (go_quiet (fail); try go_wp2)
    go_ret
    exact ⟨by first | rfl | (simp; done) | (simp [*]; done), by repeat (first | exact Drawn0.refl _ | apply Drawn0.step)⟩

/-- THE ONE PURE STATEMENT of pyxref01_Same: yours. -/
def pyxref01_Same.Pure : Prop := ∀ (l0 : List Int) (l1 : List Int), l0.length ≤ maxLen → l0.length * 1 ≤ 140737488351232 → (∀ x ∈ l0, (Lit.int .u8 x).wf = true) → l1.length ≤ maxLen → l1.length * 1 ≤ 140737488351232 → (∀ x ∈ l1, (Lit.int .u8 x).wf = true) → ∃ k, pyxref01_Same.f k l0 l1 = some true
theorem pyxref01_Same.walk (P : pyxref01_Same.Pure) (a0 : Option Addr) (len0 cap0 : Nat) (z0 : List Int) (a1 : Option Addr) (len1 cap1 : Nat) (z1 : List Int) (w : World) (w0 : (a0 = none ∧ len0 = 0 ∧ cap0 = 0 ∧ z0 = []) ∨ ∃ x, a0 = some x ∧ len0 ≤ cap0 ∧ cap0 ≤ maxLen ∧ z0.length = cap0 ∧ (∀ i, i < z0.length → w.cell? (x.add i) = some (.int .u8 (z0.getD i 0))) ∧ ∀ n ∈ z0, (Lit.int .u8 n).wf = true) (y0 : len0 * 1 ≤ 140737488351232) (w1 : (a1 = none ∧ len1 = 0 ∧ cap1 = 0 ∧ z1 = []) ∨ ∃ x, a1 = some x ∧ len1 ≤ cap1 ∧ cap1 ≤ maxLen ∧ z1.length = cap1 ∧ (∀ i, i < z1.length → w.cell? (x.add i) = some (.int .u8 (z1.getD i 0))) ∧ ∀ n ∈ z1, (Lit.int .u8 n).wf = true) (y1 : len1 * 1 ≤ 140737488351232) :
    Calls Tryd.prog 19 #[.slice a0 len0 cap0, .slice a1 len1 cap1] w fun e w' => e = .returned (.bool true) ∧ Below w.heap.size w w' := by
  obtain ⟨l0, rfl, hr0, hm0, hw0, hc0⟩ := ReadsInt.ofRowC w0
  obtain ⟨l1, rfl, hr1, hm1, hw1, hc1⟩ := ReadsInt.ofRowC w1
  obtain ⟨k, h⟩ := P l0 l1 hm0 y0 hw0 hm1 y1 hw1
  refine (pyxref01_Same.calls k _ _ l0 _ _ l1 true w (Kd.C_of_reads (d := (0 : Int)) (h1 := fun _ => rfl) hr0) hc0 (Kd.C_of_reads (d := (0 : Int)) (h1 := fun _ => rfl) hr1) hc1 h).mono ?_
  rintro e w' ⟨rfl, hd⟩
  exact ⟨rfl, hd.below⟩

/-! ### slices_Equal_int_int: function 29 -/
def slices_Equal_int_int.l0 : Nat → List Int → List Int → Int → Int → Option (Bool)
  | 0, _, _, _, _ => none
  | k + 1, x0, x1, x12, x13 => if x13 < x12 then (if 0 ≤ x13 then (if x13 < (x0.length : Int) then (if x13 < (x1.length : Int) then (if (rd x0 x13) = (rd x1 x13) then (slices_Equal_int_int.l0 k x0 x1 x12 (wrap64 (x13 + 1))) else (some false)) else (none)) else (none)) else (none)) else (some true)
def slices_Equal_int_int.f (k : Nat) (l0 : List Int) (l1 : List Int) : Option (Bool) := if (l0.length : Int) = (l1.length : Int) then (slices_Equal_int_int.l0 k l0 l1 (l0.length : Int) 0) else (some false)
theorem slices_Equal_int_int.mono_l : ∀ k, (∀ y0 y1 y2 y3, LeO (slices_Equal_int_int.l0 k y0 y1 y2 y3) (slices_Equal_int_int.l0 (k + 1) y0 y1 y2 y3))
  | 0 => fun _ _ _ _ r h => by simp [slices_Equal_int_int.l0] at h
  | k + 1 => by
    have ih0 := slices_Equal_int_int.mono_l k
    · intro y0 y1 y2 y3
      unfold slices_Equal_int_int.l0
      repeat' first
      | (with_reducible exact ih0 _ _ _ _)
      | (with_reducible exact LeO.refl _)
      | (with_reducible exact LeO.none _)
      | (with_reducible refine LeO.ite ?_ ?_)
      | (with_reducible refine LeO.bind ?_ (fun _ => ?_))
      | exact ih0 _ _ _ _
      | exact LeO.none _
      | refine LeO.ite ?_ ?_
      | refine LeO.bind ?_ (fun _ => ?_)
theorem slices_Equal_int_int.mono : ∀ a0 a1 k, LeO (slices_Equal_int_int.f k a0 a1) (slices_Equal_int_int.f (k + 1) a0 a1) := by
  intro a0 a1 k
  have ih0 := slices_Equal_int_int.mono_l k
  unfold slices_Equal_int_int.f
  repeat' first
      | (with_reducible exact ih0 _ _ _ _)
      | (with_reducible exact LeO.refl _)
      | (with_reducible exact LeO.none _)
      | (with_reducible refine LeO.ite ?_ ?_)
      | (with_reducible refine LeO.bind ?_ (fun _ => ?_))
      | exact ih0 _ _ _ _
      | exact LeO.none _
      | refine LeO.ite ?_ ?_
      | refine LeO.bind ?_ (fun _ => ?_)
set_option maxHeartbeats 8000000 in
set_option maxRecDepth 100000 in
theorem slices_Equal_int_int.calls (k : Nat) (A0 : Option Addr) (c0 : Nat) (l0 : List Int) (A1 : Option Addr) (c1 : Nat) (l1 : List Int) (r : Bool) (w : World) (hr0 : Kd.C (Kd.int .i64) w A0 l0.length l0) (hc0 : l0.length ≤ c0) (hr1 : Kd.C (Kd.int .i64) w A1 l1.length l1) (hc1 : l1.length ≤ c1) (h : slices_Equal_int_int.f k l0 l1 = some r) :
    Calls Tryd.prog 29 #[.slice A0 l0.length c0, .slice A1 l1.length c1] w fun e w' => e = .returned (.bool r) ∧ Drawn0 w w' := by
  have HR0 := Aside0.mk hr0
  have HC0 := Aside0.mk hc0
  clear hr0 hc0
  have HR1 := Aside0.mk hr1
  have HC1 := Aside0.mk hc1
  clear hr1 hc1
  have H : (if (l0.length : Int) = (l1.length : Int) then (slices_Equal_int_int.l0 k l0 l1 (l0.length : Int) 0) else (some false)) = some r := h
  clear h
  by_cases c3 : (l0.length : Int) = (l1.length : Int)
  · rw [if_pos c3] at H
    have c3b0 : ((l0.length : Int) == (l1.length : Int)) = true := beq_iff_eq.mpr c3
    have c3b1 : ((l0.length : Int) != (l1.length : Int)) = false := bne_eq_false_iff_eq.mpr c3
    have c3b2 : (l0.length == l1.length) = true := by first | simpa using c3 | (simp at c3 ⊢; omega)
    clear c3
    have H' := Aside0.mk H
    clear H
    go_enter Tryd.func29, Tryd.ntmps29
    go_wp2
    repeat (go_quiet (fail); try go_wp2)
    go_loopg [13] k (fun kq v13 w' => ∃ (x13_1 : Int), v13 = .int .i64 x13_1 ∧ Aside0 (slices_Equal_int_int.l0 kq l0 l1 (l0.length : Int) x13_1 = some r) ∧ Aside0 (kq ≤ k) ∧ Drawn0 w w')
    case atStart => exact ⟨(0), (by first | rfl | (simp; done) | (simp [*]; done)), H', ⟨Nat.le_refl _⟩, by repeat (first | exact Drawn0.refl _ | apply Drawn0.step)⟩
    case round =>
      clear H'
      try clear c1
      try clear c2
      try clear p2
      try clear c3
      try clear c3b0
      try clear c3b1
      try clear c3b2
      obtain ⟨x13_1, rfl, HA, HK1, ⟨m1, rfl⟩⟩ := hrel
      cases gk with
      | zero => exact absurd HA.out (by simp [slices_Equal_int_int.l0])
      | succ k1 =>
        have H := HA.out
        clear HA
        simp only [slices_Equal_int_int.l0] at H
        by_cases c4 : x13_1 < (l0.length : Int)
        · rw [if_pos c4] at H
          have c4b0 : decide (x13_1 < (l0.length : Int)) = true := decide_eq_true c4
          clear c4
          by_cases c5 : 0 ≤ x13_1
          · rw [if_pos c5] at H
            have c5b0 : decide (0 ≤ x13_1) = true := decide_eq_true c5
            clear c5
            by_cases c6 : x13_1 < (l0.length : Int)
            · rw [if_pos c6] at H
              have c6b0 : decide (x13_1 < (l0.length : Int)) = true := decide_eq_true c6
              clear c6
              by_cases c7 : x13_1 < (l1.length : Int)
              · rw [if_pos c7] at H
                have c7b0 : decide (x13_1 < (l1.length : Int)) = true := decide_eq_true c7
                clear c7
                by_cases c8 : (rd l0 x13_1) = (rd l1 x13_1)
                · rw [if_pos c8] at H
                  have c8b0 : ((rd l0 x13_1) == (rd l1 x13_1)) = true := beq_iff_eq.mpr c8
                  have c8b1 : ((rd l0 x13_1) != (rd l1 x13_1)) = false := bne_eq_false_iff_eq.mpr c8
                  clear c8
                  have H' := Aside0.mk H
                  clear H
                  have p105 : 0 ≤ (x13_1 : Int) := of_decide_eq_true (by first | (with_reducible assumption) | assumption)
                  have q105 : x13_1 < (l0.length : Int) := of_decide_eq_true (by first | (with_reducible assumption) | assumption)
                  obtain ⟨ad105, e105, hx105_0⟩ := Kd.at_int HR0.out x13_1 p105 q105
                  cases e105
                  replace p105 := eq_true p105
                  replace q105 := eq_true q105
                  have p106 : 0 ≤ (x13_1 : Int) := of_decide_eq_true (by first | (with_reducible assumption) | assumption)
                  have q106 : x13_1 < (l1.length : Int) := of_decide_eq_true (by first | (with_reducible assumption) | assumption)
                  obtain ⟨ad106, e106, hx106_0⟩ := Kd.at_int HR1.out x13_1 p106 q106
                  cases e106
                  replace p106 := eq_true p106
                  replace q106 := eq_true q106
                  go_wp2
                  repeat (go_quiet (fail); try go_wp2)
                  go_roundg k1
                  case measure => have := HK1.out; omega
                  case rel => exact ⟨(wrap64 (x13_1 + 1)), (by first | rfl | (simp; done) | (simp [*]; done)), H', ⟨by have := HK1.out; omega⟩, by repeat (first | exact Drawn0.refl _ | apply Drawn0.step)⟩
                · rw [if_neg c8] at H
                  have c8b0 : ((rd l0 x13_1) == (rd l1 x13_1)) = false := beq_eq_false_iff_ne.mpr c8
                  have c8b1 : ((rd l0 x13_1) != (rd l1 x13_1)) = true := bne_iff_ne.mpr c8
                  obtain rfl := Option.some.inj H
                  have p105 : 0 ≤ (x13_1 : Int) := of_decide_eq_true (by first | (with_reducible assumption) | assumption)
                  have q105 : x13_1 < (l0.length : Int) := of_decide_eq_true (by first | (with_reducible assumption) | assumption)
                  obtain ⟨ad105, e105, hx105_0⟩ := Kd.at_int HR0.out x13_1 p105 q105
                  cases e105
                  replace p105 := eq_true p105
                  replace q105 := eq_true q105
                  have p106 : 0 ≤ (x13_1 : Int) := of_decide_eq_true (by first | (with_reducible assumption) | assumption)
                  have q106 : x13_1 < (l1.length : Int) := of_decide_eq_true (by first | (with_reducible assumption) | assumption)
                  obtain ⟨ad106, e106, hx106_0⟩ := Kd.at_int HR1.out x13_1 p106 q106
                  cases e106
                  replace p106 := eq_true p106
                  replace q106 := eq_true q106
                  go_wp2
                  repeat (go_quiet (fail); try go_wp2)
                  go_ret
                  exact ⟨by first | rfl | (simp; done) | (simp [*]; done), by repeat (first | exact Drawn0.refl _ | apply Drawn0.step)⟩
              · rw [if_neg c7] at H
                exact absurd H (by simp)
            · rw [if_neg c6] at H
              exact absurd H (by simp)
          · rw [if_neg c5] at H
            exact absurd H (by simp)
        · rw [if_neg c4] at H
          have c4b0 : decide (x13_1 < (l0.length : Int)) = false := decide_eq_false c4
          clear c4
          obtain rfl := Option.some.inj H
          go_wp2
          repeat (go_quiet (fail); try go_wp2)
          go_ret
          exact ⟨by first | rfl | (simp; done) | (simp [*]; done), by repeat (first | exact Drawn0.refl _ | apply Drawn0.step)⟩
  · rw [if_neg c3] at H
    have c3b0 : ((l0.length : Int) == (l1.length : Int)) = false := beq_eq_false_iff_ne.mpr c3
    have c3b1 : ((l0.length : Int) != (l1.length : Int)) = true := bne_iff_ne.mpr c3
    have c3b2 : (l0.length == l1.length) = false := by first | simpa using c3 | (simp at c3 ⊢; omega)
    obtain rfl := Option.some.inj H
    go_enter Tryd.func29, Tryd.ntmps29
    go_wp2
    repeat (go_quiet (fail); try go_wp2)
    go_ret
    exact ⟨by first | rfl | (simp; done) | (simp [*]; done), by repeat (first | exact Drawn0.refl _ | apply Drawn0.step)⟩

/-- THE ONE PURE STATEMENT of slices_Equal_int_int: yours. -/
def slices_Equal_int_int.Pure : Prop := ∀ (l0 : List Int) (l1 : List Int), l0.length ≤ maxLen → l0.length * 8 ≤ 140737488351232 → (∀ x ∈ l0, (Lit.int .i64 x).wf = true) → l1.length ≤ maxLen → l1.length * 8 ≤ 140737488351232 → (∀ x ∈ l1, (Lit.int .i64 x).wf = true) → ∃ k, slices_Equal_int_int.f k l0 l1 = some true
theorem slices_Equal_int_int.walk (P : slices_Equal_int_int.Pure) (a0 : Option Addr) (len0 cap0 : Nat) (z0 : List Int) (a1 : Option Addr) (len1 cap1 : Nat) (z1 : List Int) (w : World) (w0 : (a0 = none ∧ len0 = 0 ∧ cap0 = 0 ∧ z0 = []) ∨ ∃ x, a0 = some x ∧ len0 ≤ cap0 ∧ cap0 ≤ maxLen ∧ z0.length = cap0 ∧ (∀ i, i < z0.length → w.cell? (x.add i) = some (.int .i64 (z0.getD i 0))) ∧ ∀ n ∈ z0, (Lit.int .i64 n).wf = true) (y0 : len0 * 8 ≤ 140737488351232) (w1 : (a1 = none ∧ len1 = 0 ∧ cap1 = 0 ∧ z1 = []) ∨ ∃ x, a1 = some x ∧ len1 ≤ cap1 ∧ cap1 ≤ maxLen ∧ z1.length = cap1 ∧ (∀ i, i < z1.length → w.cell? (x.add i) = some (.int .i64 (z1.getD i 0))) ∧ ∀ n ∈ z1, (Lit.int .i64 n).wf = true) (y1 : len1 * 8 ≤ 140737488351232) :
    Calls Tryd.prog 29 #[.slice a0 len0 cap0, .slice a1 len1 cap1] w fun e w' => e = .returned (.bool true) ∧ Below w.heap.size w w' := by
  obtain ⟨l0, rfl, hr0, hm0, hw0, hc0⟩ := ReadsInt.ofRowC w0
  obtain ⟨l1, rfl, hr1, hm1, hw1, hc1⟩ := ReadsInt.ofRowC w1
  obtain ⟨k, h⟩ := P l0 l1 hm0 y0 hw0 hm1 y1 hw1
  refine (slices_Equal_int_int.calls k _ _ l0 _ _ l1 true w (Kd.C_of_reads (d := (0 : Int)) (h1 := fun _ => rfl) hr0) hc0 (Kd.C_of_reads (d := (0 : Int)) (h1 := fun _ => rfl) hr1) hc1 h).mono ?_
  rintro e w' ⟨rfl, hd⟩
  exact ⟨rfl, hd.below⟩

end Go.Proofs.YtjoncjnmhhimhaaDoor.PEq
end

section
/- Equality of two slices of numbers: the printed loops come to the equality of the lists. -/
namespace Go.Proofs.YtjoncjnmhhimhaaDoor.Hand
set_option linter.unusedVariables false
set_option linter.unusedSimpArgs false
open Go.RowKit Go.Proofs.YtjoncjnmhhimhaaDoorW.PrintWords Go.Proofs.YtjoncjnmhhimhaaDoorW.PrintLast Go.Proofs.YtjoncjnmhhimhaaDoorW.PrintMore
theorem i64_in (x : Int) (h0 : -9223372036854775808 ≤ x) (h1 : x ≤ 9223372036854775807) : wrap64 x = x := by unfold wrap64; omega
theorem u64_in (x : Int) (h0 : 0 ≤ x) (h1 : x < 18446744073709551616) : IntKind.u64.wrap x = x := by rw [IntKind.wrap_u64]; omega

theorem slices_Equal_uint32_uint32_loop (a b : List Int) (hab : a.length = b.length) (hn : a.length ≤ 9223372036854775807) : ∀ (d k i : Nat), i + d = a.length → d < k →
    PEq.slices_Equal_uint32_uint32.l0 k a b (a.length : Int) (i : Int) = some (decide (a.drop i = b.drop i)) := by
  intro d
  induction d with
  | zero =>
    intro k i h1 h3
    obtain ⟨k, rfl⟩ : ∃ m, k = m + 1 := ⟨k - 1, by omega⟩
    have e1 : a.drop i = [] := List.drop_eq_nil_of_le (by omega)
    have e2 : b.drop i = [] := List.drop_eq_nil_of_le (by omega)
    simp only [PEq.slices_Equal_uint32_uint32.l0]
    rw [if_neg (by omega), e1, e2]
    simp
  | succ d ih =>
    intro k i h1 h3
    obtain ⟨k, rfl⟩ : ∃ m, k = m + 1 := ⟨k - 1, by omega⟩
    have hlt : i < a.length := by omega
    have hlt2 : i < b.length := by omega
    have r1 : rd a (i : Int) = a[i] := by simp [rd, List.getD, hlt]
    have r2 : rd b (i : Int) = b[i] := by simp [rd, List.getD, hlt2]
    simp only [PEq.slices_Equal_uint32_uint32.l0]
    rw [if_pos (by omega), if_pos (by omega), if_pos (by omega), if_pos (by omega), r1, r2, i64_in _ (by omega) (by omega)]
    have hd : (a.drop i = b.drop i) ↔ (a[i] = b[i] ∧ a.drop (i + 1) = b.drop (i + 1)) := by rw [List.drop_eq_getElem_cons hlt, List.drop_eq_getElem_cons hlt2, List.cons.injEq]
    have := ih k (i + 1) (by omega) (by omega)
    rw [show ((i + 1 : Nat) : Int) = (i : Int) + 1 from by omega] at this
    by_cases he : a[i] = b[i]
    · rw [if_pos he, this]
      congr 1
      rw [decide_eq_decide, hd]
      exact ⟨fun h => ⟨he, h⟩, fun h => h.2⟩
    · rw [if_neg he]
      congr 1
      symm
      rw [decide_eq_false_iff_not, hd]
      exact fun h => he h.1
def slices_Equal_uint32_uint32.f (l0 l1 : List Int) : Option Bool := some (decide (l0 = l1))
theorem slices_Equal_uint32_uint32.calls (A0 : Option Addr) (c0 : Nat) (l0 : List Int) (A1 : Option Addr) (c1 : Nat) (l1 : List Int) (r : Bool) (w : World) (hr0 : Kd.C (Kd.int .u32) w A0 l0.length l0) (hc0 : l0.length ≤ c0) (hr1 : Kd.C (Kd.int .u32) w A1 l1.length l1) (hc1 : l1.length ≤ c1) (h : slices_Equal_uint32_uint32.f l0 l1 = some r) :
    Calls Tryd.prog 15 #[.slice A0 l0.length c0, .slice A1 l1.length c1] w fun e w' => e = .returned (.bool r) ∧ Drawn0 w w' := by
  refine PEq.slices_Equal_uint32_uint32.calls (l0.length + 1) A0 c0 l0 A1 c1 l1 r w hr0 hc0 hr1 hc1 ?_
  obtain rfl := Option.some.inj h
  have hn := (Kd.reads_of_C (d := (0 : Int)) hr0).2.1
  unfold PEq.slices_Equal_uint32_uint32.f
  by_cases hl : l0.length = l1.length
  · rw [if_pos (by omega)]
    have := slices_Equal_uint32_uint32_loop l0 l1 hl hn l0.length (l0.length + 1) 0 (by omega) (by omega)
    rw [show ((0 : Nat) : Int) = 0 from rfl] at this
    rw [this]
    simp
  · rw [if_neg (by omega)]
    congr 1
    symm
    rw [decide_eq_false_iff_not]
    intro e
    exact hl (congrArg List.length e)

theorem slices_Equal_int_int_loop (a b : List Int) (hab : a.length = b.length) (hn : a.length ≤ 9223372036854775807) : ∀ (d k i : Nat), i + d = a.length → d < k →
    PEq.slices_Equal_int_int.l0 k a b (a.length : Int) (i : Int) = some (decide (a.drop i = b.drop i)) := by
  intro d
  induction d with
  | zero =>
    intro k i h1 h3
    obtain ⟨k, rfl⟩ : ∃ m, k = m + 1 := ⟨k - 1, by omega⟩
    have e1 : a.drop i = [] := List.drop_eq_nil_of_le (by omega)
    have e2 : b.drop i = [] := List.drop_eq_nil_of_le (by omega)
    simp only [PEq.slices_Equal_int_int.l0]
    rw [if_neg (by omega), e1, e2]
    simp
  | succ d ih =>
    intro k i h1 h3
    obtain ⟨k, rfl⟩ : ∃ m, k = m + 1 := ⟨k - 1, by omega⟩
    have hlt : i < a.length := by omega
    have hlt2 : i < b.length := by omega
    have r1 : rd a (i : Int) = a[i] := by simp [rd, List.getD, hlt]
    have r2 : rd b (i : Int) = b[i] := by simp [rd, List.getD, hlt2]
    simp only [PEq.slices_Equal_int_int.l0]
    rw [if_pos (by omega), if_pos (by omega), if_pos (by omega), if_pos (by omega), r1, r2, i64_in _ (by omega) (by omega)]
    have hd : (a.drop i = b.drop i) ↔ (a[i] = b[i] ∧ a.drop (i + 1) = b.drop (i + 1)) := by rw [List.drop_eq_getElem_cons hlt, List.drop_eq_getElem_cons hlt2, List.cons.injEq]
    have := ih k (i + 1) (by omega) (by omega)
    rw [show ((i + 1 : Nat) : Int) = (i : Int) + 1 from by omega] at this
    by_cases he : a[i] = b[i]
    · rw [if_pos he, this]
      congr 1
      rw [decide_eq_decide, hd]
      exact ⟨fun h => ⟨he, h⟩, fun h => h.2⟩
    · rw [if_neg he]
      congr 1
      symm
      rw [decide_eq_false_iff_not, hd]
      exact fun h => he h.1
def slices_Equal_int_int.f (l0 l1 : List Int) : Option Bool := some (decide (l0 = l1))
theorem slices_Equal_int_int.calls (A0 : Option Addr) (c0 : Nat) (l0 : List Int) (A1 : Option Addr) (c1 : Nat) (l1 : List Int) (r : Bool) (w : World) (hr0 : Kd.C (Kd.int .i64) w A0 l0.length l0) (hc0 : l0.length ≤ c0) (hr1 : Kd.C (Kd.int .i64) w A1 l1.length l1) (hc1 : l1.length ≤ c1) (h : slices_Equal_int_int.f l0 l1 = some r) :
    Calls Tryd.prog 29 #[.slice A0 l0.length c0, .slice A1 l1.length c1] w fun e w' => e = .returned (.bool r) ∧ Drawn0 w w' := by
  refine PEq.slices_Equal_int_int.calls (l0.length + 1) A0 c0 l0 A1 c1 l1 r w hr0 hc0 hr1 hc1 ?_
  obtain rfl := Option.some.inj h
  have hn := (Kd.reads_of_C (d := (0 : Int)) hr0).2.1
  unfold PEq.slices_Equal_int_int.f
  by_cases hl : l0.length = l1.length
  · rw [if_pos (by omega)]
    have := slices_Equal_int_int_loop l0 l1 hl hn l0.length (l0.length + 1) 0 (by omega) (by omega)
    rw [show ((0 : Nat) : Int) = 0 from rfl] at this
    rw [this]
    simp
  · rw [if_neg (by omega)]
    congr 1
    symm
    rw [decide_eq_false_iff_not]
    intro e
    exact hl (congrArg List.length e)

theorem pyxref01_Same_loop (a b : List Int) (hab : a.length = b.length) (hn : a.length ≤ 9223372036854775807) : ∀ (d k i : Nat), i + d = a.length → d < k →
    PEq.pyxref01_Same.l0 k a b (i : Int) = some (decide (a.drop i = b.drop i)) := by
  intro d
  induction d with
  | zero =>
    intro k i h1 h3
    obtain ⟨k, rfl⟩ : ∃ m, k = m + 1 := ⟨k - 1, by omega⟩
    have e1 : a.drop i = [] := List.drop_eq_nil_of_le (by omega)
    have e2 : b.drop i = [] := List.drop_eq_nil_of_le (by omega)
    simp only [PEq.pyxref01_Same.l0]
    rw [if_neg (by omega), e1, e2]
    simp
  | succ d ih =>
    intro k i h1 h3
    obtain ⟨k, rfl⟩ : ∃ m, k = m + 1 := ⟨k - 1, by omega⟩
    have hlt : i < a.length := by omega
    have hlt2 : i < b.length := by omega
    have r1 : rd a (i : Int) = a[i] := by simp [rd, List.getD, hlt]
    have r2 : rd b (i : Int) = b[i] := by simp [rd, List.getD, hlt2]
    simp only [PEq.pyxref01_Same.l0]
    rw [if_pos (by omega), if_pos (by omega), if_pos (by omega), r1, r2, i64_in _ (by omega) (by omega)]
    have hd : (a.drop i = b.drop i) ↔ (a[i] = b[i] ∧ a.drop (i + 1) = b.drop (i + 1)) := by rw [List.drop_eq_getElem_cons hlt, List.drop_eq_getElem_cons hlt2, List.cons.injEq]
    have := ih k (i + 1) (by omega) (by omega)
    rw [show ((i + 1 : Nat) : Int) = (i : Int) + 1 from by omega] at this
    by_cases he : a[i] = b[i]
    · rw [if_pos he, this]
      congr 1
      rw [decide_eq_decide, hd]
      exact ⟨fun h => ⟨he, h⟩, fun h => h.2⟩
    · rw [if_neg he]
      congr 1
      symm
      rw [decide_eq_false_iff_not, hd]
      exact fun h => he h.1
def pyxref01_Same.f (l0 l1 : List Int) : Option Bool := some (decide (l0 = l1))
theorem pyxref01_Same.calls (A0 : Option Addr) (c0 : Nat) (l0 : List Int) (A1 : Option Addr) (c1 : Nat) (l1 : List Int) (r : Bool) (w : World) (hr0 : Kd.C (Kd.int .u8) w A0 l0.length l0) (hc0 : l0.length ≤ c0) (hr1 : Kd.C (Kd.int .u8) w A1 l1.length l1) (hc1 : l1.length ≤ c1) (h : pyxref01_Same.f l0 l1 = some r) :
    Calls Tryd.prog 19 #[.slice A0 l0.length c0, .slice A1 l1.length c1] w fun e w' => e = .returned (.bool r) ∧ Drawn0 w w' := by
  refine PEq.pyxref01_Same.calls (l0.length + 1) A0 c0 l0 A1 c1 l1 r w hr0 hc0 hr1 hc1 ?_
  obtain rfl := Option.some.inj h
  have hn := (Kd.reads_of_C (d := (0 : Int)) hr0).2.1
  unfold PEq.pyxref01_Same.f
  by_cases hl : l0.length = l1.length
  · rw [if_pos (by omega)]
    have := pyxref01_Same_loop l0 l1 hl hn l0.length (l0.length + 1) 0 (by omega) (by omega)
    rw [show ((0 : Nat) : Int) = 0 from rfl] at this
    rw [this]
    simp
  · rw [if_neg (by omega)]
    congr 1
    symm
    rw [decide_eq_false_iff_not]
    intro e
    exact hl (congrArg List.length e)

end Go.Proofs.YtjoncjnmhhimhaaDoor.Hand
end

section
/- oid.Text returns the text of an identifier, and the empty string of another list: the printed loop comes to the plain function. -/
namespace Go.Proofs.YtjoncjnmhhimhaaDoor.Hand
set_option linter.unusedVariables false
set_option linter.unusedSimpArgs false
open Go.RowKit Go.Proofs.YtjoncjnmhhimhaaDoorW.PrintWords Go.Proofs.YtjoncjnmhhimhaaDoorW.PrintLast Go.Proofs.YtjoncjnmhhimhaaDoorW.PrintMore
open Go.Proofs.YtjoncjnmhhimhaaDoor.Oid


theorem dec_len (u : Nat) (h : u < 18446744073709551616) : (Lib.decDigits u).length ≤ 20 := by
  rw [Lib.decDigits_length]
  rcases Nat.eq_zero_or_pos u with rfl | h1
  · rw [Lib.nDigits_small (by omega)]; omega
  · have := Lib.numDigits_eq u h1 h
    split at this <;> omega
theorem join_len (ws : List (List UInt8)) (m : Nat) (h : ∀ w ∈ ws, w.length ≤ m) : (Lib.join ws [46]).length ≤ ws.length * (m + 1) := by
  induction ws with
  | nil => simp [join_nil]
  | cons w ws ih =>
    have hw := h w (by simp)
    cases ws with
    | nil => rw [join_one]; simp; omega
    | cons v ws =>
      have := ih (fun x hx => h x (List.mem_cons_of_mem _ hx))
      rw [join_cons]
      simp only [List.length_append, List.length_cons] at this ⊢
      rw [Nat.add_mul (ws.length + 1) 1 (m + 1)]
      omega

theorem text_loop (l : List Int) (hn : l.length ≤ 20) (hp : ∀ x ∈ l, 0 ≤ x ∧ x < 4294967296) : ∀ (d k i : Nat) (acc : List ByteArray), i + d = l.length → acc.length = i → d < k →
    PText.oid_Text.l0 k acc l (l.length : Int) (i : Int) = strings_Join.f (acc ++ (l.drop i).map fun n => decB n.toNat) ⟨#[46]⟩ := by
  intro d
  induction d with
  | zero =>
    intro k i acc h1 h2 h3
    obtain ⟨k, rfl⟩ : ∃ m, k = m + 1 := ⟨k - 1, by omega⟩
    have : l.drop i = [] := List.drop_eq_nil_of_le (by omega)
    simp only [PText.oid_Text.l0]
    rw [if_neg (by omega), this]
    simp
  | succ d ih =>
    intro k i acc h1 h2 h3
    obtain ⟨k, rfl⟩ : ∃ m, k = m + 1 := ⟨k - 1, by omega⟩
    have hlt : i < l.length := by omega
    have hrd : rd l (i : Int) = l[i] := by simp [rd, List.getD, hlt]
    obtain ⟨p0, p1⟩ := hp l[i] (List.getElem_mem hlt)
    simp only [PText.oid_Text.l0]
    rw [if_pos (by omega), if_pos (by omega), if_pos (by omega), hrd, u64_in _ p0 (by omega)]
    have hf : strconv_FormatUint.f l[i] 10 = some (decB l[i].toNat) := by unfold strconv_FormatUint.f; rw [if_pos ⟨p0, by omega, rfl⟩]
    rw [hf]
    simp only [Option.bind_some]
    rw [if_pos (by omega), i64_in _ (by omega) (by omega)]
    have := ih k (i + 1) (acc ++ [decB l[i].toNat]) (by omega) (by simp; omega) (by omega)
    rw [show ((i + 1 : Nat) : Int) = (i : Int) + 1 from by omega] at this
    rw [this, List.drop_eq_getElem_cons hlt, List.map_cons, List.append_assoc]
    rfl

theorem valid_parts {l : List Int} (h : validB l = true) : 2 ≤ l.length ∧ l.length ≤ 20 ∧ l.getD 0 0 ≤ 2 ∧ (2 ≤ l.getD 0 0 ∨ l.getD 1 0 < 40) ∧ ∀ n ∈ l, n < 4294967216 := by
  unfold validB at h
  simp only [Bool.and_eq_true, Bool.or_eq_true, decide_eq_true_eq, List.all_eq_true] at h
  exact ⟨h.1.1.1.1, h.1.1.1.2, h.1.1.2, h.1.2, h.2⟩

theorem text_comes (l : List Int) (hp : ∀ x ∈ l, 0 ≤ x) : PText.oid_Text.f 21 l = some (textB l) := by
  unfold PText.oid_Text.f oid_Valid.f
  simp only [Option.bind_some]
  by_cases hv : validB l = true
  · obtain ⟨h1, h2, _, _, h5⟩ := valid_parts hv
    rw [if_pos hv]
    have := text_loop l h2 (fun x hx => ⟨hp x hx, by have := h5 x hx; omega⟩) l.length 21 0 [] (by omega) rfl (by omega)
    rw [show ((0 : Nat) : Int) = 0 from rfl] at this
    rw [this]
    unfold textB
    rw [if_pos hv]
    have e : (([] ++ (List.drop 0 l).map fun n => decB n.toNat) : List ByteArray).map (·.data.toList) = l.map fun n => Lib.decDigits n.toNat := by
      simp [decB]
    have hl : (Lib.join (l.map fun n => Lib.decDigits n.toNat) [46]).length ≤ 140737488355328 := by
      have := join_len (l.map fun n => Lib.decDigits n.toNat) 20 (fun w hw => by
        obtain ⟨n, hn, rfl⟩ := List.mem_map.1 hw
        exact dec_len _ (by have := h5 n hn; omega))
      rw [List.length_map] at this
      omega
    unfold strings_Join.f
    rw [e, if_pos ⟨by simp; omega, hl⟩]
    rfl
  · rw [if_neg hv]
    unfold textB
    rw [if_neg hv]

theorem oid_Text.calls (A0 : Option Addr) (c0 : Nat) (l0 : List Int) (r : ByteArray) (w : World) (HLd : LaidOk w) (hr0 : Kd.C (Kd.int .u32) w A0 l0.length l0) (hc0 : l0.length ≤ c0) (h : oid_Text.f l0 = some r) :
    Calls Tryd.prog 16 #[.slice A0 l0.length c0] w fun e w' => e = .returned (.string r) ∧ Below w.heap.size w w' := by
  unfold oid_Text.f at h
  by_cases hp : (l0.all fun x => decide (0 ≤ x)) = true
  · rw [if_pos hp] at h
    refine PText.oid_Text.calls 21 A0 c0 l0 r w HLd hr0 hc0 ?_
    rw [text_comes l0 (fun x hx => by simpa using List.all_eq_true.1 hp x hx)]
    exact h
  · rw [if_neg hp] at h
    cases h

end Go.Proofs.YtjoncjnmhhimhaaDoor.Hand
end

section
-- Written by the kit's print.py, driven by this place's wip/tools/myprint.py. Not trusted: Lean checks it.
namespace Go.Proofs.YtjoncjnmhhimhaaDoor.PParse
open Go.RowKit Go.Proofs.YtjoncjnmhhimhaaDoor.Hand Go.Proofs.YtjoncjnmhhimhaaDoorW.PrintWords Go.Proofs.YtjoncjnmhhimhaaDoorW.PrintLast Go.Proofs.YtjoncjnmhhimhaaDoorW.PrintMore
attribute [local go_sem] max2_int min2_int max_two min_two max_three min_three max_four min_four   -- for this text's walks alone
set_option linter.unusedVariables false
set_option linter.unusedSimpArgs false



def errW : Option Int → Value
  | none => .nilIface
  | some c => .iface 0 (.int .i64 c)
theorem errW_none : errW none = .nilIface := rfl
theorem errW_some (c : Int) : errW (some c) = .iface 0 (.int .i64 c) := rfl

theorem info27 : (Tryd.prog.info? 27).map (fun i => (i.zero, i.size, i.bytes)) = some (some (.int .u32 0), 1, 4) := by kernel_rfl
-- the values' own types
def rd_L1 (xs : List (List Int)) (i : Int) : (List Int) := xs.getD i.toNat ([] : List Int)
theorem at_L1 {w : World} {A : Option Addr} {n : Nat} {xs : List (List Int)} (h : Kd.C (Kd.slice 27 (Kd.int .u32)) w A n xs) (i : Int) (h0 : 0 ≤ i) (h1 : i < n) : ∃ ad A0 c0, A = some ad ∧ w.cell? (ad.add i.toNat) = some (.slice A0 (rd_L1 xs i).length c0) ∧ (rd_L1 xs i).length ≤ c0 ∧ (Kd.int .u32).C w A0 (rd_L1 xs i).length (rd_L1 xs i) := by
  obtain ⟨ad, c, e, _, hK, hc0⟩ := Kd.C_get h ([] : List Int) i h0 h1
  have hc : ∀ j u, c[j]? = some u → w.cell? (ad.add (i.toNat * 1 + j)) = some u := hc0
  obtain ⟨A0, c0, rfl, l0, g0⟩ := hK
  exact ⟨ad, A0, c0, e, by have hq := hc 0 _ rfl; rwa [Nat.mul_one, Nat.add_zero] at hq, l0, g0⟩

def rd_L4 (xs : List (List ByteArray)) (i : Int) : (List ByteArray) := xs.getD i.toNat ([] : List ByteArray)
theorem at_L4 {w : World} {A : Option Addr} {n : Nat} {xs : List (List ByteArray)} (h : Kd.C (Kd.slice 9 Kd.string) w A n xs) (i : Int) (h0 : 0 ≤ i) (h1 : i < n) : ∃ ad A0 c0, A = some ad ∧ w.cell? (ad.add i.toNat) = some (.slice A0 (rd_L4 xs i).length c0) ∧ (rd_L4 xs i).length ≤ c0 ∧ Kd.string.C w A0 (rd_L4 xs i).length (rd_L4 xs i) := by
  obtain ⟨ad, c, e, _, hK, hc0⟩ := Kd.C_get h ([] : List ByteArray) i h0 h1
  have hc : ∀ j u, c[j]? = some u → w.cell? (ad.add (i.toNat * 1 + j)) = some u := hc0
  obtain ⟨A0, c0, rfl, l0, g0⟩ := hK
  exact ⟨ad, A0, c0, e, by have hq := hc 0 _ rfl; rwa [Nat.mul_one, Nat.add_zero] at hq, l0, g0⟩

end Go.Proofs.YtjoncjnmhhimhaaDoor.PParse
namespace Go.Proofs.YtjoncjnmhhimhaaDoor.PParse
open Go.RowKit Go.Proofs.YtjoncjnmhhimhaaDoor.Hand Go.Proofs.YtjoncjnmhhimhaaDoorW.PrintWords Go.Proofs.YtjoncjnmhhimhaaDoorW.PrintLast Go.Proofs.YtjoncjnmhhimhaaDoorW.PrintMore
attribute [local go_sem] max2_int min2_int max_two min_two max_three min_three max_four min_four   -- for this text's walks alone
set_option linter.unusedVariables false
set_option linter.unusedSimpArgs false

-- BY CONTRACT: function 16 (oid_Text)

-- BY CONTRACT: function 36 (oid_Valid)

-- BY CONTRACT: function 37 (strings_Split)

-- BY CONTRACT: function 38 (strconv_ParseUint)

/-! ### oid_Parse: function 13 -/
def oid_Parse.l0 : Nat → ByteArray → List Int → List ByteArray → Int → Int → Option (List Int × Bool)
  | 0, _, _, _, _, _ => none
  | k + 1, x0, x4, x10, x11, x12 => if x12 < x11 then (if 0 ≤ x12 then (if x12 < (x10.length : Int) then ((strconv_ParseUint.f (rdOf ByteArray.empty x10 x12) 10 32).bind fun bt105 => (if bt105.2.isNone = true then (if (x4.length : Int) > 20 then (some (([] : List Int), false)) else (if x4.length < 35184372088832 then (oid_Parse.l0 k x0 (x4 ++ [(bt105.1) % 4294967296]) x10 x11 (wrap64 (x12 + 1))) else (none))) else (some (([] : List Int), false)))) else (none)) else (none)) else ((oid_Text.f x4).bind fun t111 => (if t111.toList = x0.toList then ((oid_Valid.f x4).bind fun t112 => (if t112 = true then (some (x4, true)) else (some (([] : List Int), false)))) else (some (([] : List Int), false))))
def oid_Parse.f (k : Nat) (a0 : ByteArray) : Option (List Int × Bool) := (strings_Split.f a0 (⟨#[46]⟩ : ByteArray)).bind fun t101 => (oid_Parse.l0 k a0 ([] : List Int) t101 (t101.length : Int) 0)
theorem oid_Parse.mono_l : ∀ k, (∀ y0 y1 y2 y3 y4, LeO (oid_Parse.l0 k y0 y1 y2 y3 y4) (oid_Parse.l0 (k + 1) y0 y1 y2 y3 y4))
  | 0 => fun _ _ _ _ _ r h => by simp [oid_Parse.l0] at h
  | k + 1 => by
    have ih0 := oid_Parse.mono_l k
    · intro y0 y1 y2 y3 y4
      unfold oid_Parse.l0
      repeat' first
      | (with_reducible exact ih0 _ _ _ _ _)
      | (with_reducible exact LeO.refl _)
      | (with_reducible exact LeO.none _)
      | (with_reducible refine LeO.ite ?_ ?_)
      | (with_reducible refine LeO.bind ?_ (fun _ => ?_))
      | exact ih0 _ _ _ _ _
      | exact LeO.none _
      | refine LeO.ite ?_ ?_
      | refine LeO.bind ?_ (fun _ => ?_)
theorem oid_Parse.mono : ∀ a0 k, LeO (oid_Parse.f k a0) (oid_Parse.f (k + 1) a0) := by
  intro a0 k
  have ih0 := oid_Parse.mono_l k
  unfold oid_Parse.f
  repeat' first
      | (with_reducible exact ih0 _ _ _ _ _)
      | (with_reducible exact LeO.refl _)
      | (with_reducible exact LeO.none _)
      | (with_reducible refine LeO.ite ?_ ?_)
      | (with_reducible refine LeO.bind ?_ (fun _ => ?_))
      | exact ih0 _ _ _ _ _
      | exact LeO.none _
      | refine LeO.ite ?_ ?_
      | refine LeO.bind ?_ (fun _ => ?_)
set_option maxHeartbeats 8000000 in
set_option maxRecDepth 100000 in
theorem oid_Parse.calls (k : Nat) (a0 : ByteArray) (r1 : List Int) (r2 : Bool) (w : World) (HLd : LaidOk w) (h : oid_Parse.f k a0 = some (r1, r2)) :
    Calls Tryd.prog 13 #[.string a0] w fun e w' => ∃ v0_ : Value, e = .returned (.tuple #[v0_, .bool r2]) ∧ Kd.R (Kd.int .u32) 27 w' w.heap.size (fun _ => True) v0_ r1 ∧ Below w.heap.size w w' := by
  have hu63 := Tryd.underlying63
  have HB := Aside0.mk (Below.refl w.heap.size w)
  have H : ((strings_Split.f a0 (⟨#[46]⟩ : ByteArray)).bind fun t101 => (oid_Parse.l0 k a0 ([] : List Int) t101 (t101.length : Int) 0)) = some (r1, r2) := h
  clear h
  replace H := Option.bind_eq_some_iff.mp H
  obtain ⟨t101, A20, H⟩ := H
  replace H : (oid_Parse.l0 k a0 ([] : List Int) t101 (t101.length : Int) 0) = some (r1, r2) := H
  have A2 := Aside0.mk A20
  clear A20
  have H' := Aside0.mk H
  clear H
  go_enter Tryd.func13, Tryd.ntmps13
  go_wp2_with (first | ((with_reducible refine gate_callee (f := 37) rfl ?_); refine goesL_ (some 10) rfl rfl Tryd.func37 (by kernel_rfl) rfl #[.string a0, .string (⟨#[46]⟩ : ByteArray)] rfl (by (try simp only [List.map_toArray, List.map_cons, List.map_nil]); first | done | rfl | (simp only [List.length_drop, List.length_take]; rfl)) ?_; (with_reducible refine (strings_Split.calls a0 (⟨#[46]⟩ : ByteArray) t101 _ ?side1 A2.out).mono ?_); (case side1 => first | exact HLd | (exact LaidOk.below HLd (by repeat (first | (with_reducible first | exact HB.out | apply below_alloc | apply pw_below_drewN | apply below_drew1) | exact HB.out))) | (repeat (first | exact HLd | apply LaidOk.drewN | apply LaidOk.drew | apply LaidOk.alloc))); rintro e w3 ⟨v102, rfl, ho0, hb⟩; refine ⟨_, rfl, ?_⟩; have n0_ := Aside0.mk (Kd.R_lower ho0 (below_size (by repeat (first | (with_reducible first | exact HB.out | apply below_alloc | apply pw_below_drewN | apply below_drew1) | exact HB.out)))); have n1_ := Aside0.mk (below_step (by repeat (first | (with_reducible first | exact HB.out | apply below_alloc | apply pw_below_drewN | apply below_drew1) | exact HB.out)) hb); clear HB; have HO103 := n0_; have HB := n1_; clear n0_ n1_; (try clear hb); (try clear hb2); (try clear hk); (try clear hi); (try clear ho0); obtain ⟨Ao4, co4, eo4⟩ := Kd.R_slice HO103.out; subst eo4))
  go_loopg [4, 12] k (fun kq v4 v12 w' => ∃ (x4_1 : List Int) (x12_1 : Int), v12 = .int .i64 x12_1 ∧ Aside0 (oid_Parse.l0 kq a0 x4_1 t101 (t101.length : Int) x12_1 = some (r1, r2)) ∧ Aside0 (kq ≤ k) ∧ Aside0 (Kd.R (Kd.int .u32) 27 w' w.heap.size (fun _ => True) v4 x4_1) ∧ Aside0 (Kd.R Kd.string 9 w' w.heap.size (fun _ => True) (.slice Ao4 t101.length co4) t101) ∧ Aside0 (Below w.heap.size w w'))
  case atStart => exact ⟨(([] : List Int)), (0), (by first | rfl | (simp; done) | (simp [*]; done)), H', ⟨Nat.le_refl _⟩, ⟨by first | exact Kd.R_nil _ _ _ _ _ | exact Kd.N_nil _ _ _ _ _ | exact Kd.V_nil _ _ _ _ _ | exact Kd.Q_nil _ _ _ _ _ | exact Kd.S_nil _ _ _ _ _⟩, ⟨by (with_reducible repeat (first | apply Kd.R_alloc | apply Kd.R_drewN | apply Kd.R_drew)); exact HO103.out⟩, ⟨by repeat (first | (with_reducible first | exact HB.out | apply below_alloc | apply pw_below_drewN | apply below_drew1) | exact HB.out)⟩⟩
  case round =>
    clear H'
    try clear c1
    try clear p2
    try clear c3
    obtain ⟨x4_1, x12_1, rfl, HA, HK1, HO_4, HO_10, HB⟩ := hrel
    cases gk with
    | zero => exact absurd HA.out (by simp [oid_Parse.l0])
    | succ k1 =>
      have H := HA.out
      clear HA
      simp only [oid_Parse.l0] at H
      by_cases c5 : x12_1 < (t101.length : Int)
      · rw [if_pos c5] at H
        have c5b0 : decide (x12_1 < (t101.length : Int)) = true := decide_eq_true c5
        clear c5
        by_cases c6 : 0 ≤ x12_1
        · rw [if_pos c6] at H
          have c6b0 : decide (0 ≤ x12_1) = true := decide_eq_true c6
          clear c6
          by_cases c7 : x12_1 < (t101.length : Int)
          · rw [if_pos c7] at H
            have c7b0 : decide (x12_1 < (t101.length : Int)) = true := decide_eq_true c7
            clear c7
            replace H := Option.bind_eq_some_iff.mp H
            obtain ⟨⟨t105, t106⟩, A80, H⟩ := H
            replace H : (if t106.isNone = true then (if (x4_1.length : Int) > 20 then (some (([] : List Int), false)) else (if x4_1.length < 35184372088832 then (oid_Parse.l0 k1 a0 (x4_1 ++ [(t105) % 4294967296]) t101 (t101.length : Int) (wrap64 (x12_1 + 1))) else (none))) else (some (([] : List Int), false))) = some (r1, r2) := H
            have A8 := Aside0.mk A80
            clear A80
            rcases t106 with _ | q107
            · have H1 : (if (x4_1.length : Int) > 20 then (some (([] : List Int), false)) else (if x4_1.length < 35184372088832 then (oid_Parse.l0 k1 a0 (x4_1 ++ [(t105) % 4294967296]) t101 (t101.length : Int) (wrap64 (x12_1 + 1))) else (none))) = some (r1, r2) := by rw [if_pos (show (none : Option Int).isNone = true by rfl)] at H; exact H
              clear H
              have H := H1
              clear H1
              try simp only [errW_none, errW_some]
              by_cases c9 : (x4_1.length : Int) > 20
              · rw [if_pos c9] at H
                have c9b0 : decide (20 < (x4_1.length : Int)) = true := decide_eq_true c9
                have c9b1 : decide (20 < x4_1.length) = true := decide_eq_true (by omega)
                clear c9
                simp only [Option.some.injEq, Prod.mk.injEq] at H
                obtain ⟨rfl, rfl⟩ := H
                have p104 : 0 ≤ (x12_1 : Int) := of_decide_eq_true (by first | (with_reducible assumption) | assumption)
                have q104 : x12_1 < (t101.length : Int) := of_decide_eq_true (by first | (with_reducible assumption) | assumption)
                obtain ⟨ad104, e104, hx104_0⟩ := Kd.at_string (Kd.R_reads' HO_10.out).2.2 x12_1 p104 q104
                cases e104
                replace p104 := eq_true p104
                replace q104 := eq_true q104
                go_wp2_with (first | ((with_reducible refine gate_callee (f := 38) rfl ?_); refine goesL_ (some 18) rfl rfl Tryd.func38 (by kernel_rfl) rfl #[.string (rdOf ByteArray.empty t101 x12_1), .int .i64 10, .int .i64 32] rfl (by (try simp only [List.map_toArray, List.map_cons, List.map_nil]); first | done | rfl | (simp only [List.length_drop, List.length_take]; rfl)) ?_; (with_reducible refine (strconv_ParseUint.calls (rdOf ByteArray.empty t101 x12_1) 10 32 t105 none _ ?side1 A8.out).mono ?_); (case side1 => first | exact HLd | (exact LaidOk.below HLd (by repeat (first | (with_reducible first | exact HB.out | apply below_alloc | apply pw_below_drewN | apply below_drew1) | exact HB.out))) | (repeat (first | exact HLd | apply LaidOk.drewN | apply LaidOk.drew | apply LaidOk.alloc))); rintro e w10 ⟨ev_, rfl, (hev_ : ev_ = .nilIface), hb⟩; subst hev_; refine ⟨_, rfl, ?_⟩; have n0_ := Aside0.mk (Kd.R_below (by (with_reducible repeat (first | apply Kd.R_alloc | apply Kd.R_drewN | apply Kd.R_drew)); exact HO_4.out) hb); have n1_ := Aside0.mk (Kd.R_below (by (with_reducible repeat (first | apply Kd.R_alloc | apply Kd.R_drewN | apply Kd.R_drew)); exact HO_10.out) hb); have n2_ := Aside0.mk (below_step (by repeat (first | (with_reducible first | exact HB.out | apply below_alloc | apply pw_below_drewN | apply below_drew1) | exact HB.out)) hb); clear HO_4; clear HO_10; clear HB; have HO_4 := n0_; have HO_10 := n1_; have HB := n2_; clear n0_ n1_ n2_; (try clear hb); (try clear hb2); (try clear hk); (try clear hi); (try simp only [errW_none, errW_some]); obtain ⟨Ao11, co11, eo11⟩ := Kd.R_slice HO_4.out; subst eo11))
                go_ret2
                exact ⟨_, by first | rfl | (simp [errW_none, errW_some] <;> rfl) | (simp [*, errW_none, errW_some] <;> rfl), by first | exact Kd.R_nil _ _ _ _ _ | exact Kd.N_nil _ _ _ _ _ | exact Kd.V_nil _ _ _ _ _ | exact Kd.Q_nil _ _ _ _ _ | exact Kd.S_nil _ _ _ _ _, by repeat (first | (with_reducible first | exact HB.out | apply below_alloc | apply pw_below_drewN | apply below_drew1) | exact HB.out)⟩
              · rw [if_neg c9] at H
                have c9b0 : decide (20 < (x4_1.length : Int)) = false := decide_eq_false c9
                have c9b1 : decide (20 < x4_1.length) = false := decide_eq_false (by omega)
                clear c9
                by_cases c12 : x4_1.length < 35184372088832
                · rw [if_pos c12] at H
                  have LMc12 := Aside0.mk c12
                  clear c12
                  obtain ⟨y108, hy108⟩ : ∃ y_ : List Int, y_ = (x4_1 ++ [(t105) % 4294967296]) := ⟨_, rfl⟩
                  replace H : (oid_Parse.l0 k1 a0 y108 t101 (t101.length : Int) (wrap64 (x12_1 + 1))) = some (r1, r2) := by first | (rw [hy108]; with_reducible exact H) | (have H2_ := (Option.bind_some _ _).symm.trans H; rw [hy108]; with_reducible exact H2_) | (have H2_ := (Option.bind_some _ _).symm.trans H; with_reducible exact H2_) | with_reducible exact H | (rw [hy108]; exact H) | exact H
                  have Ny108 := Aside0.mk hy108
                  clear hy108
                  have H' := Aside0.mk H
                  clear H
                  have p104 : 0 ≤ (x12_1 : Int) := of_decide_eq_true (by first | (with_reducible assumption) | assumption)
                  have q104 : x12_1 < (t101.length : Int) := of_decide_eq_true (by first | (with_reducible assumption) | assumption)
                  obtain ⟨ad104, e104, hx104_0⟩ := Kd.at_string (Kd.R_reads' HO_10.out).2.2 x12_1 p104 q104
                  cases e104
                  replace p104 := eq_true p104
                  replace q104 := eq_true q104
                  go_wp2_with (first | ((with_reducible refine gate_callee (f := 38) rfl ?_); refine goesL_ (some 18) rfl rfl Tryd.func38 (by kernel_rfl) rfl #[.string (rdOf ByteArray.empty t101 x12_1), .int .i64 10, .int .i64 32] rfl (by (try simp only [List.map_toArray, List.map_cons, List.map_nil]); first | done | rfl | (simp only [List.length_drop, List.length_take]; rfl)) ?_; (with_reducible refine (strconv_ParseUint.calls (rdOf ByteArray.empty t101 x12_1) 10 32 t105 none _ ?side1 A8.out).mono ?_); (case side1 => first | exact HLd | (exact LaidOk.below HLd (by repeat (first | (with_reducible first | exact HB.out | apply below_alloc | apply pw_below_drewN | apply below_drew1) | exact HB.out))) | (repeat (first | exact HLd | apply LaidOk.drewN | apply LaidOk.drew | apply LaidOk.alloc))); rintro e w13 ⟨ev_, rfl, (hev_ : ev_ = .nilIface), hb⟩; subst hev_; refine ⟨_, rfl, ?_⟩; have n0_ := Aside0.mk (Kd.R_below (by (with_reducible repeat (first | apply Kd.R_alloc | apply Kd.R_drewN | apply Kd.R_drew)); exact HO_4.out) hb); have n1_ := Aside0.mk (Kd.R_below (by (with_reducible repeat (first | apply Kd.R_alloc | apply Kd.R_drewN | apply Kd.R_drew)); exact HO_10.out) hb); have n2_ := Aside0.mk (below_step (by repeat (first | (with_reducible first | exact HB.out | apply below_alloc | apply pw_below_drewN | apply below_drew1) | exact HB.out)) hb); clear HO_4; clear HO_10; clear HB; have HO_4 := n0_; have HO_10 := n1_; have HB := n2_; clear n0_ n1_ n2_; (try clear hb); (try clear hb2); (try clear hk); (try clear hi); (try simp only [errW_none, errW_some]); obtain ⟨Ao14, co14, eo14⟩ := Kd.R_slice HO_4.out; subst eo14) | ((with_reducible refine gate_builtin (b := .append) (xs := #[.tmp 28, .tmp 31]) rfl ?_); (try (refine gate_guard (by rfl) ?_; dsimp only)); at_builtin; refine Kd.R_append (Kd.int .u32) (w0 := w) w.heap.size rfl (.tmp 28) (.tmp 31) 23 27 (.int .u32 0) 4 rfl Tryd.underlying23 info27 rfl (by decide) (by omega) (.slice Ao14 x4_1.length co14) x4_1 ((t105) % 4294967296) [.int .u32 ((t105) % 4294967296)] (fun _ => True) (fun _ => False) rfl rfl ?aP (fun _ hk => hk.elim) ?aF ?aO ?aB ?aS ?aL ?_; (case aP => exact rfl); (case aB => exact (by repeat (first | (with_reducible first | exact HB.out | apply below_alloc | apply pw_below_drewN | apply below_drew1) | exact HB.out))); (case aF => exact (fun _ _ => trivial)); (case aO => exact (by (with_reducible repeat (first | apply Kd.R_alloc | apply Kd.R_drewN | apply Kd.R_drew)); exact HO_4.out)); (case aS => exact (below_size (by repeat (first | (with_reducible first | exact HB.out | apply below_alloc | apply pw_below_drewN | apply below_drew1) | exact HB.out)))); (case aL => have := LMc12.out; omega); intro v109 w15 ho hb hg hat; rw [← Ny108.out] at ho; have n0_ := Aside0.mk (Kd.R_over' (by (with_reducible repeat (first | apply Kd.R_alloc | apply Kd.R_drewN | apply Kd.R_drew)); exact HO_10.out) (Kd.R_typed (by (with_reducible repeat (first | apply Kd.R_alloc | apply Kd.R_drewN | apply Kd.R_drew)); exact HO_4.out)) (by decide) hg); have n1_ := Aside0.mk (hb); have n2_ := Aside0.mk (ho); clear HO_10; clear HB; clear HO_4; have HO_10 := n0_; have HB := n1_; have HO110 := n2_; clear n0_ n1_ n2_; clear ho hb hg hat))
                  go_roundg k1
                  case measure => have := HK1.out; omega
                  case rel => exact ⟨(y108), (wrap64 (x12_1 + 1)), (by first | rfl | (simp; done) | (simp [*]; done)), H', ⟨by have := HK1.out; omega⟩, ⟨by (with_reducible repeat (first | apply Kd.R_alloc | apply Kd.R_drewN | apply Kd.R_drew)); exact HO110.out⟩, ⟨by (with_reducible repeat (first | apply Kd.R_alloc | apply Kd.R_drewN | apply Kd.R_drew)); exact HO_10.out⟩, ⟨by repeat (first | (with_reducible first | exact HB.out | apply below_alloc | apply pw_below_drewN | apply below_drew1) | exact HB.out)⟩⟩
                · rw [if_neg c12] at H
                  exact absurd H (by simp)
            · have H1 : (some (([] : List Int), false)) = some (r1, r2) := by rw [if_neg (show ¬ (some q107).isNone = true by simp)] at H; exact H
              clear H
              have H := H1
              clear H1
              try simp only [errW_none, errW_some]
              simp only [Option.some.injEq, Prod.mk.injEq] at H
              obtain ⟨rfl, rfl⟩ := H
              have p104 : 0 ≤ (x12_1 : Int) := of_decide_eq_true (by first | (with_reducible assumption) | assumption)
              have q104 : x12_1 < (t101.length : Int) := of_decide_eq_true (by first | (with_reducible assumption) | assumption)
              obtain ⟨ad104, e104, hx104_0⟩ := Kd.at_string (Kd.R_reads' HO_10.out).2.2 x12_1 p104 q104
              cases e104
              replace p104 := eq_true p104
              replace q104 := eq_true q104
              go_wp2_with (first | ((with_reducible refine gate_callee (f := 38) rfl ?_); refine goesL_ (some 18) rfl rfl Tryd.func38 (by kernel_rfl) rfl #[.string (rdOf ByteArray.empty t101 x12_1), .int .i64 10, .int .i64 32] rfl (by (try simp only [List.map_toArray, List.map_cons, List.map_nil]); first | done | rfl | (simp only [List.length_drop, List.length_take]; rfl)) ?_; (with_reducible refine (strconv_ParseUint.calls (rdOf ByteArray.empty t101 x12_1) 10 32 t105 (some q107) _ ?side1 A8.out).mono ?_); (case side1 => first | exact HLd | (exact LaidOk.below HLd (by repeat (first | (with_reducible first | exact HB.out | apply below_alloc | apply pw_below_drewN | apply below_drew1) | exact HB.out))) | (repeat (first | exact HLd | apply LaidOk.drewN | apply LaidOk.drew | apply LaidOk.alloc))); rintro e w16 ⟨ev_, rfl, ⟨tp_, pv_, hev_⟩, hb⟩; subst hev_; refine ⟨_, rfl, ?_⟩; have n0_ := Aside0.mk (Kd.R_below (by (with_reducible repeat (first | apply Kd.R_alloc | apply Kd.R_drewN | apply Kd.R_drew)); exact HO_4.out) hb); have n1_ := Aside0.mk (Kd.R_below (by (with_reducible repeat (first | apply Kd.R_alloc | apply Kd.R_drewN | apply Kd.R_drew)); exact HO_10.out) hb); have n2_ := Aside0.mk (below_step (by repeat (first | (with_reducible first | exact HB.out | apply below_alloc | apply pw_below_drewN | apply below_drew1) | exact HB.out)) hb); clear HO_4; clear HO_10; clear HB; have HO_4 := n0_; have HO_10 := n1_; have HB := n2_; clear n0_ n1_ n2_; (try clear hb); (try clear hb2); (try clear hk); (try clear hi); (try simp only [errW_none, errW_some])))
              go_ret2
              exact ⟨_, by first | rfl | (simp [errW_none, errW_some] <;> rfl) | (simp [*, errW_none, errW_some] <;> rfl), by first | exact Kd.R_nil _ _ _ _ _ | exact Kd.N_nil _ _ _ _ _ | exact Kd.V_nil _ _ _ _ _ | exact Kd.Q_nil _ _ _ _ _ | exact Kd.S_nil _ _ _ _ _, by repeat (first | (with_reducible first | exact HB.out | apply below_alloc | apply pw_below_drewN | apply below_drew1) | exact HB.out)⟩
          · rw [if_neg c7] at H
            exact absurd H (by simp)
        · rw [if_neg c6] at H
          exact absurd H (by simp)
      · rw [if_neg c5] at H
        have c5b0 : decide (x12_1 < (t101.length : Int)) = false := decide_eq_false c5
        clear c5
        replace H := Option.bind_eq_some_iff.mp H
        obtain ⟨t111, A170, H⟩ := H
        replace H : (if t111.toList = a0.toList then ((oid_Valid.f x4_1).bind fun t112 => (if t112 = true then (some (x4_1, true)) else (some (([] : List Int), false)))) else (some (([] : List Int), false))) = some (r1, r2) := H
        have A17 := Aside0.mk A170
        clear A170
        by_cases c18 : t111.toList = a0.toList
        · rw [if_pos c18] at H
          have c18b0 : (t111.toList == a0.toList) = true := beq_iff_eq.mpr c18
          have c18b1 : (t111.toList != a0.toList) = false := bne_eq_false_iff_eq.mpr c18
          clear c18
          replace H := Option.bind_eq_some_iff.mp H
          obtain ⟨t112, A190, H⟩ := H
          replace H : (if t112 = true then (some (x4_1, true)) else (some (([] : List Int), false))) = some (r1, r2) := H
          have A19 := Aside0.mk A190
          clear A190
          by_cases c20 : t112 = true
          · subst c20
            have H1 : (some (x4_1, true)) = some (r1, r2) := by rw [if_pos rfl] at H; exact H
            clear H
            have H := H1
            clear H1
            simp only [Option.some.injEq, Prod.mk.injEq] at H
            obtain ⟨rfl, rfl⟩ := H
            obtain ⟨Ao21, co21, eo21⟩ := Kd.R_slice HO_4.out
            subst eo21
            go_wp2_with (first | ((with_reducible refine gate_callee (f := 16) rfl ?_); refine goesL_ (some 35) rfl rfl Tryd.func16 (by kernel_rfl) rfl #[.slice Ao21 x4_1.length co21] rfl (by (try simp only [List.map_toArray, List.map_cons, List.map_nil]); first | done | rfl | (simp only [List.length_drop, List.length_take]; rfl)) ?_; (with_reducible refine (oid_Text.calls _ _ x4_1 t111 _ ?side1 ?side2 ?side3 A17.out).mono ?_); (case side1 => first | exact HLd | (exact LaidOk.below HLd (by repeat (first | (with_reducible first | exact HB.out | apply below_alloc | apply pw_below_drewN | apply below_drew1) | exact HB.out))) | (repeat (first | exact HLd | apply LaidOk.drewN | apply LaidOk.drew | apply LaidOk.alloc))); (case side2 => repeat (first | exact (Kd.R_reads' HO_4.out).2.2 | (with_reducible refine Kd.C_alloc ?_ _) | (with_reducible refine Kd.C_drewN ?_ _) | (with_reducible refine Kd.C_drew ?_))); (case side3 => exact (Kd.R_reads' HO_4.out).2.1); rintro e w22 ⟨rfl, hb⟩; refine ⟨_, rfl, ?_⟩; have n0_ := Aside0.mk (Kd.R_below (by (with_reducible repeat (first | apply Kd.R_alloc | apply Kd.R_drewN | apply Kd.R_drew)); exact HO_4.out) hb); have n1_ := Aside0.mk (Kd.R_below (by (with_reducible repeat (first | apply Kd.R_alloc | apply Kd.R_drewN | apply Kd.R_drew)); exact HO_10.out) hb); have n2_ := Aside0.mk (below_step (by repeat (first | (with_reducible first | exact HB.out | apply below_alloc | apply pw_below_drewN | apply below_drew1) | exact HB.out)) hb); clear HO_4; clear HO_10; clear HB; have HO_4 := n0_; have HO_10 := n1_; have HB := n2_; clear n0_ n1_ n2_; (try clear hb); (try clear hb2); (try clear hk); (try clear hi)) | (go_at_call 36; (with_reducible refine (oid_Valid.calls _ _ x4_1 true _ ?side1 ?side2 A19.out).mono ?_); (case side1 => repeat (first | exact (Kd.R_reads' HO_4.out).2.2 | (with_reducible refine Kd.C_alloc ?_ _) | (with_reducible refine Kd.C_drewN ?_ _) | (with_reducible refine Kd.C_drew ?_))); (case side2 => exact (Kd.R_reads' HO_4.out).2.1); rintro e w' ⟨rfl, ⟨nd, rfl⟩⟩))
            go_ret2
            exact ⟨_, by first | rfl | (simp [errW_none, errW_some] <;> rfl) | (simp [*, errW_none, errW_some] <;> rfl), by (with_reducible repeat (first | apply Kd.R_alloc | apply Kd.R_drewN | apply Kd.R_drew)); exact HO_4.out, by repeat (first | (with_reducible first | exact HB.out | apply below_alloc | apply pw_below_drewN | apply below_drew1) | exact HB.out)⟩
          · replace c20 := Bool.eq_false_iff.mpr c20
            subst c20
            have H1 : (some (([] : List Int), false)) = some (r1, r2) := by rw [if_neg (show ¬ (false = true) by decide)] at H; exact H
            clear H
            have H := H1
            clear H1
            simp only [Option.some.injEq, Prod.mk.injEq] at H
            obtain ⟨rfl, rfl⟩ := H
            obtain ⟨Ao23, co23, eo23⟩ := Kd.R_slice HO_4.out
            subst eo23
            go_wp2_with (first | ((with_reducible refine gate_callee (f := 16) rfl ?_); refine goesL_ (some 35) rfl rfl Tryd.func16 (by kernel_rfl) rfl #[.slice Ao23 x4_1.length co23] rfl (by (try simp only [List.map_toArray, List.map_cons, List.map_nil]); first | done | rfl | (simp only [List.length_drop, List.length_take]; rfl)) ?_; (with_reducible refine (oid_Text.calls _ _ x4_1 t111 _ ?side1 ?side2 ?side3 A17.out).mono ?_); (case side1 => first | exact HLd | (exact LaidOk.below HLd (by repeat (first | (with_reducible first | exact HB.out | apply below_alloc | apply pw_below_drewN | apply below_drew1) | exact HB.out))) | (repeat (first | exact HLd | apply LaidOk.drewN | apply LaidOk.drew | apply LaidOk.alloc))); (case side2 => repeat (first | exact (Kd.R_reads' HO_4.out).2.2 | (with_reducible refine Kd.C_alloc ?_ _) | (with_reducible refine Kd.C_drewN ?_ _) | (with_reducible refine Kd.C_drew ?_))); (case side3 => exact (Kd.R_reads' HO_4.out).2.1); rintro e w24 ⟨rfl, hb⟩; refine ⟨_, rfl, ?_⟩; have n0_ := Aside0.mk (Kd.R_below (by (with_reducible repeat (first | apply Kd.R_alloc | apply Kd.R_drewN | apply Kd.R_drew)); exact HO_4.out) hb); have n1_ := Aside0.mk (Kd.R_below (by (with_reducible repeat (first | apply Kd.R_alloc | apply Kd.R_drewN | apply Kd.R_drew)); exact HO_10.out) hb); have n2_ := Aside0.mk (below_step (by repeat (first | (with_reducible first | exact HB.out | apply below_alloc | apply pw_below_drewN | apply below_drew1) | exact HB.out)) hb); clear HO_4; clear HO_10; clear HB; have HO_4 := n0_; have HO_10 := n1_; have HB := n2_; clear n0_ n1_ n2_; (try clear hb); (try clear hb2); (try clear hk); (try clear hi)) | (go_at_call 36; (with_reducible refine (oid_Valid.calls _ _ x4_1 false _ ?side1 ?side2 A19.out).mono ?_); (case side1 => repeat (first | exact (Kd.R_reads' HO_4.out).2.2 | (with_reducible refine Kd.C_alloc ?_ _) | (with_reducible refine Kd.C_drewN ?_ _) | (with_reducible refine Kd.C_drew ?_))); (case side2 => exact (Kd.R_reads' HO_4.out).2.1); rintro e w' ⟨rfl, ⟨nd, rfl⟩⟩))
            go_ret2
            exact ⟨_, by first | rfl | (simp [errW_none, errW_some] <;> rfl) | (simp [*, errW_none, errW_some] <;> rfl), by first | exact Kd.R_nil _ _ _ _ _ | exact Kd.N_nil _ _ _ _ _ | exact Kd.V_nil _ _ _ _ _ | exact Kd.Q_nil _ _ _ _ _ | exact Kd.S_nil _ _ _ _ _, by repeat (first | (with_reducible first | exact HB.out | apply below_alloc | apply pw_below_drewN | apply below_drew1) | exact HB.out)⟩
        · rw [if_neg c18] at H
          have c18b0 : (t111.toList == a0.toList) = false := beq_eq_false_iff_ne.mpr c18
          have c18b1 : (t111.toList != a0.toList) = true := bne_iff_ne.mpr c18
          simp only [Option.some.injEq, Prod.mk.injEq] at H
          obtain ⟨rfl, rfl⟩ := H
          obtain ⟨Ao25, co25, eo25⟩ := Kd.R_slice HO_4.out
          subst eo25
          go_wp2_with (first | ((with_reducible refine gate_callee (f := 16) rfl ?_); refine goesL_ (some 35) rfl rfl Tryd.func16 (by kernel_rfl) rfl #[.slice Ao25 x4_1.length co25] rfl (by (try simp only [List.map_toArray, List.map_cons, List.map_nil]); first | done | rfl | (simp only [List.length_drop, List.length_take]; rfl)) ?_; (with_reducible refine (oid_Text.calls _ _ x4_1 t111 _ ?side1 ?side2 ?side3 A17.out).mono ?_); (case side1 => first | exact HLd | (exact LaidOk.below HLd (by repeat (first | (with_reducible first | exact HB.out | apply below_alloc | apply pw_below_drewN | apply below_drew1) | exact HB.out))) | (repeat (first | exact HLd | apply LaidOk.drewN | apply LaidOk.drew | apply LaidOk.alloc))); (case side2 => repeat (first | exact (Kd.R_reads' HO_4.out).2.2 | (with_reducible refine Kd.C_alloc ?_ _) | (with_reducible refine Kd.C_drewN ?_ _) | (with_reducible refine Kd.C_drew ?_))); (case side3 => exact (Kd.R_reads' HO_4.out).2.1); rintro e w26 ⟨rfl, hb⟩; refine ⟨_, rfl, ?_⟩; have n0_ := Aside0.mk (Kd.R_below (by (with_reducible repeat (first | apply Kd.R_alloc | apply Kd.R_drewN | apply Kd.R_drew)); exact HO_4.out) hb); have n1_ := Aside0.mk (Kd.R_below (by (with_reducible repeat (first | apply Kd.R_alloc | apply Kd.R_drewN | apply Kd.R_drew)); exact HO_10.out) hb); have n2_ := Aside0.mk (below_step (by repeat (first | (with_reducible first | exact HB.out | apply below_alloc | apply pw_below_drewN | apply below_drew1) | exact HB.out)) hb); clear HO_4; clear HO_10; clear HB; have HO_4 := n0_; have HO_10 := n1_; have HB := n2_; clear n0_ n1_ n2_; (try clear hb); (try clear hb2); (try clear hk); (try clear hi)))
          go_ret2
          exact ⟨_, by first | rfl | (simp [errW_none, errW_some] <;> rfl) | (simp [*, errW_none, errW_some] <;> rfl), by first | exact Kd.R_nil _ _ _ _ _ | exact Kd.N_nil _ _ _ _ _ | exact Kd.V_nil _ _ _ _ _ | exact Kd.Q_nil _ _ _ _ _ | exact Kd.S_nil _ _ _ _ _, by repeat (first | (with_reducible first | exact HB.out | apply below_alloc | apply pw_below_drewN | apply below_drew1) | exact HB.out)⟩

end Go.Proofs.YtjoncjnmhhimhaaDoor.PParse
end

section
/- oid.Parse: the printed loop over the words comes to the plain function. -/
namespace Go.Proofs.YtjoncjnmhhimhaaDoor.Hand
set_option linter.unusedVariables false
set_option linter.unusedSimpArgs false
open Go.RowKit Go.Proofs.YtjoncjnmhhimhaaDoorW.PrintWords Go.Proofs.YtjoncjnmhhimhaaDoorW.PrintLast Go.Proofs.YtjoncjnmhhimhaaDoorW.PrintMore
open Go.Proofs.YtjoncjnmhhimhaaDoor.Oid

theorem words_size (sep : ByteArray) : ∀ (k : Nat) (s : ByteArray), ∀ w ∈ Lib.splitB sep 0 k s, w.size ≤ s.size
  | 0, s, w, h => by
    rw [Lib.splitB_zero] at h
    simp only [List.mem_singleton] at h
    subst h; exact Nat.le_refl _
  | k + 1, s, w, h => by
    rcases Lib.indexB_cases s sep with hix | ⟨i, hix, hroom⟩
    · rw [Lib.splitB_miss sep 0 _ s hix] at h
      simp only [List.mem_singleton] at h
      subst h; exact Nat.le_refl _
    · rw [Lib.splitB_hit sep 0 k s i hix] at h
      rcases List.mem_cons.1 h with rfl | h
      · rw [ByteArray.size_extract]; omega
      · have := words_size sep k _ w h
        rw [ByteArray.size_extract] at this
        omega

theorem parseUintB_le {l : List UInt8} {u : Nat} (h : Lib.parseUintB 32 l = .ok u) : u ≤ 4294967295 := by
  unfold Lib.parseUintB at h
  split at h
  · cases h
  · exact (parseUintM_ok _ _ _ _ h).2.2 (by omega)

theorem bytes_eq (a b : ByteArray) : (a.toList = b.toList) ↔ a = b := by
  rw [Lib.toList_data, Lib.toList_data]
  constructor
  · intro h
    obtain ⟨⟨x⟩⟩ := a
    obtain ⟨⟨y⟩⟩ := b
    simpa using h
  · intro h; rw [h]

theorem parse_loop (s : ByteArray) (ws : List ByteArray) (hn : ws.length ≤ 4294967296) (hw : ∀ w ∈ ws, w.size ≤ 4294967296) : ∀ (d k i : Nat) (acc : List Int), i + d = ws.length → acc.length = i → (∀ x ∈ acc, 0 ≤ x) → d < k →
    PParse.oid_Parse.l0 k s acc ws (ws.length : Int) (i : Int) = some (match parseLoop (ws.drop i) acc with
      | some out => if textB out = s ∧ validB out = true then (out, true) else ([], false)
      | none => ([], false)) := by
  intro d
  induction d with
  | zero =>
    intro k i acc h1 h2 hp h3
    obtain ⟨k, rfl⟩ : ∃ m, k = m + 1 := ⟨k - 1, by omega⟩
    have : ws.drop i = [] := List.drop_eq_nil_of_le (by omega)
    simp only [PParse.oid_Parse.l0]
    rw [if_neg (by omega), this]
    have ht : oid_Text.f acc = some (textB acc) := by
      unfold oid_Text.f
      rw [if_pos (List.all_eq_true.2 (fun x hx => by simpa using hp x hx))]
    rw [ht]
    simp only [Option.bind_some, parseLoop, oid_Valid.f]
    by_cases h4 : textB acc = s
    · rw [if_pos ((bytes_eq _ _).2 h4)]
      by_cases h5 : validB acc = true
      · rw [if_pos h5, if_pos ⟨h4, h5⟩]
      · rw [if_neg h5, if_neg (fun h => h5 h.2)]
    · rw [if_neg (fun h => h4 ((bytes_eq _ _).1 h)), if_neg (fun h => h4 h.1)]
  | succ d ih =>
    intro k i acc h1 h2 hp h3
    obtain ⟨k, rfl⟩ : ∃ m, k = m + 1 := ⟨k - 1, by omega⟩
    have hlt : i < ws.length := by omega
    have hrd : rdOf ByteArray.empty ws (i : Int) = ws[i] := by simp [rdOf, List.getD, hlt]
    have hsz := hw ws[i] (List.getElem_mem hlt)
    simp only [PParse.oid_Parse.l0]
    rw [if_pos (by omega), if_pos (by omega), if_pos (by omega), hrd, List.drop_eq_getElem_cons hlt]
    simp only [parseLoop]
    have hf : ∀ x, x = Lib.parseUintB 32 ws[i].data.toList → strconv_ParseUint.f ws[i] 10 32 = (match x with
      | .ok u => some ((u : Int), none)
      | .range => some (4294967295, some 1)
      | _ => some (0, some 0)) := by intro x hx; unfold strconv_ParseUint.f; rw [if_pos ⟨by omega, rfl, rfl⟩, ← hx]; (first | done | (cases x <;> rfl))
    rw [hf _ rfl]
    cases hp2 : Lib.parseUintB 32 ws[i].data.toList with
    | ok u =>
      have hu := parseUintB_le hp2
      simp only [Option.bind_some, Option.isNone_none, if_true]
      by_cases h20 : 20 < acc.length
      · rw [if_pos (by omega), if_pos h20]
      · rw [if_neg (by omega), if_neg h20, if_pos (by omega), i64_in _ (by omega) (by omega), show (u : Int) % 4294967296 = u by omega]
        have := ih k (i + 1) (acc ++ [(u : Int)]) (by omega) (by simp; omega) (fun x hx => by
          rcases List.mem_append.1 hx with hx | hx
          · exact hp x hx
          · simp only [List.mem_singleton] at hx; omega) (by omega)
        rw [show ((i + 1 : Nat) : Int) = (i : Int) + 1 from by omega] at this
        exact this
    | _ => simp

theorem oid_Parse.calls (a0 : ByteArray) (r1 : List Int) (r2 : Bool) (w : World) (HLd : LaidOk w) (h : oid_Parse.f a0 = some (r1, r2)) :
    Calls Tryd.prog 13 #[.string a0] w fun e w' => ∃ v0_ : Value, e = .returned (.tuple #[v0_, .bool r2]) ∧ Kd.R (Kd.int .u32) 27 w' w.heap.size (fun _ => True) v0_ r1 ∧ Below w.heap.size w w' := by
  unfold oid_Parse.f at h
  by_cases hs : a0.size < 4294967281
  · rw [if_pos hs] at h
    have hlen := Lib.splitB_all ⟨#[46]⟩ (by decide) 0 _ a0 rfl
    have hle := Lib.countB_le ⟨#[46]⟩ (by decide) a0.size a0 (Nat.le_refl _)
    refine PParse.oid_Parse.calls ((wordsB a0).length + 1) a0 r1 r2 w HLd ?_
    unfold PParse.oid_Parse.f strings_Split.f
    rw [if_pos ⟨hs, by decide⟩]
    simp only [Option.bind_some]
    have := parse_loop a0 (wordsB a0) (by unfold wordsB; omega) (fun w hw => by have := words_size _ _ _ w hw; omega) (wordsB a0).length ((wordsB a0).length + 1) 0 [] (by omega) rfl (by simp) (by omega)
    rw [show ((0 : Nat) : Int) = 0 from rfl, List.drop_zero] at this
    exact this.trans h
  · rw [if_neg hs] at h
    cases h

end Go.Proofs.YtjoncjnmhhimhaaDoor.Hand
end

section
/- strconv.Itoa in the form of this place's contracts. -/
namespace Go.Proofs.YtjoncjnmhhimhaaDoor.Hand
set_option linter.unusedVariables false
set_option linter.unusedSimpArgs false
open Go.RowKit Go.Proofs.YtjoncjnmhhimhaaDoorW.PrintWords Go.Proofs.YtjoncjnmhhimhaaDoorW.PrintLast Go.Proofs.YtjoncjnmhhimhaaDoorW.PrintMore

def strconv_Itoa.f (a0 : Int) : Option ByteArray := if 0 ≤ a0 ∧ a0 ≤ 9223372036854775807 then some (decB a0.toNat) else none
theorem strconv_Itoa.calls (a0 : Int) (r : ByteArray) (w : World) (HLd : LaidOk w) (h : strconv_Itoa.f a0 = some r) :
    Calls Tryd.prog 68 #[.int .i64 a0] w fun e w' => e = .returned (.string r) ∧ Below w.heap.size w w' := by
  unfold strconv_Itoa.f at h
  by_cases hp : 0 ≤ a0 ∧ a0 ≤ 9223372036854775807
  · rw [if_pos hp] at h
    obtain ⟨n, rfl⟩ := Int.eq_ofNat_of_zero_le hp.1
    obtain rfl := Option.some.inj h
    refine (Tryd.strconv_Itoa n (by omega) hp.2 w HLd.pow).mono ?_
    rintro e w' ⟨rfl, k, os, rfl⟩
    refine ⟨?_, Lib.below_grow _ w (Nat.le_refl _) k os⟩
    rw [Lib.itoa_nonneg]
    rfl
  · rw [if_neg hp] at h
    cases h
end Go.Proofs.YtjoncjnmhhimhaaDoor.Hand
end

section
-- Written by the kit's print.py, driven by this place's wip/tools/myprint.py. Not trusted: Lean checks it.
namespace Go.Proofs.YtjoncjnmhhimhaaDoor.PParT
open Go.RowKit Go.Proofs.YtjoncjnmhhimhaaDoor.Hand Go.Proofs.YtjoncjnmhhimhaaDoorW.PrintWords Go.Proofs.YtjoncjnmhhimhaaDoorW.PrintLast Go.Proofs.YtjoncjnmhhimhaaDoorW.PrintMore
attribute [local go_sem] max2_int min2_int max_two min_two max_three min_three max_four min_four   -- for this text's walks alone
set_option linter.unusedVariables false
set_option linter.unusedSimpArgs false



def errW : Option Int → Value
  | none => .nilIface
  | some c => .iface 0 (.int .i64 c)
theorem errW_none : errW none = .nilIface := rfl
theorem errW_some (c : Int) : errW (some c) = .iface 0 (.int .i64 c) := rfl

theorem info27 : (Tryd.prog.info? 27).map (fun i => (i.zero, i.size, i.bytes)) = some (some (.int .u32 0), 1, 4) := by kernel_rfl
-- the values' own types
def rd_L3 (xs : List (List Int)) (i : Int) : (List Int) := xs.getD i.toNat ([] : List Int)
theorem at_L3 {w : World} {A : Option Addr} {n : Nat} {xs : List (List Int)} (h : Kd.C (Kd.slice 27 (Kd.int .u32)) w A n xs) (i : Int) (h0 : 0 ≤ i) (h1 : i < n) : ∃ ad A0 c0, A = some ad ∧ w.cell? (ad.add i.toNat) = some (.slice A0 (rd_L3 xs i).length c0) ∧ (rd_L3 xs i).length ≤ c0 ∧ (Kd.int .u32).C w A0 (rd_L3 xs i).length (rd_L3 xs i) := by
  obtain ⟨ad, c, e, _, hK, hc0⟩ := Kd.C_get h ([] : List Int) i h0 h1
  have hc : ∀ j u, c[j]? = some u → w.cell? (ad.add (i.toNat * 1 + j)) = some u := hc0
  obtain ⟨A0, c0, rfl, l0, g0⟩ := hK
  exact ⟨ad, A0, c0, e, by have hq := hc 0 _ rfl; rwa [Nat.mul_one, Nat.add_zero] at hq, l0, g0⟩

end Go.Proofs.YtjoncjnmhhimhaaDoor.PParT
namespace Go.Proofs.YtjoncjnmhhimhaaDoor.PParT
open Go.RowKit Go.Proofs.YtjoncjnmhhimhaaDoor.Hand Go.Proofs.YtjoncjnmhhimhaaDoorW.PrintWords Go.Proofs.YtjoncjnmhhimhaaDoorW.PrintLast Go.Proofs.YtjoncjnmhhimhaaDoorW.PrintMore
attribute [local go_sem] max2_int min2_int max_two min_two max_three min_three max_four min_four   -- for this text's walks alone
set_option linter.unusedVariables false
set_option linter.unusedSimpArgs false

/-! ### params_nist: function 49 -/
def params_nist.f (a0 : Int) (a1 : Int) : Option (List Int) := some (([2, 16, 840, 1, 101, 3, 4, (a0) % 4294967296, (a1) % 4294967296] : List Int))
set_option maxHeartbeats 8000000 in
set_option maxRecDepth 100000 in
theorem params_nist.calls (a0 : Int) (a1 : Int) (r : List Int) (w : World) (h : params_nist.f a0 a1 = some r) :
    Calls Tryd.prog 49 #[.int .i64 a0, .int .i64 a1] w fun e w' => ∃ v0_ : Value, e = .returned (v0_) ∧ Kd.R (Kd.int .u32) 27 w' w.heap.size (fun _ => True) v0_ r ∧ Below w.heap.size w w' := by
  have HB := Aside0.mk (Below.refl w.heap.size w)
  have H : (some (([2, 16, 840, 1, 101, 3, 4, (a0) % 4294967296, (a1) % 4294967296] : List Int))) = some r := h
  clear h
  obtain ⟨y101, hy101⟩ : ∃ y_ : List Int, y_ = (([2, 16, 840, 1, 101, 3, 4, (a0) % 4294967296, (a1) % 4294967296] : List Int)) := ⟨_, rfl⟩
  replace H : (some y101) = some r := by first | (rw [hy101]; with_reducible exact H) | (have H2_ := (Option.bind_some _ _).symm.trans H; rw [hy101]; with_reducible exact H2_) | (have H2_ := (Option.bind_some _ _).symm.trans H; with_reducible exact H2_) | with_reducible exact H | (rw [hy101]; exact H) | exact H
  have Ny101 := Aside0.mk hy101
  clear hy101
  obtain rfl := Option.some.inj H
  go_enter Tryd.func49, Tryd.ntmps49
  go_wp2_with (first | ((with_reducible refine gate_dst (N := 9) rfl ?_); refine Kd.R_lit (Kd.int .u32) _ 27 ?hg (N := 9) ?hd (xs := ([2, 16, 840, 1, 101, 3, 4, (a0) % 4294967296, (a1) % 4294967296] : List Int)) (inner := [.int .u32 2, .int .u32 16, .int .u32 840, .int .u32 1, .int .u32 101, .int .u32 3, .int .u32 4, .int .u32 ((a0) % 4294967296), .int .u32 ((a1) % 4294967296)]) (ok := fun _ => True) (okp := fun _ => True) ?hr ?hp (fun _ hk => hk) trivial (Below.refl _ _) (Nat.le_refl _) (by simp) ?_; (case hd => rfl); (case hg => rfl); (case hr => first | (go_simp; done) | (go_simp; rfl)); (case hp => exact (Reps.one (show Kd.M (Kd.int .u32) _ _ _ 2 [.int .u32 2] from rfl) (Reps.one (show Kd.M (Kd.int .u32) _ _ _ 16 [.int .u32 16] from rfl) (Reps.one (show Kd.M (Kd.int .u32) _ _ _ 840 [.int .u32 840] from rfl) (Reps.one (show Kd.M (Kd.int .u32) _ _ _ 1 [.int .u32 1] from rfl) (Reps.one (show Kd.M (Kd.int .u32) _ _ _ 101 [.int .u32 101] from rfl) (Reps.one (show Kd.M (Kd.int .u32) _ _ _ 3 [.int .u32 3] from rfl) (Reps.one (show Kd.M (Kd.int .u32) _ _ _ 4 [.int .u32 4] from rfl) (Reps.one (show Kd.M (Kd.int .u32) _ _ _ ((a0) % 4294967296) [.int .u32 ((a0) % 4294967296)] from rfl) (Reps.one (show Kd.M (Kd.int .u32) _ _ _ ((a1) % 4294967296) [.int .u32 ((a1) % 4294967296)] from rfl) (Reps.none _ _))))))))))); intro v102 w3 ho4 hb hg_ hnew_; clear hg_ hnew_; (first | rw [← Ny101.out] at ho4 | (simp only [Int.reduceToNat] at ho4; rw [← Ny101.out] at ho4)); have n0_ := Aside0.mk (Kd.R_lower ho4 (below_size (by repeat (first | (with_reducible first | exact HB.out | apply below_alloc | apply pw_below_drewN | apply below_drew1) | exact HB.out)))); have n1_ := Aside0.mk (below_step (by repeat (first | (with_reducible first | exact HB.out | apply below_alloc | apply pw_below_drewN | apply below_drew1) | exact HB.out)) hb); clear HB; have HO103 := n0_; have HB := n1_; clear n0_ n1_; clear hb ho4))
  go_ret
  exact ⟨_, by first | rfl | (simp [errW_none, errW_some] <;> rfl) | (simp [*, errW_none, errW_some] <;> rfl), by (with_reducible repeat (first | apply Kd.R_alloc | apply Kd.R_drewN | apply Kd.R_drew)); exact HO103.out, by repeat (first | (with_reducible first | exact HB.out | apply below_alloc | apply pw_below_drewN | apply below_drew1) | exact HB.out)⟩

-- BY CONTRACT: function 68 (strconv_Itoa)

/-! ### params_kem: function 45 -/
def params_kem.f (a0 : Int) : Option (Int × Int × ByteArray × Int × Int × Int × Int × List Int × Int × Int) := (strconv_Itoa.f (wrap64 (256 * (wrap64 (a0 + 1))))).bind fun t105 => (if 7 + t105.size ≤ 9223372036854775807 then ((params_nist.f 4 a0).bind fun t106 => (some (0, 1, (⟨#[77, 76, 45, 75, 69, 77, 45]⟩ : ByteArray) ++ t105, wrap64 ((wrap64 (384 * (wrap64 (a0 + 1)))) + 32), wrap64 ((wrap64 (768 * (wrap64 (a0 + 1)))) + 96), 64, 0, t106, wrap64 ((-110) - a0), 0))) else (none))
set_option maxHeartbeats 8000000 in
set_option maxRecDepth 100000 in
theorem params_kem.calls (a0 : Int) (r1 : Int) (r2 : Int) (r3 : ByteArray) (r4 : Int) (r5 : Int) (r6 : Int) (r7 : Int) (r8 : List Int) (r9 : Int) (r10 : Int) (w : World) (HLd : LaidOk w) (h : params_kem.f a0 = some (r1, r2, r3, r4, r5, r6, r7, r8, r9, r10)) :
    Calls Tryd.prog 45 #[.int .i64 a0] w fun e w' => ∃ v7_ : Value, e = .returned (.agg #[.int .i64 r1, .int .i64 r2, .string r3, .int .i64 r4, .int .i64 r5, .int .i64 r6, .int .i64 r7, v7_, .int .i64 r9, .int .u32 r10]) ∧ Kd.R (Kd.int .u32) 27 w' w.heap.size (fun _ => True) v7_ r8 ∧ Below w.heap.size w w' := by
  have hu37 := Tryd.underlying37
  have HB := Aside0.mk (Below.refl w.heap.size w)
  have H : ((strconv_Itoa.f (wrap64 (256 * (wrap64 (a0 + 1))))).bind fun t105 => (if 7 + t105.size ≤ 9223372036854775807 then ((params_nist.f 4 a0).bind fun t106 => (some (0, 1, (⟨#[77, 76, 45, 75, 69, 77, 45]⟩ : ByteArray) ++ t105, wrap64 ((wrap64 (384 * (wrap64 (a0 + 1)))) + 32), wrap64 ((wrap64 (768 * (wrap64 (a0 + 1)))) + 96), 64, 0, t106, wrap64 ((-110) - a0), 0))) else (none))) = some (r1, r2, r3, r4, r5, r6, r7, r8, r9, r10) := h
  clear h
  replace H := Option.bind_eq_some_iff.mp H
  obtain ⟨t105, A20, H⟩ := H
  replace H : (if 7 + t105.size ≤ 9223372036854775807 then ((params_nist.f 4 a0).bind fun t106 => (some (0, 1, (⟨#[77, 76, 45, 75, 69, 77, 45]⟩ : ByteArray) ++ t105, wrap64 ((wrap64 (384 * (wrap64 (a0 + 1)))) + 32), wrap64 ((wrap64 (768 * (wrap64 (a0 + 1)))) + 96), 64, 0, t106, wrap64 ((-110) - a0), 0))) else (none)) = some (r1, r2, r3, r4, r5, r6, r7, r8, r9, r10) := H
  have A2 := Aside0.mk A20
  clear A20
  by_cases c3 : 7 + t105.size ≤ 9223372036854775807
  · rw [if_pos c3] at H
    have c3b0 := eq_true c3
    have c3b1 : decide (7 + t105.size ≤ 9223372036854775807) = true := decide_eq_true c3
    try have c3b2 : (9223372036854775807 < 7 + t105.size) = False := eq_false (Nat.not_lt.2 c3)
    replace H := Option.bind_eq_some_iff.mp H
    obtain ⟨t106, A40, H⟩ := H
    replace H : (some (0, 1, (⟨#[77, 76, 45, 75, 69, 77, 45]⟩ : ByteArray) ++ t105, wrap64 ((wrap64 (384 * (wrap64 (a0 + 1)))) + 32), wrap64 ((wrap64 (768 * (wrap64 (a0 + 1)))) + 96), 64, 0, t106, wrap64 ((-110) - a0), 0)) = some (r1, r2, r3, r4, r5, r6, r7, r8, r9, r10) := H
    have A4 := Aside0.mk A40
    clear A40
    simp only [Option.some.injEq, Prod.mk.injEq] at H
    obtain ⟨rfl, rfl, rfl, rfl, rfl, rfl, rfl, rfl, rfl, rfl⟩ := H
    go_enter Tryd.func45, Tryd.ntmps45
    go_wp2_with (first | ((with_reducible refine gate_dst (N := 2) rfl ?_); refine box_event ?hg (N := 2) ?hd (cs := #[.int .i64 0, .int .i64 0, .string (⟨#[]⟩ : ByteArray), .int .i64 0, .int .i64 0, .int .i64 0, .int .i64 0, .slice none 0 0, .int .i64 0, .int .u32 0]) (t := 37) ?hr ?_; (case hd => rfl); (case hg => rfl); (case hr => first | (go_simp; done) | (go_simp; rfl)); intro gb104 hg w5 hbox hb; have n0_ := Aside0.mk (below_step (by repeat (first | (with_reducible first | exact HB.out | apply below_alloc | apply pw_below_drewN | apply below_drew1) | exact HB.out)) hb); have n1_ := Aside0.mk (hbox); have n2_ := Aside0.mk ((by rw [hg]; exact (below_size (by repeat (first | (with_reducible first | exact HB.out | apply below_alloc | apply pw_below_drewN | apply below_drew1) | exact HB.out))) : w.heap.size ≤ gb104)); have n3_ := Aside0.mk ((by rw [hg]; exact (below_size (by repeat (first | (with_reducible first | exact HB.out | apply below_alloc | apply pw_below_drewN | apply below_drew1) | exact HB.out))) : w.heap.size ≤ gb104)); clear HB; have HB := n0_; have BK104 := n1_; have GW104 := n2_; have GE104 := n3_; clear n0_ n1_ n2_ n3_; clear hb hbox hg) | ((with_reducible refine gate_callee (f := 68) rfl ?_); refine goesL_ (some 8) rfl rfl Tryd.func68 (by kernel_rfl) rfl #[.int .i64 (wrap64 (256 * (wrap64 (a0 + 1))))] rfl (by (try simp only [List.map_toArray, List.map_cons, List.map_nil]); first | done | rfl | (simp only [List.length_drop, List.length_take]; rfl)) ?_; (with_reducible refine (strconv_Itoa.calls (wrap64 (256 * (wrap64 (a0 + 1)))) t105 _ ?side1 A2.out).mono ?_); (case side1 => first | exact HLd | (exact LaidOk.below HLd (by repeat (first | (with_reducible first | exact HB.out | apply below_alloc | apply pw_below_drewN | apply below_drew1) | exact HB.out))) | (repeat (first | exact HLd | apply LaidOk.drewN | apply LaidOk.drew | apply LaidOk.alloc))); rintro e w6 ⟨rfl, hb⟩; refine ⟨_, rfl, ?_⟩; have n0_ := Aside0.mk (blk_below (g := gb104) (o := .cells #[.int .i64 0, .int .i64 0, .string (⟨#[]⟩ : ByteArray), .int .i64 0, .int .i64 0, .int .i64 0, .int .i64 0, .slice none 0 0, .int .i64 0, .int .u32 0] 37 (0, 0)) (by (with_reducible repeat (first | refine blk_drewN ?_ _ | refine blk_drew ?_ | refine blk_alloc ?_ _)); exact BK104.out) hb); have n1_ := Aside0.mk (below_step (by repeat (first | (with_reducible first | exact HB.out | apply below_alloc | apply pw_below_drewN | apply below_drew1 | refine below_set ?_ GE104.out) | exact HB.out)) hb); clear BK104; clear HB; have BK104 := n0_; have HB := n1_; clear n0_ n1_; (try clear hb); (try clear hb2); (try clear hk); (try clear hi)) | ((with_reducible refine gate_callee (f := 49) rfl ?_); refine goesL_ (some 17) rfl rfl Tryd.func49 (by kernel_rfl) rfl #[.int .i64 4, .int .i64 a0] rfl (by (try simp only [List.map_toArray, List.map_cons, List.map_nil]); first | done | rfl | (simp only [List.length_drop, List.length_take]; rfl)) ?_; (with_reducible refine (params_nist.calls 4 a0 t106 _ A4.out).mono ?_); rintro e w7 ⟨v107, rfl, ho0, hb⟩; refine ⟨_, rfl, ?_⟩; have n0_ := Aside0.mk (Kd.R_lower ho0 (below_size (by repeat (first | (with_reducible first | exact HB.out | apply below_alloc | apply pw_below_drewN | apply below_drew1 | refine below_set ?_ GE104.out) | exact HB.out)))); have n1_ := Aside0.mk (blk_below (g := gb104) (o := .cells #[.int .i64 0, .int .i64 0, .string (⟨#[]⟩ : ByteArray), .int .i64 0, .int .i64 0, .int .i64 0, .int .i64 0, .slice none 0 0, .int .i64 0, .int .u32 0] 37 (0, 0)) (by (with_reducible repeat (first | refine blk_drewN ?_ _ | refine blk_drew ?_ | refine blk_alloc ?_ _)); exact BK104.out) hb); have n2_ := Aside0.mk (below_step (by repeat (first | (with_reducible first | exact HB.out | apply below_alloc | apply pw_below_drewN | apply below_drew1 | refine below_set ?_ GE104.out) | exact HB.out)) hb); clear BK104; clear HB; have HO108 := n0_; have BK104 := n1_; have HB := n2_; clear n0_ n1_ n2_; (try clear hb); (try clear hb2); (try clear hk); (try clear hi); (try clear ho0); obtain ⟨Ao8, co8, eo8⟩ := Kd.R_slice HO108.out; subst eo8; have hcz9_0 : w7.cell? ⟨gb104, 0, none⟩ = some (.int .i64 0) := (blk_cell BK104.out 0).trans rfl; have hcz9_1 : w7.cell? ⟨gb104, 1, none⟩ = some (.int .i64 0) := (blk_cell BK104.out 1).trans rfl; have hcz9_2 : w7.cell? ⟨gb104, 2, none⟩ = some (.string (⟨#[]⟩ : ByteArray)) := (blk_cell BK104.out 2).trans rfl; have hcz9_3 : w7.cell? ⟨gb104, 3, none⟩ = some (.int .i64 0) := (blk_cell BK104.out 3).trans rfl; have hcz9_4 : w7.cell? ⟨gb104, 4, none⟩ = some (.int .i64 0) := (blk_cell BK104.out 4).trans rfl; have hcz9_5 : w7.cell? ⟨gb104, 5, none⟩ = some (.int .i64 0) := (blk_cell BK104.out 5).trans rfl; have hcz9_6 : w7.cell? ⟨gb104, 6, none⟩ = some (.int .i64 0) := (blk_cell BK104.out 6).trans rfl; have hcz9_7 : w7.cell? ⟨gb104, 7, none⟩ = some (.slice none 0 0) := (blk_cell BK104.out 7).trans rfl; have hcz9_8 : w7.cell? ⟨gb104, 8, none⟩ = some (.int .i64 0) := (blk_cell BK104.out 8).trans rfl; have hcz9_9 : w7.cell? ⟨gb104, 9, none⟩ = some (.int .u32 0) := (blk_cell BK104.out 9).trans rfl; have hfz9_0 := blk_frozen BK104.out 0; have hfz9_1 := blk_frozen BK104.out 1; have hfz9_2 := blk_frozen BK104.out 2; have hfz9_3 := blk_frozen BK104.out 3; have hfz9_4 := blk_frozen BK104.out 4; have hfz9_5 := blk_frozen BK104.out 5; have hfz9_6 := blk_frozen BK104.out 6; have hfz9_7 := blk_frozen BK104.out 7; have hfz9_8 := blk_frozen BK104.out 8; have hfz9_9 := blk_frozen BK104.out 9))
    refine bodyPost_ret (results_cell_row rfl _ _ gb104 37 #[.int .i64 0, .int .i64 1, .string ((⟨#[77, 76, 45, 75, 69, 77, 45]⟩ : ByteArray) ++ t105), .int .i64 (wrap64 ((wrap64 (384 * (wrap64 (a0 + 1)))) + 32)), .int .i64 (wrap64 ((wrap64 (768 * (wrap64 (a0 + 1)))) + 96)), .int .i64 64, .int .i64 0, .slice Ao8 t106.length co8, .int .i64 (wrap64 ((-110) - a0)), .int .u32 0] (0, 0) _ rfl (by (with_reducible repeat (first | refine blk_drewN ?_ _ | refine blk_drew ?_ | refine blk_alloc ?_ _)); refine blk_put (cs := #[.int .i64 0, .int .i64 1, .string ((⟨#[77, 76, 45, 75, 69, 77, 45]⟩ : ByteArray) ++ t105), .int .i64 (wrap64 ((wrap64 (384 * (wrap64 (a0 + 1)))) + 32)), .int .i64 (wrap64 ((wrap64 (768 * (wrap64 (a0 + 1)))) + 96)), .int .i64 64, .int .i64 0, .slice Ao8 t106.length co8, .int .i64 (wrap64 ((-110) - a0)), .int .u32 0]) ?_ 9 _ rfl; (with_reducible repeat (first | refine blk_drewN ?_ _ | refine blk_drew ?_ | refine blk_alloc ?_ _)); refine blk_put (cs := #[.int .i64 0, .int .i64 1, .string ((⟨#[77, 76, 45, 75, 69, 77, 45]⟩ : ByteArray) ++ t105), .int .i64 (wrap64 ((wrap64 (384 * (wrap64 (a0 + 1)))) + 32)), .int .i64 (wrap64 ((wrap64 (768 * (wrap64 (a0 + 1)))) + 96)), .int .i64 64, .int .i64 0, .slice Ao8 t106.length co8, .int .i64 0, .int .u32 0]) ?_ 8 _ rfl; (with_reducible repeat (first | refine blk_drewN ?_ _ | refine blk_drew ?_ | refine blk_alloc ?_ _)); refine blk_put (cs := #[.int .i64 0, .int .i64 1, .string ((⟨#[77, 76, 45, 75, 69, 77, 45]⟩ : ByteArray) ++ t105), .int .i64 (wrap64 ((wrap64 (384 * (wrap64 (a0 + 1)))) + 32)), .int .i64 (wrap64 ((wrap64 (768 * (wrap64 (a0 + 1)))) + 96)), .int .i64 64, .int .i64 0, .slice none 0 0, .int .i64 0, .int .u32 0]) ?_ 7 _ rfl; (with_reducible repeat (first | refine blk_drewN ?_ _ | refine blk_drew ?_ | refine blk_alloc ?_ _)); refine blk_put (cs := #[.int .i64 0, .int .i64 1, .string ((⟨#[77, 76, 45, 75, 69, 77, 45]⟩ : ByteArray) ++ t105), .int .i64 (wrap64 ((wrap64 (384 * (wrap64 (a0 + 1)))) + 32)), .int .i64 (wrap64 ((wrap64 (768 * (wrap64 (a0 + 1)))) + 96)), .int .i64 64, .int .i64 0, .slice none 0 0, .int .i64 0, .int .u32 0]) ?_ 6 _ rfl; (with_reducible repeat (first | refine blk_drewN ?_ _ | refine blk_drew ?_ | refine blk_alloc ?_ _)); refine blk_put (cs := #[.int .i64 0, .int .i64 1, .string ((⟨#[77, 76, 45, 75, 69, 77, 45]⟩ : ByteArray) ++ t105), .int .i64 (wrap64 ((wrap64 (384 * (wrap64 (a0 + 1)))) + 32)), .int .i64 (wrap64 ((wrap64 (768 * (wrap64 (a0 + 1)))) + 96)), .int .i64 0, .int .i64 0, .slice none 0 0, .int .i64 0, .int .u32 0]) ?_ 5 _ rfl; (with_reducible repeat (first | refine blk_drewN ?_ _ | refine blk_drew ?_ | refine blk_alloc ?_ _)); refine blk_put (cs := #[.int .i64 0, .int .i64 1, .string ((⟨#[77, 76, 45, 75, 69, 77, 45]⟩ : ByteArray) ++ t105), .int .i64 (wrap64 ((wrap64 (384 * (wrap64 (a0 + 1)))) + 32)), .int .i64 0, .int .i64 0, .int .i64 0, .slice none 0 0, .int .i64 0, .int .u32 0]) ?_ 4 _ rfl; (with_reducible repeat (first | refine blk_drewN ?_ _ | refine blk_drew ?_ | refine blk_alloc ?_ _)); refine blk_put (cs := #[.int .i64 0, .int .i64 1, .string ((⟨#[77, 76, 45, 75, 69, 77, 45]⟩ : ByteArray) ++ t105), .int .i64 0, .int .i64 0, .int .i64 0, .int .i64 0, .slice none 0 0, .int .i64 0, .int .u32 0]) ?_ 3 _ rfl; (with_reducible repeat (first | refine blk_drewN ?_ _ | refine blk_drew ?_ | refine blk_alloc ?_ _)); refine blk_put (cs := #[.int .i64 0, .int .i64 1, .string (⟨#[]⟩ : ByteArray), .int .i64 0, .int .i64 0, .int .i64 0, .int .i64 0, .slice none 0 0, .int .i64 0, .int .u32 0]) ?_ 2 _ rfl; (with_reducible repeat (first | refine blk_drewN ?_ _ | refine blk_drew ?_ | refine blk_alloc ?_ _)); refine blk_put (cs := #[.int .i64 0, .int .i64 0, .string (⟨#[]⟩ : ByteArray), .int .i64 0, .int .i64 0, .int .i64 0, .int .i64 0, .slice none 0 0, .int .i64 0, .int .u32 0]) ?_ 1 _ rfl; (with_reducible repeat (first | refine blk_drewN ?_ _ | refine blk_drew ?_ | refine blk_alloc ?_ _)); refine blk_put (cs := #[.int .i64 0, .int .i64 0, .string (⟨#[]⟩ : ByteArray), .int .i64 0, .int .i64 0, .int .i64 0, .int .i64 0, .slice none 0 0, .int .i64 0, .int .u32 0]) ?_ 0 _ rfl; (with_reducible repeat (first | refine blk_drewN ?_ _ | refine blk_drew ?_ | refine blk_alloc ?_ _)); exact BK104.out) Tryd.underlying37 rfl (by kernel_rfl)) rfl ?_
    exact ⟨_, by first | rfl | (simp [errW_none, errW_some] <;> rfl) | (simp [*, errW_none, errW_some] <;> rfl), by (with_reducible repeat (first | apply Kd.R_alloc | apply Kd.R_drewN | apply Kd.R_drew)); exact Kd.R_mono (Kd.R_far (p := ⟨gb104, 9, none⟩) (Kd.R_far (p := ⟨gb104, 8, none⟩) (Kd.R_far (p := ⟨gb104, 7, none⟩) (Kd.R_far (p := ⟨gb104, 6, none⟩) (Kd.R_far (p := ⟨gb104, 5, none⟩) (Kd.R_far (p := ⟨gb104, 4, none⟩) (Kd.R_far (p := ⟨gb104, 3, none⟩) (Kd.R_far (p := ⟨gb104, 2, none⟩) (Kd.R_far (p := ⟨gb104, 1, none⟩) (Kd.R_far (p := ⟨gb104, 0, none⟩) (Kd.R_types HO108.out BK104.out (by decide)) (fun _ hk => hk.2) (.int .i64 0)) (fun _ hk => hk.2) (.int .i64 1)) (fun _ hk => hk.2) (.string ((⟨#[77, 76, 45, 75, 69, 77, 45]⟩ : ByteArray) ++ t105))) (fun _ hk => hk.2) (.int .i64 (wrap64 ((wrap64 (384 * (wrap64 (a0 + 1)))) + 32)))) (fun _ hk => hk.2) (.int .i64 (wrap64 ((wrap64 (768 * (wrap64 (a0 + 1)))) + 96)))) (fun _ hk => hk.2) (.int .i64 64)) (fun _ hk => hk.2) (.int .i64 0)) (fun _ hk => hk.2) (.slice Ao8 t106.length co8)) (fun _ hk => hk.2) (.int .i64 (wrap64 ((-110) - a0)))) (fun _ hk => hk.2) (.int .u32 0)) (fun _ hk => trivial), by repeat (first | (with_reducible first | exact HB.out | apply below_alloc | apply pw_below_drewN | apply below_drew1 | refine below_set ?_ GE104.out) | exact HB.out)⟩
  · rw [if_neg c3] at H
    exact absurd H (by simp)

-- BY CONTRACT: function 13 (oid_Parse)

/-! ### params_of: function 47 -/
def params_of.f (a0 : ByteArray) : Option (List Int) := (oid_Parse.f a0).bind fun bt109 => (some bt109.1)
set_option maxHeartbeats 8000000 in
set_option maxRecDepth 100000 in
theorem params_of.calls (a0 : ByteArray) (r : List Int) (w : World) (HLd : LaidOk w) (h : params_of.f a0 = some r) :
    Calls Tryd.prog 47 #[.string a0] w fun e w' => ∃ v0_ : Value, e = .returned (v0_) ∧ Kd.R (Kd.int .u32) 27 w' w.heap.size (fun _ => True) v0_ r ∧ Below w.heap.size w w' := by
  have HB := Aside0.mk (Below.refl w.heap.size w)
  have H : ((oid_Parse.f a0).bind fun bt109 => (some bt109.1)) = some r := h
  clear h
  replace H := Option.bind_eq_some_iff.mp H
  obtain ⟨⟨t109, t110⟩, A20, H⟩ := H
  replace H : (some t109) = some r := H
  have A2 := Aside0.mk A20
  clear A20
  obtain rfl := Option.some.inj H
  go_enter Tryd.func47, Tryd.ntmps47
  go_wp2_with (first | ((with_reducible refine gate_callee (f := 13) rfl ?_); refine goesL_ (some 7) rfl rfl Tryd.func13 (by kernel_rfl) rfl #[.string a0] rfl (by (try simp only [List.map_toArray, List.map_cons, List.map_nil]); first | done | rfl | (simp only [List.length_drop, List.length_take]; rfl)) ?_; (with_reducible refine (oid_Parse.calls a0 t109 t110 _ ?side1 A2.out).mono ?_); (case side1 => first | exact HLd | (exact LaidOk.below HLd (by repeat (first | (with_reducible first | exact HB.out | apply below_alloc | apply pw_below_drewN | apply below_drew1) | exact HB.out))) | (repeat (first | exact HLd | apply LaidOk.drewN | apply LaidOk.drew | apply LaidOk.alloc))); rintro e w3 ⟨v111, rfl, ho0, hb⟩; refine ⟨_, rfl, ?_⟩; have n0_ := Aside0.mk (Kd.R_lower ho0 (below_size (by repeat (first | (with_reducible first | exact HB.out | apply below_alloc | apply pw_below_drewN | apply below_drew1) | exact HB.out)))); have n1_ := Aside0.mk (below_step (by repeat (first | (with_reducible first | exact HB.out | apply below_alloc | apply pw_below_drewN | apply below_drew1) | exact HB.out)) hb); clear HB; have HO112 := n0_; have HB := n1_; clear n0_ n1_; (try clear hb); (try clear hb2); (try clear hk); (try clear hi); (try clear ho0)))
  go_ret
  exact ⟨_, by first | rfl | (simp [errW_none, errW_some] <;> rfl) | (simp [*, errW_none, errW_some] <;> rfl), by (with_reducible repeat (first | apply Kd.R_alloc | apply Kd.R_drewN | apply Kd.R_drew)); exact HO112.out, by repeat (first | (with_reducible first | exact HB.out | apply below_alloc | apply pw_below_drewN | apply below_drew1) | exact HB.out)⟩

end Go.Proofs.YtjoncjnmhhimhaaDoor.PParT
end

section
/- The constant arrays of package params: what an index gives. -/
namespace Go.Proofs.YtjoncjnmhhimhaaDoor.Hand
set_option linter.unusedVariables false
set_option linter.unusedSimpArgs false
open Go.RowKit

def arr3 (j : Int) : Int := [10, 16, 20].getD j.toNat 0
theorem arr3_index (e : Int) (h0 : 0 ≤ e) (h3 : e < 3) (W : World) :
    (Instr.index 92 (.agg #[.int .i64 10, .int .i64 16, .int .i64 20]) (.int .i64 e)).run Tryd.prog W = .ok (.int .i64 (arr3 e)) W := by
  have q0 : ∀ W, (Instr.index 92 (.agg #[.int .i64 10, .int .i64 16, .int .i64 20]) (.int .i64 0)).run Tryd.prog W = .ok (.int .i64 10) W := fun _ => by kernel_rfl
  have q1 : ∀ W, (Instr.index 92 (.agg #[.int .i64 10, .int .i64 16, .int .i64 20]) (.int .i64 1)).run Tryd.prog W = .ok (.int .i64 16) W := fun _ => by kernel_rfl
  have q2 : ∀ W, (Instr.index 92 (.agg #[.int .i64 10, .int .i64 16, .int .i64 20]) (.int .i64 2)).run Tryd.prog W = .ok (.int .i64 20) W := fun _ => by kernel_rfl
  obtain ⟨m, rfl⟩ := Int.eq_ofNat_of_zero_le h0
  have : m = 0 ∨ m = 1 ∨ m = 2 := by omega
  rcases this with rfl | rfl | rfl
  · exact q0 W
  · exact q1 W
  · exact q2 W
end Go.Proofs.YtjoncjnmhhimhaaDoor.Hand
end

section
-- Written by the kit's print.py, driven by this place's wip/tools/myprint.py. Not trusted: Lean checks it.
namespace Go.Proofs.YtjoncjnmhhimhaaDoor.PParX
open Go.RowKit Go.Proofs.YtjoncjnmhhimhaaDoor.Hand Go.Proofs.YtjoncjnmhhimhaaDoor.PParT Go.Proofs.YtjoncjnmhhimhaaDoorW.PrintWords Go.Proofs.YtjoncjnmhhimhaaDoorW.PrintLast Go.Proofs.YtjoncjnmhhimhaaDoorW.PrintMore
attribute [local go_sem] max2_int min2_int max_two min_two max_three min_three max_four min_four   -- for this text's walks alone
set_option linter.unusedVariables false
set_option linter.unusedSimpArgs false



def errW : Option Int → Value
  | none => .nilIface
  | some c => .iface 0 (.int .i64 c)
theorem errW_none : errW none = .nilIface := rfl
theorem errW_some (c : Int) : errW (some c) = .iface 0 (.int .i64 c) := rfl

-- the values' own types
def rd_L2 (xs : List (List Int)) (i : Int) : (List Int) := xs.getD i.toNat ([] : List Int)
theorem at_L2 {w : World} {A : Option Addr} {n : Nat} {xs : List (List Int)} (h : Kd.C (Kd.slice 27 (Kd.int .u32)) w A n xs) (i : Int) (h0 : 0 ≤ i) (h1 : i < n) : ∃ ad A0 c0, A = some ad ∧ w.cell? (ad.add i.toNat) = some (.slice A0 (rd_L2 xs i).length c0) ∧ (rd_L2 xs i).length ≤ c0 ∧ (Kd.int .u32).C w A0 (rd_L2 xs i).length (rd_L2 xs i) := by
  obtain ⟨ad, c, e, _, hK, hc0⟩ := Kd.C_get h ([] : List Int) i h0 h1
  have hc : ∀ j u, c[j]? = some u → w.cell? (ad.add (i.toNat * 1 + j)) = some u := hc0
  obtain ⟨A0, c0, rfl, l0, g0⟩ := hK
  exact ⟨ad, A0, c0, e, by have hq := hc 0 _ rfl; rwa [Nat.mul_one, Nat.add_zero] at hq, l0, g0⟩

end Go.Proofs.YtjoncjnmhhimhaaDoor.PParX
namespace Go.Proofs.YtjoncjnmhhimhaaDoor.PParX
open Go.RowKit Go.Proofs.YtjoncjnmhhimhaaDoor.Hand Go.Proofs.YtjoncjnmhhimhaaDoor.PParT Go.Proofs.YtjoncjnmhhimhaaDoorW.PrintWords Go.Proofs.YtjoncjnmhhimhaaDoorW.PrintLast Go.Proofs.YtjoncjnmhhimhaaDoorW.PrintMore
attribute [local go_sem] max2_int min2_int max_two min_two max_three min_three max_four min_four   -- for this text's walks alone
set_option linter.unusedVariables false
set_option linter.unusedSimpArgs false

-- BY CONTRACT: function 47 (params_of)

-- BY CONTRACT: function 68 (strconv_Itoa)

/-! ### params_xmss: function 48 -/
def params_xmss.f (a0 : Int) : Option (Int × Int × ByteArray × Int × Int × Int × Int × List Int × Int × Int) := if 0 ≤ (wrap64 (Int.tdiv (wrap64 (a0 - 20)) 3)) then (if 0 ≤ (Int.tmod (wrap64 (a0 - 20)) 3) then (if (Int.tmod (wrap64 (a0 - 20)) 3) < 3 then ((strconv_Itoa.f (arr3 (Int.tmod (wrap64 (a0 - 20)) 3))).bind fun t102 => (if 10 + t102.size ≤ 9223372036854775807 then (if ((⟨#[88, 77, 83, 83, 45, 83, 72, 65, 50, 95]⟩ : ByteArray) ++ t102).size + 1 ≤ 9223372036854775807 then ((strconv_Itoa.f (wrap64 (8 * (shl .i64 32 (wrap64 (Int.tdiv (wrap64 (a0 - 20)) 3)))))).bind fun t103 => (if (((⟨#[88, 77, 83, 83, 45, 83, 72, 65, 50, 95]⟩ : ByteArray) ++ t102) ++ (⟨#[95]⟩ : ByteArray)).size + t103.size ≤ 9223372036854775807 then ((params_of.f (⟨#[49, 46, 51, 46, 54, 46, 49, 46, 53, 46, 53, 46, 55, 46, 54, 46, 51, 52]⟩ : ByteArray)).bind fun t104 => (some (0, 5, (((⟨#[88, 77, 83, 83, 45, 83, 72, 65, 50, 95]⟩ : ByteArray) ++ t102) ++ (⟨#[95]⟩ : ByteArray)) ++ t103, wrap64 (4 + (wrap64 (2 * (shl .i64 32 (wrap64 (Int.tdiv (wrap64 (a0 - 20)) 3)))))), 0, 0, wrap64 (4 + (wrap64 ((shl .i64 32 (wrap64 (Int.tdiv (wrap64 (a0 - 20)) 3))) * (wrap64 ((wrap64 ((wrap64 (1 + (wrap64 (2 * (shl .i64 32 (wrap64 (Int.tdiv (wrap64 (a0 - 20)) 3))))))) + 3)) + (arr3 (Int.tmod (wrap64 (a0 - 20)) 3))))))), t104, 0, (wrap64 ((wrap64 (a0 - 20)) + 1)) % 4294967296))) else (none))) else (none)) else (none))) else (none)) else (none)) else (none)
set_option maxHeartbeats 8000000 in
set_option maxRecDepth 100000 in
theorem params_xmss.calls (a0 : Int) (r1 : Int) (r2 : Int) (r3 : ByteArray) (r4 : Int) (r5 : Int) (r6 : Int) (r7 : Int) (r8 : List Int) (r9 : Int) (r10 : Int) (w : World) (HLd : LaidOk w) (h : params_xmss.f a0 = some (r1, r2, r3, r4, r5, r6, r7, r8, r9, r10)) :
    Calls Tryd.prog 48 #[.int .i64 a0] w fun e w' => ∃ v7_ : Value, e = .returned (.agg #[.int .i64 r1, .int .i64 r2, .string r3, .int .i64 r4, .int .i64 r5, .int .i64 r6, .int .i64 r7, v7_, .int .i64 r9, .int .u32 r10]) ∧ Kd.R (Kd.int .u32) 27 w' w.heap.size (fun _ => True) v7_ r8 ∧ Below w.heap.size w w' := by
  have hu37 := Tryd.underlying37
  have HB := Aside0.mk (Below.refl w.heap.size w)
  have H : (if 0 ≤ (wrap64 (Int.tdiv (wrap64 (a0 - 20)) 3)) then (if 0 ≤ (Int.tmod (wrap64 (a0 - 20)) 3) then (if (Int.tmod (wrap64 (a0 - 20)) 3) < 3 then ((strconv_Itoa.f (arr3 (Int.tmod (wrap64 (a0 - 20)) 3))).bind fun t102 => (if 10 + t102.size ≤ 9223372036854775807 then (if ((⟨#[88, 77, 83, 83, 45, 83, 72, 65, 50, 95]⟩ : ByteArray) ++ t102).size + 1 ≤ 9223372036854775807 then ((strconv_Itoa.f (wrap64 (8 * (shl .i64 32 (wrap64 (Int.tdiv (wrap64 (a0 - 20)) 3)))))).bind fun t103 => (if (((⟨#[88, 77, 83, 83, 45, 83, 72, 65, 50, 95]⟩ : ByteArray) ++ t102) ++ (⟨#[95]⟩ : ByteArray)).size + t103.size ≤ 9223372036854775807 then ((params_of.f (⟨#[49, 46, 51, 46, 54, 46, 49, 46, 53, 46, 53, 46, 55, 46, 54, 46, 51, 52]⟩ : ByteArray)).bind fun t104 => (some (0, 5, (((⟨#[88, 77, 83, 83, 45, 83, 72, 65, 50, 95]⟩ : ByteArray) ++ t102) ++ (⟨#[95]⟩ : ByteArray)) ++ t103, wrap64 (4 + (wrap64 (2 * (shl .i64 32 (wrap64 (Int.tdiv (wrap64 (a0 - 20)) 3)))))), 0, 0, wrap64 (4 + (wrap64 ((shl .i64 32 (wrap64 (Int.tdiv (wrap64 (a0 - 20)) 3))) * (wrap64 ((wrap64 ((wrap64 (1 + (wrap64 (2 * (shl .i64 32 (wrap64 (Int.tdiv (wrap64 (a0 - 20)) 3))))))) + 3)) + (arr3 (Int.tmod (wrap64 (a0 - 20)) 3))))))), t104, 0, (wrap64 ((wrap64 (a0 - 20)) + 1)) % 4294967296))) else (none))) else (none)) else (none))) else (none)) else (none)) else (none)) = some (r1, r2, r3, r4, r5, r6, r7, r8, r9, r10) := h
  clear h
  obtain ⟨ji2, hji2⟩ : ∃ j_ : Int, (wrap64 (Int.tdiv (wrap64 (a0 - 20)) 3)) = j_ := ⟨_, rfl⟩
  replace H : (if 0 ≤ (ji2) then (if 0 ≤ (Int.tmod (wrap64 (a0 - 20)) 3) then (if (Int.tmod (wrap64 (a0 - 20)) 3) < 3 then ((strconv_Itoa.f (arr3 (Int.tmod (wrap64 (a0 - 20)) 3))).bind fun t102 => (if 10 + t102.size ≤ 9223372036854775807 then (if ((⟨#[88, 77, 83, 83, 45, 83, 72, 65, 50, 95]⟩ : ByteArray) ++ t102).size + 1 ≤ 9223372036854775807 then ((strconv_Itoa.f (wrap64 (8 * (shl .i64 32 (ji2))))).bind fun t103 => (if (((⟨#[88, 77, 83, 83, 45, 83, 72, 65, 50, 95]⟩ : ByteArray) ++ t102) ++ (⟨#[95]⟩ : ByteArray)).size + t103.size ≤ 9223372036854775807 then ((params_of.f (⟨#[49, 46, 51, 46, 54, 46, 49, 46, 53, 46, 53, 46, 55, 46, 54, 46, 51, 52]⟩ : ByteArray)).bind fun t104 => (some (0, 5, (((⟨#[88, 77, 83, 83, 45, 83, 72, 65, 50, 95]⟩ : ByteArray) ++ t102) ++ (⟨#[95]⟩ : ByteArray)) ++ t103, wrap64 (4 + (wrap64 (2 * (shl .i64 32 (ji2))))), 0, 0, wrap64 (4 + (wrap64 ((shl .i64 32 (ji2)) * (wrap64 ((wrap64 ((wrap64 (1 + (wrap64 (2 * (shl .i64 32 (ji2)))))) + 3)) + (arr3 (Int.tmod (wrap64 (a0 - 20)) 3))))))), t104, 0, (wrap64 ((wrap64 (a0 - 20)) + 1)) % 4294967296))) else (none))) else (none)) else (none))) else (none)) else (none)) else (none)) = some (r1, r2, r3, r4, r5, r6, r7, r8, r9, r10) := by first | (rw [hji2] at H; exact H) | (simp only [hji2] at H ⊢; exact H)
  have hji2w : (IntKind.i64.wrap (Int.tdiv (wrap64 (a0 - 20)) 3)) = ji2 := (i64_w _).trans hji2
  by_cases c3 : 0 ≤ (ji2)
  · rw [if_pos c3] at H
    have c3b0 := eq_true c3
    have c3b1 : decide (0 ≤ (ji2)) = true := decide_eq_true c3
    clear c3
    obtain ⟨ji4, hji4⟩ : ∃ j_ : Int, (shl .i64 32 (ji2)) = j_ := ⟨_, rfl⟩
    replace H : (if 0 ≤ (Int.tmod (wrap64 (a0 - 20)) 3) then (if (Int.tmod (wrap64 (a0 - 20)) 3) < 3 then ((strconv_Itoa.f (arr3 (Int.tmod (wrap64 (a0 - 20)) 3))).bind fun t102 => (if 10 + t102.size ≤ 9223372036854775807 then (if ((⟨#[88, 77, 83, 83, 45, 83, 72, 65, 50, 95]⟩ : ByteArray) ++ t102).size + 1 ≤ 9223372036854775807 then ((strconv_Itoa.f (wrap64 (8 * (ji4)))).bind fun t103 => (if (((⟨#[88, 77, 83, 83, 45, 83, 72, 65, 50, 95]⟩ : ByteArray) ++ t102) ++ (⟨#[95]⟩ : ByteArray)).size + t103.size ≤ 9223372036854775807 then ((params_of.f (⟨#[49, 46, 51, 46, 54, 46, 49, 46, 53, 46, 53, 46, 55, 46, 54, 46, 51, 52]⟩ : ByteArray)).bind fun t104 => (some (0, 5, (((⟨#[88, 77, 83, 83, 45, 83, 72, 65, 50, 95]⟩ : ByteArray) ++ t102) ++ (⟨#[95]⟩ : ByteArray)) ++ t103, wrap64 (4 + (wrap64 (2 * (ji4)))), 0, 0, wrap64 (4 + (wrap64 ((ji4) * (wrap64 ((wrap64 ((wrap64 (1 + (wrap64 (2 * (ji4))))) + 3)) + (arr3 (Int.tmod (wrap64 (a0 - 20)) 3))))))), t104, 0, (wrap64 ((wrap64 (a0 - 20)) + 1)) % 4294967296))) else (none))) else (none)) else (none))) else (none)) else (none)) = some (r1, r2, r3, r4, r5, r6, r7, r8, r9, r10) := by first | (rw [hji4] at H; exact H) | (simp only [hji4] at H ⊢; exact H)
    have hji4_ : (IntKind.i64.wrap (32 * 2 ^ min (ji2).toNat 64)) = ji4 := hji4
    have hji4z : (ji2) ≤ 64 → (IntKind.i64.wrap (32 * 2 ^ (ji2).toNat)) = ji4 := shl_small hji4
    have hji4y : (wrap64 (32 * 2 ^ min (ji2).toNat 64)) = ji4 := (i64_w _).symm.trans hji4_
    have hji4x : (ji2) ≤ 64 → (wrap64 (32 * 2 ^ (ji2).toNat)) = ji4 := fun h_ => (i64_w _).symm.trans (hji4z h_)
    obtain ⟨ji5, hji5⟩ : ∃ j_ : Int, (Int.tmod (wrap64 (a0 - 20)) 3) = j_ := ⟨_, rfl⟩
    replace H : (if 0 ≤ (ji5) then (if (ji5) < 3 then ((strconv_Itoa.f (arr3 (ji5))).bind fun t102 => (if 10 + t102.size ≤ 9223372036854775807 then (if ((⟨#[88, 77, 83, 83, 45, 83, 72, 65, 50, 95]⟩ : ByteArray) ++ t102).size + 1 ≤ 9223372036854775807 then ((strconv_Itoa.f (wrap64 (8 * (ji4)))).bind fun t103 => (if (((⟨#[88, 77, 83, 83, 45, 83, 72, 65, 50, 95]⟩ : ByteArray) ++ t102) ++ (⟨#[95]⟩ : ByteArray)).size + t103.size ≤ 9223372036854775807 then ((params_of.f (⟨#[49, 46, 51, 46, 54, 46, 49, 46, 53, 46, 53, 46, 55, 46, 54, 46, 51, 52]⟩ : ByteArray)).bind fun t104 => (some (0, 5, (((⟨#[88, 77, 83, 83, 45, 83, 72, 65, 50, 95]⟩ : ByteArray) ++ t102) ++ (⟨#[95]⟩ : ByteArray)) ++ t103, wrap64 (4 + (wrap64 (2 * (ji4)))), 0, 0, wrap64 (4 + (wrap64 ((ji4) * (wrap64 ((wrap64 ((wrap64 (1 + (wrap64 (2 * (ji4))))) + 3)) + (arr3 (ji5))))))), t104, 0, (wrap64 ((wrap64 (a0 - 20)) + 1)) % 4294967296))) else (none))) else (none)) else (none))) else (none)) else (none)) = some (r1, r2, r3, r4, r5, r6, r7, r8, r9, r10) := by first | (rw [hji5] at H; exact H) | (simp only [hji5] at H ⊢; exact H)
    by_cases c6 : 0 ≤ (ji5)
    · rw [if_pos c6] at H
      have c6b0 : decide (0 ≤ (ji5)) = true := decide_eq_true c6
      clear c6
      by_cases c7 : (ji5) < 3
      · rw [if_pos c7] at H
        have c7b0 : decide ((ji5) < 3) = true := decide_eq_true c7
        clear c7
        replace H := Option.bind_eq_some_iff.mp H
        obtain ⟨t102, A80, H⟩ := H
        replace H : (if 10 + t102.size ≤ 9223372036854775807 then (if ((⟨#[88, 77, 83, 83, 45, 83, 72, 65, 50, 95]⟩ : ByteArray) ++ t102).size + 1 ≤ 9223372036854775807 then ((strconv_Itoa.f (wrap64 (8 * (ji4)))).bind fun t103 => (if (((⟨#[88, 77, 83, 83, 45, 83, 72, 65, 50, 95]⟩ : ByteArray) ++ t102) ++ (⟨#[95]⟩ : ByteArray)).size + t103.size ≤ 9223372036854775807 then ((params_of.f (⟨#[49, 46, 51, 46, 54, 46, 49, 46, 53, 46, 53, 46, 55, 46, 54, 46, 51, 52]⟩ : ByteArray)).bind fun t104 => (some (0, 5, (((⟨#[88, 77, 83, 83, 45, 83, 72, 65, 50, 95]⟩ : ByteArray) ++ t102) ++ (⟨#[95]⟩ : ByteArray)) ++ t103, wrap64 (4 + (wrap64 (2 * (ji4)))), 0, 0, wrap64 (4 + (wrap64 ((ji4) * (wrap64 ((wrap64 ((wrap64 (1 + (wrap64 (2 * (ji4))))) + 3)) + (arr3 (ji5))))))), t104, 0, (wrap64 ((wrap64 (a0 - 20)) + 1)) % 4294967296))) else (none))) else (none)) else (none)) = some (r1, r2, r3, r4, r5, r6, r7, r8, r9, r10) := H
        have A8 := Aside0.mk A80
        clear A80
        by_cases c9 : 10 + t102.size ≤ 9223372036854775807
        · rw [if_pos c9] at H
          have c9b0 := eq_true c9
          have c9b1 : decide (10 + t102.size ≤ 9223372036854775807) = true := decide_eq_true c9
          try have c9b2 : (9223372036854775807 < 10 + t102.size) = False := eq_false (Nat.not_lt.2 c9)
          by_cases c10 : ((⟨#[88, 77, 83, 83, 45, 83, 72, 65, 50, 95]⟩ : ByteArray) ++ t102).size + 1 ≤ 9223372036854775807
          · rw [if_pos c10] at H
            have c10b0 := eq_true c10
            have c10b1 : decide (((⟨#[88, 77, 83, 83, 45, 83, 72, 65, 50, 95]⟩ : ByteArray) ++ t102).size + 1 ≤ 9223372036854775807) = true := decide_eq_true c10
            try have c10b2 : (9223372036854775807 < ((⟨#[88, 77, 83, 83, 45, 83, 72, 65, 50, 95]⟩ : ByteArray) ++ t102).size + 1) = False := eq_false (Nat.not_lt.2 c10)
            have c10b3 : (9223372036854775807 < 10 + t102.size + 1) = False := by
              have hs_ := c10
              simp only [ByteArray.size_append] at hs_
              have l0_ : (⟨#[88, 77, 83, 83, 45, 83, 72, 65, 50, 95]⟩ : ByteArray).size = 10 := rfl
              exact eq_false (by omega)
            replace H := Option.bind_eq_some_iff.mp H
            obtain ⟨t103, A110, H⟩ := H
            replace H : (if (((⟨#[88, 77, 83, 83, 45, 83, 72, 65, 50, 95]⟩ : ByteArray) ++ t102) ++ (⟨#[95]⟩ : ByteArray)).size + t103.size ≤ 9223372036854775807 then ((params_of.f (⟨#[49, 46, 51, 46, 54, 46, 49, 46, 53, 46, 53, 46, 55, 46, 54, 46, 51, 52]⟩ : ByteArray)).bind fun t104 => (some (0, 5, (((⟨#[88, 77, 83, 83, 45, 83, 72, 65, 50, 95]⟩ : ByteArray) ++ t102) ++ (⟨#[95]⟩ : ByteArray)) ++ t103, wrap64 (4 + (wrap64 (2 * (ji4)))), 0, 0, wrap64 (4 + (wrap64 ((ji4) * (wrap64 ((wrap64 ((wrap64 (1 + (wrap64 (2 * (ji4))))) + 3)) + (arr3 (ji5))))))), t104, 0, (wrap64 ((wrap64 (a0 - 20)) + 1)) % 4294967296))) else (none)) = some (r1, r2, r3, r4, r5, r6, r7, r8, r9, r10) := H
            have A11 := Aside0.mk A110
            clear A110
            by_cases c12 : (((⟨#[88, 77, 83, 83, 45, 83, 72, 65, 50, 95]⟩ : ByteArray) ++ t102) ++ (⟨#[95]⟩ : ByteArray)).size + t103.size ≤ 9223372036854775807
            · rw [if_pos c12] at H
              have c12b0 := eq_true c12
              have c12b1 : decide ((((⟨#[88, 77, 83, 83, 45, 83, 72, 65, 50, 95]⟩ : ByteArray) ++ t102) ++ (⟨#[95]⟩ : ByteArray)).size + t103.size ≤ 9223372036854775807) = true := decide_eq_true c12
              try have c12b2 : (9223372036854775807 < (((⟨#[88, 77, 83, 83, 45, 83, 72, 65, 50, 95]⟩ : ByteArray) ++ t102) ++ (⟨#[95]⟩ : ByteArray)).size + t103.size) = False := eq_false (Nat.not_lt.2 c12)
              have c12b3 : (9223372036854775807 < 10 + t102.size + 1 + t103.size) = False := by
                have hs_ := c12
                simp only [ByteArray.size_append] at hs_
                have l0_ : (⟨#[88, 77, 83, 83, 45, 83, 72, 65, 50, 95]⟩ : ByteArray).size = 10 := rfl
                have l1_ : (⟨#[95]⟩ : ByteArray).size = 1 := rfl
                exact eq_false (by omega)
              replace H := Option.bind_eq_some_iff.mp H
              obtain ⟨t104, A130, H⟩ := H
              replace H : (some (0, 5, (((⟨#[88, 77, 83, 83, 45, 83, 72, 65, 50, 95]⟩ : ByteArray) ++ t102) ++ (⟨#[95]⟩ : ByteArray)) ++ t103, wrap64 (4 + (wrap64 (2 * (ji4)))), 0, 0, wrap64 (4 + (wrap64 ((ji4) * (wrap64 ((wrap64 ((wrap64 (1 + (wrap64 (2 * (ji4))))) + 3)) + (arr3 (ji5))))))), t104, 0, (wrap64 ((wrap64 (a0 - 20)) + 1)) % 4294967296)) = some (r1, r2, r3, r4, r5, r6, r7, r8, r9, r10) := H
              have A13 := Aside0.mk A130
              clear A130
              simp only [Option.some.injEq, Prod.mk.injEq] at H
              obtain ⟨rfl, rfl, rfl, rfl, rfl, rfl, rfl, rfl, rfl, rfl⟩ := H
              have hx3 : ∀ W, (Instr.index 92 (.agg #[.int .i64 10, .int .i64 16, .int .i64 20]) (.int .i64 ji5)).run Tryd.prog W = .ok (.int .i64 (arr3 ji5)) W := fun W => arr3_index _ (of_decide_eq_true (by assumption)) (of_decide_eq_true (by assumption)) W
              go_enter Tryd.func48, Tryd.ntmps48
              go_wp2_with (first | ((with_reducible refine gate_dst (N := 2) rfl ?_); refine box_event ?hg (N := 2) ?hd (cs := #[.int .i64 0, .int .i64 0, .string (⟨#[]⟩ : ByteArray), .int .i64 0, .int .i64 0, .int .i64 0, .int .i64 0, .slice none 0 0, .int .i64 0, .int .u32 0]) (t := 37) ?hr ?_; (case hd => rfl); (case hg => rfl); (case hr => first | (go_simp; done) | (go_simp; rfl)); intro gb101 hg w14 hbox hb; have n0_ := Aside0.mk (below_step (by repeat (first | (with_reducible first | exact HB.out | apply below_alloc | apply pw_below_drewN | apply below_drew1) | exact HB.out)) hb); have n1_ := Aside0.mk (hbox); have n2_ := Aside0.mk ((by rw [hg]; exact (below_size (by repeat (first | (with_reducible first | exact HB.out | apply below_alloc | apply pw_below_drewN | apply below_drew1) | exact HB.out))) : w.heap.size ≤ gb101)); have n3_ := Aside0.mk ((by rw [hg]; exact (below_size (by repeat (first | (with_reducible first | exact HB.out | apply below_alloc | apply pw_below_drewN | apply below_drew1) | exact HB.out))) : w.heap.size ≤ gb101)); clear HB; have HB := n0_; have BK101 := n1_; have GW101 := n2_; have GE101 := n3_; clear n0_ n1_ n2_ n3_; clear hb hbox hg) | ((with_reducible refine gate_callee (f := 68) rfl ?_); refine goesL_ (some 17) rfl rfl Tryd.func68 (by kernel_rfl) rfl #[.int .i64 (arr3 (ji5))] rfl (by (try simp only [List.map_toArray, List.map_cons, List.map_nil]); first | done | (simp only [hji5]; rfl) | rfl | (simp only [List.length_drop, List.length_take]; rfl)) ?_; (with_reducible refine (strconv_Itoa.calls (arr3 (ji5)) t102 _ ?side1 A8.out).mono ?_); (case side1 => first | exact HLd | (exact LaidOk.below HLd (by repeat (first | (with_reducible first | exact HB.out | apply below_alloc | apply pw_below_drewN | apply below_drew1) | exact HB.out))) | (repeat (first | exact HLd | apply LaidOk.drewN | apply LaidOk.drew | apply LaidOk.alloc))); rintro e w15 ⟨rfl, hb⟩; refine ⟨_, rfl, ?_⟩; have n0_ := Aside0.mk (blk_below (g := gb101) (o := .cells #[.int .i64 0, .int .i64 0, .string (⟨#[]⟩ : ByteArray), .int .i64 0, .int .i64 0, .int .i64 0, .int .i64 0, .slice none 0 0, .int .i64 0, .int .u32 0] 37 (0, 0)) (by (with_reducible repeat (first | refine blk_drewN ?_ _ | refine blk_drew ?_ | refine blk_alloc ?_ _)); exact BK101.out) hb); have n1_ := Aside0.mk (below_step (by repeat (first | (with_reducible first | exact HB.out | apply below_alloc | apply pw_below_drewN | apply below_drew1 | refine below_set ?_ GE101.out) | exact HB.out)) hb); clear BK101; clear HB; have BK101 := n0_; have HB := n1_; clear n0_ n1_; (try clear hb); (try clear hb2); (try clear hk); (try clear hi)) | ((with_reducible refine gate_callee (f := 68) rfl ?_); refine goesL_ (some 22) rfl rfl Tryd.func68 (by kernel_rfl) rfl #[.int .i64 (wrap64 (8 * (ji4)))] rfl (by (try simp only [List.map_toArray, List.map_cons, List.map_nil]); first | done | (simp only [hji4]; rfl) | rfl | (simp only [List.length_drop, List.length_take]; rfl)) ?_; (with_reducible refine (strconv_Itoa.calls (wrap64 (8 * (ji4))) t103 _ ?side1 A11.out).mono ?_); (case side1 => first | exact HLd | (exact LaidOk.below HLd (by repeat (first | (with_reducible first | exact HB.out | apply below_alloc | apply pw_below_drewN | apply below_drew1) | exact HB.out))) | (repeat (first | exact HLd | apply LaidOk.drewN | apply LaidOk.drew | apply LaidOk.alloc))); rintro e w16 ⟨rfl, hb⟩; refine ⟨_, rfl, ?_⟩; have n0_ := Aside0.mk (blk_below (g := gb101) (o := .cells #[.int .i64 0, .int .i64 0, .string (⟨#[]⟩ : ByteArray), .int .i64 0, .int .i64 0, .int .i64 0, .int .i64 0, .slice none 0 0, .int .i64 0, .int .u32 0] 37 (0, 0)) (by (with_reducible repeat (first | refine blk_drewN ?_ _ | refine blk_drew ?_ | refine blk_alloc ?_ _)); exact BK101.out) hb); have n1_ := Aside0.mk (below_step (by repeat (first | (with_reducible first | exact HB.out | apply below_alloc | apply pw_below_drewN | apply below_drew1 | refine below_set ?_ GE101.out) | exact HB.out)) hb); clear BK101; clear HB; have BK101 := n0_; have HB := n1_; clear n0_ n1_; (try clear hb); (try clear hb2); (try clear hk); (try clear hi)) | ((with_reducible refine gate_callee (f := 47) rfl ?_); refine goesL_ (some 37) rfl rfl Tryd.func47 (by kernel_rfl) rfl #[.string (⟨#[49, 46, 51, 46, 54, 46, 49, 46, 53, 46, 53, 46, 55, 46, 54, 46, 51, 52]⟩ : ByteArray)] rfl (by (try simp only [List.map_toArray, List.map_cons, List.map_nil]); first | done | rfl | (simp only [List.length_drop, List.length_take]; rfl)) ?_; (with_reducible refine (params_of.calls (⟨#[49, 46, 51, 46, 54, 46, 49, 46, 53, 46, 53, 46, 55, 46, 54, 46, 51, 52]⟩ : ByteArray) t104 _ ?side1 A13.out).mono ?_); (case side1 => first | exact HLd | (exact LaidOk.below HLd (by repeat (first | (with_reducible first | exact HB.out | apply below_alloc | apply pw_below_drewN | apply below_drew1) | exact HB.out))) | (repeat (first | exact HLd | apply LaidOk.drewN | apply LaidOk.drew | apply LaidOk.alloc))); rintro e w17 ⟨v105, rfl, ho0, hb⟩; refine ⟨_, rfl, ?_⟩; have n0_ := Aside0.mk (Kd.R_lower ho0 (below_size (by repeat (first | (with_reducible first | exact HB.out | apply below_alloc | apply pw_below_drewN | apply below_drew1 | refine below_set ?_ GE101.out) | exact HB.out)))); have n1_ := Aside0.mk (blk_below (g := gb101) (o := .cells #[.int .i64 0, .int .i64 0, .string (⟨#[]⟩ : ByteArray), .int .i64 0, .int .i64 0, .int .i64 0, .int .i64 0, .slice none 0 0, .int .i64 0, .int .u32 0] 37 (0, 0)) (by (with_reducible repeat (first | refine blk_drewN ?_ _ | refine blk_drew ?_ | refine blk_alloc ?_ _)); exact BK101.out) hb); have n2_ := Aside0.mk (below_step (by repeat (first | (with_reducible first | exact HB.out | apply below_alloc | apply pw_below_drewN | apply below_drew1 | refine below_set ?_ GE101.out) | exact HB.out)) hb); clear BK101; clear HB; have HO106 := n0_; have BK101 := n1_; have HB := n2_; clear n0_ n1_ n2_; (try clear hb); (try clear hb2); (try clear hk); (try clear hi); (try clear ho0); obtain ⟨Ao18, co18, eo18⟩ := Kd.R_slice HO106.out; subst eo18; have hcz19_0 : w17.cell? ⟨gb101, 0, none⟩ = some (.int .i64 0) := (blk_cell BK101.out 0).trans rfl; have hcz19_1 : w17.cell? ⟨gb101, 1, none⟩ = some (.int .i64 0) := (blk_cell BK101.out 1).trans rfl; have hcz19_2 : w17.cell? ⟨gb101, 2, none⟩ = some (.string (⟨#[]⟩ : ByteArray)) := (blk_cell BK101.out 2).trans rfl; have hcz19_3 : w17.cell? ⟨gb101, 3, none⟩ = some (.int .i64 0) := (blk_cell BK101.out 3).trans rfl; have hcz19_4 : w17.cell? ⟨gb101, 4, none⟩ = some (.int .i64 0) := (blk_cell BK101.out 4).trans rfl; have hcz19_5 : w17.cell? ⟨gb101, 5, none⟩ = some (.int .i64 0) := (blk_cell BK101.out 5).trans rfl; have hcz19_6 : w17.cell? ⟨gb101, 6, none⟩ = some (.int .i64 0) := (blk_cell BK101.out 6).trans rfl; have hcz19_7 : w17.cell? ⟨gb101, 7, none⟩ = some (.slice none 0 0) := (blk_cell BK101.out 7).trans rfl; have hcz19_8 : w17.cell? ⟨gb101, 8, none⟩ = some (.int .i64 0) := (blk_cell BK101.out 8).trans rfl; have hcz19_9 : w17.cell? ⟨gb101, 9, none⟩ = some (.int .u32 0) := (blk_cell BK101.out 9).trans rfl; have hfz19_0 := blk_frozen BK101.out 0; have hfz19_1 := blk_frozen BK101.out 1; have hfz19_2 := blk_frozen BK101.out 2; have hfz19_3 := blk_frozen BK101.out 3; have hfz19_4 := blk_frozen BK101.out 4; have hfz19_5 := blk_frozen BK101.out 5; have hfz19_6 := blk_frozen BK101.out 6; have hfz19_7 := blk_frozen BK101.out 7; have hfz19_8 := blk_frozen BK101.out 8; have hfz19_9 := blk_frozen BK101.out 9))
              refine bodyPost_ret (results_cell_row rfl _ _ gb101 37 #[.int .i64 0, .int .i64 5, .string ((((⟨#[88, 77, 83, 83, 45, 83, 72, 65, 50, 95]⟩ : ByteArray) ++ t102) ++ (⟨#[95]⟩ : ByteArray)) ++ t103), .int .i64 (wrap64 (4 + (wrap64 (2 * (ji4))))), .int .i64 0, .int .i64 0, .int .i64 (wrap64 (4 + (wrap64 ((ji4) * (wrap64 ((wrap64 ((wrap64 (1 + (wrap64 (2 * (ji4))))) + 3)) + (arr3 (ji5)))))))), .slice Ao18 t104.length co18, .int .i64 0, .int .u32 ((wrap64 ((wrap64 (a0 - 20)) + 1)) % 4294967296)] (0, 0) _ rfl (by (with_reducible repeat (first | refine blk_drewN ?_ _ | refine blk_drew ?_ | refine blk_alloc ?_ _)); refine blk_put (cs := #[.int .i64 0, .int .i64 5, .string ((((⟨#[88, 77, 83, 83, 45, 83, 72, 65, 50, 95]⟩ : ByteArray) ++ t102) ++ (⟨#[95]⟩ : ByteArray)) ++ t103), .int .i64 (wrap64 (4 + (wrap64 (2 * (ji4))))), .int .i64 0, .int .i64 0, .int .i64 (wrap64 (4 + (wrap64 ((ji4) * (wrap64 ((wrap64 ((wrap64 (1 + (wrap64 (2 * (ji4))))) + 3)) + (arr3 (ji5)))))))), .slice Ao18 t104.length co18, .int .i64 0, .int .u32 0]) ?_ 9 _ rfl; (with_reducible repeat (first | refine blk_drewN ?_ _ | refine blk_drew ?_ | refine blk_alloc ?_ _)); refine blk_put (cs := #[.int .i64 0, .int .i64 5, .string ((((⟨#[88, 77, 83, 83, 45, 83, 72, 65, 50, 95]⟩ : ByteArray) ++ t102) ++ (⟨#[95]⟩ : ByteArray)) ++ t103), .int .i64 (wrap64 (4 + (wrap64 (2 * (ji4))))), .int .i64 0, .int .i64 0, .int .i64 (wrap64 (4 + (wrap64 ((ji4) * (wrap64 ((wrap64 ((wrap64 (1 + (wrap64 (2 * (ji4))))) + 3)) + (arr3 (ji5)))))))), .slice Ao18 t104.length co18, .int .i64 0, .int .u32 0]) ?_ 8 _ rfl; (with_reducible repeat (first | refine blk_drewN ?_ _ | refine blk_drew ?_ | refine blk_alloc ?_ _)); refine blk_put (cs := #[.int .i64 0, .int .i64 5, .string ((((⟨#[88, 77, 83, 83, 45, 83, 72, 65, 50, 95]⟩ : ByteArray) ++ t102) ++ (⟨#[95]⟩ : ByteArray)) ++ t103), .int .i64 (wrap64 (4 + (wrap64 (2 * (ji4))))), .int .i64 0, .int .i64 0, .int .i64 (wrap64 (4 + (wrap64 ((ji4) * (wrap64 ((wrap64 ((wrap64 (1 + (wrap64 (2 * (ji4))))) + 3)) + (arr3 (ji5)))))))), .slice none 0 0, .int .i64 0, .int .u32 0]) ?_ 7 _ rfl; (with_reducible repeat (first | refine blk_drewN ?_ _ | refine blk_drew ?_ | refine blk_alloc ?_ _)); refine blk_put (cs := #[.int .i64 0, .int .i64 5, .string ((((⟨#[88, 77, 83, 83, 45, 83, 72, 65, 50, 95]⟩ : ByteArray) ++ t102) ++ (⟨#[95]⟩ : ByteArray)) ++ t103), .int .i64 (wrap64 (4 + (wrap64 (2 * (ji4))))), .int .i64 0, .int .i64 0, .int .i64 0, .slice none 0 0, .int .i64 0, .int .u32 0]) ?_ 6 _ rfl; (with_reducible repeat (first | refine blk_drewN ?_ _ | refine blk_drew ?_ | refine blk_alloc ?_ _)); refine blk_put (cs := #[.int .i64 0, .int .i64 5, .string ((((⟨#[88, 77, 83, 83, 45, 83, 72, 65, 50, 95]⟩ : ByteArray) ++ t102) ++ (⟨#[95]⟩ : ByteArray)) ++ t103), .int .i64 (wrap64 (4 + (wrap64 (2 * (ji4))))), .int .i64 0, .int .i64 0, .int .i64 0, .slice none 0 0, .int .i64 0, .int .u32 0]) ?_ 5 _ rfl; (with_reducible repeat (first | refine blk_drewN ?_ _ | refine blk_drew ?_ | refine blk_alloc ?_ _)); refine blk_put (cs := #[.int .i64 0, .int .i64 5, .string ((((⟨#[88, 77, 83, 83, 45, 83, 72, 65, 50, 95]⟩ : ByteArray) ++ t102) ++ (⟨#[95]⟩ : ByteArray)) ++ t103), .int .i64 (wrap64 (4 + (wrap64 (2 * (ji4))))), .int .i64 0, .int .i64 0, .int .i64 0, .slice none 0 0, .int .i64 0, .int .u32 0]) ?_ 4 _ rfl; (with_reducible repeat (first | refine blk_drewN ?_ _ | refine blk_drew ?_ | refine blk_alloc ?_ _)); refine blk_put (cs := #[.int .i64 0, .int .i64 5, .string ((((⟨#[88, 77, 83, 83, 45, 83, 72, 65, 50, 95]⟩ : ByteArray) ++ t102) ++ (⟨#[95]⟩ : ByteArray)) ++ t103), .int .i64 0, .int .i64 0, .int .i64 0, .int .i64 0, .slice none 0 0, .int .i64 0, .int .u32 0]) ?_ 3 _ rfl; (with_reducible repeat (first | refine blk_drewN ?_ _ | refine blk_drew ?_ | refine blk_alloc ?_ _)); refine blk_put (cs := #[.int .i64 0, .int .i64 5, .string (⟨#[]⟩ : ByteArray), .int .i64 0, .int .i64 0, .int .i64 0, .int .i64 0, .slice none 0 0, .int .i64 0, .int .u32 0]) ?_ 2 _ rfl; (with_reducible repeat (first | refine blk_drewN ?_ _ | refine blk_drew ?_ | refine blk_alloc ?_ _)); refine blk_put (cs := #[.int .i64 0, .int .i64 0, .string (⟨#[]⟩ : ByteArray), .int .i64 0, .int .i64 0, .int .i64 0, .int .i64 0, .slice none 0 0, .int .i64 0, .int .u32 0]) ?_ 1 _ rfl; (with_reducible repeat (first | refine blk_drewN ?_ _ | refine blk_drew ?_ | refine blk_alloc ?_ _)); refine blk_put (cs := #[.int .i64 0, .int .i64 0, .string (⟨#[]⟩ : ByteArray), .int .i64 0, .int .i64 0, .int .i64 0, .int .i64 0, .slice none 0 0, .int .i64 0, .int .u32 0]) ?_ 0 _ rfl; (with_reducible repeat (first | refine blk_drewN ?_ _ | refine blk_drew ?_ | refine blk_alloc ?_ _)); exact BK101.out) Tryd.underlying37 rfl (by kernel_rfl)) rfl ?_
              exact ⟨_, by first | rfl | (simp [errW_none, errW_some] <;> rfl) | (simp only [← hji2, ← hji4, ← hji5]; first | rfl | (simp [errW_none, errW_some] <;> rfl)) | (simp [*, errW_none, errW_some] <;> rfl), by (with_reducible repeat (first | apply Kd.R_alloc | apply Kd.R_drewN | apply Kd.R_drew)); exact Kd.R_mono (Kd.R_far (p := ⟨gb101, 9, none⟩) (Kd.R_far (p := ⟨gb101, 8, none⟩) (Kd.R_far (p := ⟨gb101, 7, none⟩) (Kd.R_far (p := ⟨gb101, 6, none⟩) (Kd.R_far (p := ⟨gb101, 5, none⟩) (Kd.R_far (p := ⟨gb101, 4, none⟩) (Kd.R_far (p := ⟨gb101, 3, none⟩) (Kd.R_far (p := ⟨gb101, 2, none⟩) (Kd.R_far (p := ⟨gb101, 1, none⟩) (Kd.R_far (p := ⟨gb101, 0, none⟩) (Kd.R_types HO106.out BK101.out (by decide)) (fun _ hk => hk.2) (.int .i64 0)) (fun _ hk => hk.2) (.int .i64 5)) (fun _ hk => hk.2) (.string ((((⟨#[88, 77, 83, 83, 45, 83, 72, 65, 50, 95]⟩ : ByteArray) ++ t102) ++ (⟨#[95]⟩ : ByteArray)) ++ t103))) (fun _ hk => hk.2) (.int .i64 (wrap64 (4 + (wrap64 (2 * (ji4))))))) (fun _ hk => hk.2) (.int .i64 0)) (fun _ hk => hk.2) (.int .i64 0)) (fun _ hk => hk.2) (.int .i64 (wrap64 (4 + (wrap64 ((ji4) * (wrap64 ((wrap64 ((wrap64 (1 + (wrap64 (2 * (ji4))))) + 3)) + (arr3 (ji5)))))))))) (fun _ hk => hk.2) (.slice Ao18 t104.length co18)) (fun _ hk => hk.2) (.int .i64 0)) (fun _ hk => hk.2) (.int .u32 ((wrap64 ((wrap64 (a0 - 20)) + 1)) % 4294967296))) (fun _ hk => trivial), by repeat (first | (with_reducible first | exact HB.out | apply below_alloc | apply pw_below_drewN | apply below_drew1 | refine below_set ?_ GE101.out) | exact HB.out)⟩
            · rw [if_neg c12] at H
              exact absurd H (by simp)
          · rw [if_neg c10] at H
            exact absurd H (by simp)
        · rw [if_neg c9] at H
          exact absurd H (by simp)
      · rw [if_neg c7] at H
        exact absurd H (by simp)
    · rw [if_neg c6] at H
      exact absurd H (by simp)
  · rw [if_neg c3] at H
    exact absurd H (by simp)

end Go.Proofs.YtjoncjnmhhimhaaDoor.PParX
end

section
-- Written by the kit's print.py, driven by this place's wip/tools/myprint.py. Not trusted: Lean checks it.
namespace Go.Proofs.YtjoncjnmhhimhaaDoor.PDec
open Go.RowKit Go.Proofs.YtjoncjnmhhimhaaDoor.Hand Go.Proofs.YtjoncjnmhhimhaaDoorW.PrintWords Go.Proofs.YtjoncjnmhhimhaaDoorW.PrintLast Go.Proofs.YtjoncjnmhhimhaaDoorW.PrintMore
attribute [local go_sem] max2_int min2_int max_two min_two max_three min_three max_four min_four   -- for this text's walks alone
set_option linter.unusedVariables false
set_option linter.unusedSimpArgs false



def errW : Option Int → Value
  | none => .nilIface
  | some c => .iface 0 (.int .i64 c)
theorem errW_none : errW none = .nilIface := rfl
theorem errW_some (c : Int) : errW (some c) = .iface 0 (.int .i64 c) := rfl

-- the values' own types

end Go.Proofs.YtjoncjnmhhimhaaDoor.PDec
namespace Go.Proofs.YtjoncjnmhhimhaaDoor.PDec
open Go.RowKit Go.Proofs.YtjoncjnmhhimhaaDoor.Hand Go.Proofs.YtjoncjnmhhimhaaDoorW.PrintWords Go.Proofs.YtjoncjnmhhimhaaDoorW.PrintLast Go.Proofs.YtjoncjnmhhimhaaDoorW.PrintMore
attribute [local go_sem] max2_int min2_int max_two min_two max_three min_three max_four min_four   -- for this text's walks alone
set_option linter.unusedVariables false
set_option linter.unusedSimpArgs false

/-! ### pyxref02_Decimal: function 44 -/
def pyxref02_Decimal.f : Nat → Int → Option (ByteArray)
  | 0, _ => none
  | k + 1, a0 => if a0 < (-9) then ((pyxref02_Decimal.f k (wrap64 (Int.tdiv a0 10))).bind fun t101 => ((pyxref02_Decimal.f k (wrap64 (-(Int.tmod a0 10)))).bind fun t102 => (if t101.size + t102.size ≤ 9223372036854775807 then (some (t101 ++ t102)) else (none)))) else (if a0 < 0 then ((pyxref02_Decimal.f k (wrap64 (-a0))).bind fun t103 => (if 1 + t103.size ≤ 9223372036854775807 then (some ((⟨#[45]⟩ : ByteArray) ++ t103)) else (none))) else (if a0 < 10 then (if 0 ≤ a0 then (if a0 ≤ (wrap64 (a0 + 1)) then (if (wrap64 (a0 + 1)) ≤ 10 then (some ((⟨#[48, 49, 50, 51, 52, 53, 54, 55, 56, 57]⟩ : ByteArray).extract (a0 : Int).toNat ((wrap64 (a0 + 1)) : Int).toNat)) else (none)) else (none)) else (none)) else ((pyxref02_Decimal.f k (wrap64 (Int.tdiv a0 10))).bind fun t104 => (if 0 ≤ (Int.tmod a0 10) then (if (Int.tmod a0 10) ≤ (wrap64 ((Int.tmod a0 10) + 1)) then (if (wrap64 ((Int.tmod a0 10) + 1)) ≤ 10 then (if t104.size + ((⟨#[48, 49, 50, 51, 52, 53, 54, 55, 56, 57]⟩ : ByteArray).extract ((Int.tmod a0 10) : Int).toNat ((wrap64 ((Int.tmod a0 10) + 1)) : Int).toNat).size ≤ 9223372036854775807 then (some (t104 ++ ((⟨#[48, 49, 50, 51, 52, 53, 54, 55, 56, 57]⟩ : ByteArray).extract ((Int.tmod a0 10) : Int).toNat ((wrap64 ((Int.tmod a0 10) + 1)) : Int).toNat))) else (none)) else (none)) else (none)) else (none)))))
theorem pyxref02_Decimal.mono_l : ∀ k, (∀ y0, LeO (pyxref02_Decimal.f k y0) (pyxref02_Decimal.f (k + 1) y0))
  | 0 => fun _ r h => by simp [pyxref02_Decimal.f] at h
  | k + 1 => by
    have ih0 := pyxref02_Decimal.mono_l k
    · intro y0
      unfold pyxref02_Decimal.f
      repeat' first
      | (with_reducible exact ih0 _)
      | (with_reducible exact LeO.refl _)
      | (with_reducible exact LeO.none _)
      | (with_reducible refine LeO.ite ?_ ?_)
      | (with_reducible refine LeO.bind ?_ (fun _ => ?_))
      | exact ih0 _
      | exact LeO.none _
      | refine LeO.ite ?_ ?_
      | refine LeO.bind ?_ (fun _ => ?_)
theorem pyxref02_Decimal.mono : ∀ a0 k, LeO (pyxref02_Decimal.f k a0) (pyxref02_Decimal.f (k + 1) a0) := by
  intro a0 k
  have ih0 := pyxref02_Decimal.mono_l k
  exact ih0 a0
def pyxref02_Decimal.T8 : Bool × List (List Nat × List Nat) := (true, [([], []), ([0], [0]), ([1], [1]), ([], []), ([], []), ([4], [4]), ([], []), ([6], [6]), ([7], [7]), ([3, 5, 8], [3, 5, 8]), ([2, 9], [2, 9]), ([10, 2, 0, 1, 2, 3, 4, 5, 6, 7, 8, 9, 10], [10])])
def pyxref02_Decimal.B8 : List Nat := [0, 1, 3, 0, 0, 16, 0, 64, 192, 504, 1023, 2047]
theorem pyxref02_Decimal.tab8 : rtab .any (opsOf Tryd.f44 8) = pyxref02_Decimal.T8 := by kernel_rfl
theorem pyxref02_Decimal.bits8 : waitsOk pyxref02_Decimal.T8.2 pyxref02_Decimal.B8 = true := by kernel_rfl
set_option maxHeartbeats 8000000 in
set_option maxRecDepth 100000 in
theorem pyxref02_Decimal.calls (k : Nat) : ∀ (a0 : Int) (r : ByteArray) (w : World) (h : pyxref02_Decimal.f k a0 = some r),
    Calls Tryd.prog 44 #[.int .i64 a0] w fun e w' => e = .returned (.string r) ∧ Below w.heap.size w w' := by
  induction k using Nat.strongRecOn with
  | _ k ih =>
  intro a0 r w h
  cases k with
  | zero => exact absurd h (by simp [pyxref02_Decimal.f])
  | succ k =>
  simp only [pyxref02_Decimal.f] at h
  have HB := Aside0.mk (Below.refl w.heap.size w)
  have H : (if a0 < (-9) then ((pyxref02_Decimal.f k (wrap64 (Int.tdiv a0 10))).bind fun t101 => ((pyxref02_Decimal.f k (wrap64 (-(Int.tmod a0 10)))).bind fun t102 => (if t101.size + t102.size ≤ 9223372036854775807 then (some (t101 ++ t102)) else (none)))) else (if a0 < 0 then ((pyxref02_Decimal.f k (wrap64 (-a0))).bind fun t103 => (if 1 + t103.size ≤ 9223372036854775807 then (some ((⟨#[45]⟩ : ByteArray) ++ t103)) else (none))) else (if a0 < 10 then (if 0 ≤ a0 then (if a0 ≤ (wrap64 (a0 + 1)) then (if (wrap64 (a0 + 1)) ≤ 10 then (some ((⟨#[48, 49, 50, 51, 52, 53, 54, 55, 56, 57]⟩ : ByteArray).extract (a0 : Int).toNat ((wrap64 (a0 + 1)) : Int).toNat)) else (none)) else (none)) else (none)) else ((pyxref02_Decimal.f k (wrap64 (Int.tdiv a0 10))).bind fun t104 => (if 0 ≤ (Int.tmod a0 10) then (if (Int.tmod a0 10) ≤ (wrap64 ((Int.tmod a0 10) + 1)) then (if (wrap64 ((Int.tmod a0 10) + 1)) ≤ 10 then (if t104.size + ((⟨#[48, 49, 50, 51, 52, 53, 54, 55, 56, 57]⟩ : ByteArray).extract ((Int.tmod a0 10) : Int).toNat ((wrap64 ((Int.tmod a0 10) + 1)) : Int).toNat).size ≤ 9223372036854775807 then (some (t104 ++ ((⟨#[48, 49, 50, 51, 52, 53, 54, 55, 56, 57]⟩ : ByteArray).extract ((Int.tmod a0 10) : Int).toNat ((wrap64 ((Int.tmod a0 10) + 1)) : Int).toNat))) else (none)) else (none)) else (none)) else (none)))))) = some r := h
  clear h
  by_cases c2 : a0 < (-9)
  · rw [if_pos c2] at H
    have c2b0 : decide (a0 < (-9)) = true := decide_eq_true c2
    clear c2
    replace H := Option.bind_eq_some_iff.mp H
    obtain ⟨t101, A30, H⟩ := H
    replace H : ((pyxref02_Decimal.f k (wrap64 (-(Int.tmod a0 10)))).bind fun t102 => (if t101.size + t102.size ≤ 9223372036854775807 then (some (t101 ++ t102)) else (none))) = some r := H
    have A3 := Aside0.mk A30
    clear A30
    replace H := Option.bind_eq_some_iff.mp H
    obtain ⟨t102, A40, H⟩ := H
    replace H : (if t101.size + t102.size ≤ 9223372036854775807 then (some (t101 ++ t102)) else (none)) = some r := H
    have A4 := Aside0.mk A40
    clear A40
    by_cases c5 : t101.size + t102.size ≤ 9223372036854775807
    · rw [if_pos c5] at H
      have c5b0 := eq_true c5
      have c5b1 : decide (t101.size + t102.size ≤ 9223372036854775807) = true := decide_eq_true c5
      try have c5b2 : (9223372036854775807 < t101.size + t102.size) = False := eq_false (Nat.not_lt.2 c5)
      obtain rfl := Option.some.inj H
      go_enter Tryd.func44, Tryd.ntmps44
      go_wp2_with (first | ((with_reducible refine gate_callee (f := 44) rfl ?_); refine goesL_ (some 8) rfl rfl Tryd.func44 (by kernel_rfl) rfl #[.int .i64 (wrap64 (Int.tdiv a0 10))] rfl (by (try simp only [List.map_toArray, List.map_cons, List.map_nil]); first | done | rfl | (simp only [List.length_drop, List.length_take]; rfl)) ?_; (with_reducible refine (ih k (by omega) (wrap64 (Int.tdiv a0 10)) t101 _ A3.out).mono ?_); rintro e w6 ⟨rfl, hb⟩; refine ⟨_, rfl, ?_⟩; have n0_ := Aside0.mk (below_step (by repeat (first | (with_reducible first | exact HB.out | apply below_alloc | apply pw_below_drewN | apply below_drew1) | exact HB.out)) hb); clear HB; have HB := n0_; clear n0_; (try clear hb); (try clear hb2); (try clear hk); (try clear hi)) | ((with_reducible refine gate_callee (f := 44) rfl ?_); refine goesL_ (some 12) rfl rfl Tryd.func44 (by kernel_rfl) rfl #[.int .i64 (wrap64 (-(Int.tmod a0 10)))] rfl (by (try simp only [List.map_toArray, List.map_cons, List.map_nil]); first | done | rfl | (simp only [List.length_drop, List.length_take]; rfl)) ?_; (with_reducible refine (ih k (by omega) (wrap64 (-(Int.tmod a0 10))) t102 _ A4.out).mono ?_); rintro e w7 ⟨rfl, hb⟩; refine ⟨_, rfl, ?_⟩; have n0_ := Aside0.mk (below_step (by repeat (first | (with_reducible first | exact HB.out | apply below_alloc | apply pw_below_drewN | apply below_drew1) | exact HB.out)) hb); clear HB; have HB := n0_; clear n0_; (try clear hb); (try clear hb2); (try clear hk); (try clear hi)))
      go_ret
      exact ⟨by first | rfl | (simp [errW_none, errW_some] <;> rfl) | (simp [*, errW_none, errW_some] <;> rfl), by repeat (first | (with_reducible first | exact HB.out | apply below_alloc | apply pw_below_drewN | apply below_drew1) | exact HB.out)⟩
    · rw [if_neg c5] at H
      exact absurd H (by simp)
  · rw [if_neg c2] at H
    have c2b0 : decide (a0 < (-9)) = false := decide_eq_false c2
    clear c2
    by_cases c8 : a0 < 0
    · rw [if_pos c8] at H
      have c8b0 : decide (a0 < 0) = true := decide_eq_true c8
      clear c8
      replace H := Option.bind_eq_some_iff.mp H
      obtain ⟨t103, A90, H⟩ := H
      replace H : (if 1 + t103.size ≤ 9223372036854775807 then (some ((⟨#[45]⟩ : ByteArray) ++ t103)) else (none)) = some r := H
      have A9 := Aside0.mk A90
      clear A90
      by_cases c10 : 1 + t103.size ≤ 9223372036854775807
      · rw [if_pos c10] at H
        have c10b0 := eq_true c10
        have c10b1 : decide (1 + t103.size ≤ 9223372036854775807) = true := decide_eq_true c10
        try have c10b2 : (9223372036854775807 < 1 + t103.size) = False := eq_false (Nat.not_lt.2 c10)
        obtain rfl := Option.some.inj H
        go_enter Tryd.func44, Tryd.ntmps44
        go_wp2_with (first | ((with_reducible refine gate_callee (f := 44) rfl ?_); refine goesL_ (some 18) rfl rfl Tryd.func44 (by kernel_rfl) rfl #[.int .i64 (wrap64 (-a0))] rfl (by (try simp only [List.map_toArray, List.map_cons, List.map_nil]); first | done | rfl | (simp only [List.length_drop, List.length_take]; rfl)) ?_; (with_reducible refine (ih k (by omega) (wrap64 (-a0)) t103 _ A9.out).mono ?_); rintro e w11 ⟨rfl, hb⟩; refine ⟨_, rfl, ?_⟩; have n0_ := Aside0.mk (below_step (by repeat (first | (with_reducible first | exact HB.out | apply below_alloc | apply pw_below_drewN | apply below_drew1) | exact HB.out)) hb); clear HB; have HB := n0_; clear n0_; (try clear hb); (try clear hb2); (try clear hk); (try clear hi)))
        go_ret
        exact ⟨by first | rfl | (simp [errW_none, errW_some] <;> rfl) | (simp [*, errW_none, errW_some] <;> rfl), by repeat (first | (with_reducible first | exact HB.out | apply below_alloc | apply pw_below_drewN | apply below_drew1) | exact HB.out)⟩
      · rw [if_neg c10] at H
        exact absurd H (by simp)
    · rw [if_neg c8] at H
      have c8b0 : decide (a0 < 0) = false := decide_eq_false c8
      clear c8
      by_cases c12 : a0 < 10
      · rw [if_pos c12] at H
        have c12b0 : decide (a0 < 10) = true := decide_eq_true c12
        clear c12
        by_cases c13 : 0 ≤ a0
        · rw [if_pos c13] at H
          have c13b0 := eq_true c13
          have c13b1 : decide (0 ≤ a0) = true := decide_eq_true c13
          clear c13
          by_cases c14 : a0 ≤ (wrap64 (a0 + 1))
          · rw [if_pos c14] at H
            have c14b0 := eq_true c14
            have c14b1 : decide (a0 ≤ (wrap64 (a0 + 1))) = true := decide_eq_true c14
            by_cases c15 : (wrap64 (a0 + 1)) ≤ 10
            · rw [if_pos c15] at H
              have c15b0 := eq_true c15
              have c15b1 : decide ((wrap64 (a0 + 1)) ≤ 10) = true := decide_eq_true c15
              obtain rfl := Option.some.inj H
              go_enter Tryd.func44, Tryd.ntmps44
              go_wp2
              go_ret
              exact ⟨by first | rfl | (simp [errW_none, errW_some] <;> rfl) | (simp [*, errW_none, errW_some] <;> rfl), by repeat (first | (with_reducible first | exact HB.out | apply below_alloc | apply pw_below_drewN | apply below_drew1) | exact HB.out)⟩
            · rw [if_neg c15] at H
              exact absurd H (by simp)
          · rw [if_neg c14] at H
            exact absurd H (by simp)
        · rw [if_neg c13] at H
          exact absurd H (by simp)
      · rw [if_neg c12] at H
        have c12b0 : decide (a0 < 10) = false := decide_eq_false c12
        clear c12
        replace H := Option.bind_eq_some_iff.mp H
        obtain ⟨t104, A160, H⟩ := H
        replace H : (if 0 ≤ (Int.tmod a0 10) then (if (Int.tmod a0 10) ≤ (wrap64 ((Int.tmod a0 10) + 1)) then (if (wrap64 ((Int.tmod a0 10) + 1)) ≤ 10 then (if t104.size + ((⟨#[48, 49, 50, 51, 52, 53, 54, 55, 56, 57]⟩ : ByteArray).extract ((Int.tmod a0 10) : Int).toNat ((wrap64 ((Int.tmod a0 10) + 1)) : Int).toNat).size ≤ 9223372036854775807 then (some (t104 ++ ((⟨#[48, 49, 50, 51, 52, 53, 54, 55, 56, 57]⟩ : ByteArray).extract ((Int.tmod a0 10) : Int).toNat ((wrap64 ((Int.tmod a0 10) + 1)) : Int).toNat))) else (none)) else (none)) else (none)) else (none)) = some r := H
        have A16 := Aside0.mk A160
        clear A160
        obtain ⟨ji17, hji17⟩ : ∃ j_ : Int, (Int.tmod a0 10) = j_ := ⟨_, rfl⟩
        replace H : (if 0 ≤ (ji17) then (if (ji17) ≤ (wrap64 ((ji17) + 1)) then (if (wrap64 ((ji17) + 1)) ≤ 10 then (if t104.size + ((⟨#[48, 49, 50, 51, 52, 53, 54, 55, 56, 57]⟩ : ByteArray).extract ((ji17) : Int).toNat ((wrap64 ((ji17) + 1)) : Int).toNat).size ≤ 9223372036854775807 then (some (t104 ++ ((⟨#[48, 49, 50, 51, 52, 53, 54, 55, 56, 57]⟩ : ByteArray).extract ((ji17) : Int).toNat ((wrap64 ((ji17) + 1)) : Int).toNat))) else (none)) else (none)) else (none)) else (none)) = some r := by first | (rw [hji17] at H; exact H) | (simp only [hji17] at H ⊢; exact H)
        (try rw [hji17] at A16)
        by_cases c18 : 0 ≤ (ji17)
        · rw [if_pos c18] at H
          have c18b0 := eq_true c18
          have c18b1 : decide (0 ≤ (ji17)) = true := decide_eq_true c18
          clear c18
          by_cases c19 : (ji17) ≤ (wrap64 ((ji17) + 1))
          · rw [if_pos c19] at H
            have c19b0 := eq_true c19
            have c19b1 : decide ((ji17) ≤ (wrap64 ((ji17) + 1))) = true := decide_eq_true c19
            by_cases c20 : (wrap64 ((ji17) + 1)) ≤ 10
            · rw [if_pos c20] at H
              have c20b0 := eq_true c20
              have c20b1 : decide ((wrap64 ((ji17) + 1)) ≤ 10) = true := decide_eq_true c20
              by_cases c21 : t104.size + ((⟨#[48, 49, 50, 51, 52, 53, 54, 55, 56, 57]⟩ : ByteArray).extract ((ji17) : Int).toNat ((wrap64 ((ji17) + 1)) : Int).toNat).size ≤ 9223372036854775807
              · rw [if_pos c21] at H
                have c21b0 := eq_true c21
                have c21b1 : decide (t104.size + ((⟨#[48, 49, 50, 51, 52, 53, 54, 55, 56, 57]⟩ : ByteArray).extract ((ji17) : Int).toNat ((wrap64 ((ji17) + 1)) : Int).toNat).size ≤ 9223372036854775807) = true := decide_eq_true c21
                try have c21b2 : (9223372036854775807 < t104.size + ((⟨#[48, 49, 50, 51, 52, 53, 54, 55, 56, 57]⟩ : ByteArray).extract ((ji17) : Int).toNat ((wrap64 ((ji17) + 1)) : Int).toNat).size) = False := eq_false (Nat.not_lt.2 c21)
                have c21b3 : (9223372036854775807 < t104.size + (((wrap64 ((ji17) + 1)) : Int).toNat - ((ji17) : Int).toNat)) = False := by
                  have hs_ := c21
                  rw [ByteArray.size_extract] at hs_
                  exact eq_false (by have : (⟨#[48, 49, 50, 51, 52, 53, 54, 55, 56, 57]⟩ : ByteArray).size = 10 := rfl; omega)
                obtain rfl := Option.some.inj H
                go_enter Tryd.func44, Tryd.ntmps44
                try go_wp2
                have n0_ := Aside0.mk (below_drew1 HB.out)
                clear HB
                have HB := n0_
                clear n0_
                refine start_ (n := 12) (S := fun w' => True) (ds := []) #[false, false, false, false, false, false, false, false, false, false, false, false] (by kernel_rfl) rfl rfl trivial (fun hHeld => ?_); refine with_tabW pyxref02_Decimal.tab8 pyxref02_Decimal.bits8 (fun HT_ HW_ => ?_)
                generalize w.drew = w22 at HB hHeld ⊢
                refine pure_ (i := 0) (N := some 27) (v := ?_) (a' := ?_) #[true, false, false, false, false, false, false, false, false, false, false, false] rfl rfl (any_of HT_.out (by kernel_rfl)) (fun _ _ _ h => h) (Or.inl ⟨by rfl, ?_⟩) ?_ ?_
                rotate_left
                · intro w'
                  go_simp
                  with_reducible rfl
                rotate_left
                · simp only [Act.put, List.setIfInBounds_toArray, List.set_cons_zero, List.set_cons_succ, i64_w, i32_w]
                  rfl
                refine pure_ (i := 1) (N := some 28) (v := ?_) (a' := ?_) #[true, true, false, false, false, false, false, false, false, false, false, false] rfl rfl (any_of HT_.out (by kernel_rfl)) (fun _ _ _ h => h) (Or.inl ⟨by rfl, ?_⟩) ?_ ?_
                rotate_left
                · intro w'
                  go_simp
                  with_reducible rfl
                rotate_left
                · simp only [Act.put, List.setIfInBounds_toArray, List.set_cons_zero, List.set_cons_succ, i64_w, i32_w]
                  rfl
                refine pure_ (i := 3) (N := some 30) (v := ?_) (a' := ?_) #[true, true, false, true, false, false, false, false, false, false, false, false] rfl rfl (any_of HT_.out (by kernel_rfl)) (fun _ _ _ h => h) (Or.inl ⟨by rfl, ?_⟩) ?_ ?_
                rotate_left
                · intro w'
                  go_simp
                  with_reducible rfl
                rotate_left
                · simp only [Act.put, List.setIfInBounds_toArray, List.set_cons_zero, List.set_cons_succ, i64_w, i32_w]
                  rfl
                refine pure_ (i := 4) (N := some 31) (v := ?_) (a' := ?_) #[true, true, false, true, true, false, false, false, false, false, false, false] rfl rfl (any_of HT_.out (by kernel_rfl)) (fun _ _ _ h => h) (Or.inl ⟨by rfl, ?_⟩) ?_ ?_
                rotate_left
                · intro w'
                  go_simp
                  with_reducible rfl
                rotate_left
                · simp only [Act.put, List.setIfInBounds_toArray, List.set_cons_zero, List.set_cons_succ, i64_w, i32_w]
                  rfl
                refine pure_ (i := 5) (N := some 32) (v := ?_) (a' := ?_) #[true, true, false, true, true, true, false, false, false, false, false, false] rfl rfl (any_of HT_.out (by kernel_rfl)) (fun _ _ _ h => h) (Or.inl ⟨by rfl, ?_⟩) ?_ ?_
                rotate_left
                · intro w'
                  go_simp
                  with_reducible rfl
                rotate_left
                · simp only [Act.put, List.setIfInBounds_toArray, List.set_cons_zero, List.set_cons_succ, i64_w, i32_w]
                  rfl
                refine pure_ (i := 6) (N := some 33) (v := ?_) (a' := ?_) #[true, true, false, true, true, true, true, false, false, false, false, false] rfl rfl (any_of HT_.out (by kernel_rfl)) (fun _ _ _ h => h) (Or.inl ⟨by rfl, ?_⟩) ?_ ?_
                rotate_left
                · intro w'
                  go_simp
                  with_reducible rfl
                rotate_left
                · simp only [Act.put, List.setIfInBounds_toArray, List.set_cons_zero, List.set_cons_succ, i64_w, i32_w]
                  rfl
                refine pure_ (i := 7) (N := some 34) (v := ?_) (a' := ?_) #[true, true, false, true, true, true, true, true, false, false, false, false] rfl rfl (any_of HT_.out (by kernel_rfl)) (fun _ _ _ h => h) (Or.inl ⟨by rfl, ?_⟩) ?_ ?_
                rotate_left
                · intro w'
                  go_simp
                  with_reducible rfl
                rotate_left
                · simp only [Act.put, List.setIfInBounds_toArray, List.set_cons_zero, List.set_cons_succ, i64_w, i32_w]
                  rfl
                refine pure_ (i := 8) (N := some 35) (v := ?_) (a' := ?_) #[true, true, false, true, true, true, true, true, true, false, false, false] rfl rfl (any_of HT_.out (by kernel_rfl)) (fun _ _ _ h => h) (Or.inl ⟨by rfl, ?_⟩) ?_ ?_
                rotate_left
                · intro w'
                  go_simp
                  with_reducible rfl
                rotate_left
                · simp only [Act.put, List.setIfInBounds_toArray, List.set_cons_zero, List.set_cons_succ, i64_w, i32_w]
                  rfl
                refine pure_ (i := 9) (N := some 36) (v := ?_) (a' := ?_) #[true, true, false, true, true, true, true, true, true, true, false, false] rfl rfl (any_of HT_.out (by kernel_rfl)) (fun _ _ _ h => h) (Or.inl ⟨by rfl, ?_⟩) ?_ ?_
                rotate_left
                · intro w'
                  go_simp
                  with_reducible rfl
                rotate_left
                · simp only [Act.put, List.setIfInBounds_toArray, List.set_cons_zero, List.set_cons_succ, i64_w, i32_w]
                  rfl
                refine one_ (i := 2) (N := some 29) #[true, true, true, true, true, true, true, true, true, true, false, false] rfl rfl (one_of HT_.out (by kernel_rfl)) (by decide) (fun K hK => ?_)
                refine goes_ Tryd.func44 (by kernel_rfl) rfl #[.int .i64 (wrap64 (Int.tdiv a0 10))] (by rfl) rfl rfl (by (try simp only [List.map_toArray, List.map_cons, List.map_nil]); first | done | rfl | (simp only [List.length_drop, List.length_take]; rfl)) ?_
                with_reducible refine (ih k (by omega) (wrap64 (Int.tdiv a0 10)) t104 _ A16.out).mono ?_
                rintro e w23 ⟨rfl, hb⟩
                refine ⟨_, rfl, ?_⟩
                have n0_ := Aside0.mk (below_step (by repeat (first | (with_reducible first | exact HB.out | apply below_alloc | apply pw_below_drewN | apply below_drew1) | exact HB.out)) hb)
                clear HB
                have HB := n0_
                clear n0_
                (try clear hb)
                (try clear hb2)
                (try clear hk)
                (try clear hi)
                refine hK.out _ _ trivial (fun hHeld => ?_)
                clear hK K
                refine norm_ (a' := ?_) ?_ ?_
                rotate_left
                · show Act.put _ (some 29) _ = _
                  simp only [Act.put, List.setIfInBounds_toArray, List.set_cons_zero, List.set_cons_succ, i64_w, i32_w]
                  rfl
                refine pure_ (i := 10) (N := some 37) (v := ?_) (a' := ?_) #[true, true, true, true, true, true, true, true, true, true, true, false] rfl rfl (any_of HT_.out (by kernel_rfl)) (fun _ _ _ h => h) (Or.inl ⟨by rfl, ?_⟩) ?_ ?_
                rotate_left
                · intro w'
                  go_simp
                  with_reducible rfl
                rotate_left
                · simp only [Act.put, List.setIfInBounds_toArray, List.set_cons_zero, List.set_cons_succ, i64_w, i32_w]
                  rfl
                refine pure_ (i := 11) (N := some 2) (v := ?_) (a' := ?_) #[true, true, true, true, true, true, true, true, true, true, true, true] rfl rfl (any_of HT_.out (by kernel_rfl)) (fun _ _ _ h => h) (Or.inl ⟨by rfl, ?_⟩) ?_ ?_
                rotate_left
                · intro w'
                  go_simp
                  with_reducible rfl
                rotate_left
                · simp only [Act.put, List.setIfInBounds_toArray, List.set_cons_zero, List.set_cons_succ, i64_w, i32_w]
                  rfl
                refine done_ (done_of HT_.out (by kernel_rfl)) ?_
                try go_wp2
                go_ret
                exact ⟨by first | rfl | (simp [errW_none, errW_some] <;> rfl) | (simp only [← hji17]; first | rfl | (simp [errW_none, errW_some] <;> rfl)) | (simp [*, errW_none, errW_some] <;> rfl), by repeat (first | (with_reducible first | exact HB.out | apply below_alloc | apply pw_below_drewN | apply below_drew1) | exact HB.out)⟩
              · rw [if_neg c21] at H
                exact absurd H (by simp)
            · rw [if_neg c20] at H
              exact absurd H (by simp)
          · rw [if_neg c19] at H
            exact absurd H (by simp)
        · rw [if_neg c18] at H
          exact absurd H (by simp)

end Go.Proofs.YtjoncjnmhhimhaaDoor.PDec
end

section
/- pyxref02.Decimal of a number that is not negative gives its decimal digits. -/
namespace Go.Proofs.YtjoncjnmhhimhaaDoor.Hand
set_option linter.unusedVariables false
set_option linter.unusedSimpArgs false
open Go.RowKit Go.Proofs.YtjoncjnmhhimhaaDoorW.PrintWords Go.Proofs.YtjoncjnmhhimhaaDoorW.PrintLast Go.Proofs.YtjoncjnmhhimhaaDoorW.PrintMore

theorem decB_small {n : Nat} (h : n < 10) : decB n = (⟨#[48, 49, 50, 51, 52, 53, 54, 55, 56, 57]⟩ : ByteArray).extract n (n + 1) := by
  have : ∀ x : Fin 10, (⟨#[UInt8.ofNat (48 + x.val)]⟩ : ByteArray) = (⟨#[48, 49, 50, 51, 52, 53, 54, 55, 56, 57]⟩ : ByteArray).extract x.val (x.val + 1) := by decide +kernel
  unfold decB
  rw [Lib.decDigits_one h]
  exact this ⟨n, h⟩
theorem decB_big {n : Nat} (h : ¬ n < 10) : decB n = decB (n / 10) ++ decB (n % 10) := by
  unfold decB
  rw [Lib.decDigits, dif_neg h, Lib.decDigits_one (show n % 10 < 10 by omega)]
  apply ByteArray.ext
  simp
theorem decB_size (n : Nat) (h : n < 1000000000000000000) : (decB n).size ≤ 20 := by
  show (Lib.decDigits n).toArray.size ≤ 20
  rw [List.size_toArray]
  exact dec_len n (by omega)
theorem decimal_comes : ∀ (k n : Nat), n < 10 ^ k → n < 1000000000000000000 → 0 < k → PDec.pyxref02_Decimal.f k (n : Int) = some (decB n) := by
  intro k
  induction k with
  | zero => intro n _ _ h; exact absurd h (by omega)
  | succ k ih =>
    intro n h1 h2 _
    rw [PDec.pyxref02_Decimal.f, if_neg (by omega), if_neg (by omega)]
    have hex : ∀ m : Nat, m < 10 → (⟨#[48, 49, 50, 51, 52, 53, 54, 55, 56, 57]⟩ : ByteArray).extract ((m : Int)).toNat (((m : Int) + 1)).toNat = decB m := by
      intro m hm
      rw [decB_small hm, show ((m : Int) + 1).toNat = m + 1 by omega, Int.toNat_natCast]
    by_cases h10 : n < 10
    · rw [if_pos (by omega), if_pos (by omega), i64_in _ (by omega) (by omega), if_pos (by omega), if_pos (by omega), hex n h10]
    · have hk : 0 < k := by
        rcases Nat.eq_zero_or_pos k with rfl | hk
        · simp at h1; omega
        · exact hk
      rw [if_neg (by omega), Int.tdiv_eq_ediv_of_nonneg (by omega), Int.tmod_eq_emod_of_nonneg (by omega), i64_in _ (by omega) (by omega), i64_in _ (by omega) (by omega),
        show ((n : Int) / 10) = ((n / 10 : Nat) : Int) by omega, ih (n / 10) (by rw [Nat.pow_succ] at h1; omega) (by omega) hk]
      simp only [Option.bind_some]
      have hs := decB_size (n / 10) (by omega)
      have hs2 := decB_size (n % 10) (by omega)
      rw [show ((n : Int) % 10) = ((n % 10 : Nat) : Int) by omega, if_pos (by omega), if_pos (by omega), if_pos (by omega), hex (n % 10) (by omega), if_pos (by omega), ← decB_big h10]

def pyxref02_Decimal.f (a0 : Int) : Option ByteArray := if 0 ≤ a0 ∧ a0 < 1000000000000000000 then some (decB a0.toNat) else none
theorem pyxref02_Decimal.calls (a0 : Int) (r : ByteArray) (w : World) (h : pyxref02_Decimal.f a0 = some r) :
    Calls Tryd.prog 44 #[.int .i64 a0] w fun e w' => e = .returned (.string r) ∧ Below w.heap.size w w' := by
  unfold pyxref02_Decimal.f at h
  by_cases hp : 0 ≤ a0 ∧ a0 < 1000000000000000000
  · rw [if_pos hp] at h
    obtain ⟨n, rfl⟩ := Int.eq_ofNat_of_zero_le hp.1
    refine PDec.pyxref02_Decimal.calls 18 n r w ?_
    rw [decimal_comes 18 n (by omega) (by omega) (by omega)]
    exact h
  · rw [if_neg hp] at h
    cases h

end Go.Proofs.YtjoncjnmhhimhaaDoor.Hand
end

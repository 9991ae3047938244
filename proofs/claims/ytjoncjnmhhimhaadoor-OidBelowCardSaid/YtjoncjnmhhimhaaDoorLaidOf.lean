/- From the rows' condition to what the walks ask. -/
import Derived.Test.YtjoncjnmhhimhaaDoorLaidRow
namespace Go.Proofs.YtjoncjnmhhimhaaDoor.Row
open Go Go.Proofs.YtjoncjnmhhimhaaDoor.Hand Go.RowKit

theorem gErrR : Tryd.prog.globalNamed "strconv.ErrRange" = some 1 := by kernel_rfl
theorem gErrS : Tryd.prog.globalNamed "strconv.ErrSyntax" = some 0 := by kernel_rfl
theorem gPow : Tryd.prog.globalNamed "internal/strconv.uint64pow10" = some 2 := by kernel_rfl
theorem tErrR : (Tryd.prog.globals[1]?).map (·.type) = some 63 := by kernel_rfl
theorem tErrS : (Tryd.prog.globals[0]?).map (·.type) = some 63 := by kernel_rfl
theorem tPow : (Tryd.prog.globals[2]?).map (·.type) = some 116 := by kernel_rfl
theorem cPow : Tryd.prog.cellsOf 116 = 20 := by kernel_rfl
theorem cU64 : Tryd.prog.cellsOf 61 = 1 := by kernel_rfl
theorem cStr : Tryd.prog.cellsOf 9 = 1 := by kernel_rfl
theorem cErr : Tryd.prog.cellsOf 124 = 1 := by kernel_rfl
theorem powData : (Rows.laid_internal_strconv_uint64pow10 : DataW Unit) = Lib.tabData .u64 Lib.pow10Tab := by kernel_rfl
theorem star : "*" ++ "errors.errorString" = "*errors.errorString" := by decide
theorem rowErr (u : TypeId) (h : Tryd.prog.typeName? 3 u = some "*errors.errorString") : u = 122 :=
  typeName_ptr_named (nm := "errors.errorString") (by rw [star]; kernel_rfl) (by kernel_rfl) (by decide) u (by rw [star]; exact h)

/-- FROM THE ROWS' CONDITION TO WHAT THE WALKS ASK. -/
theorem laid_of {W : World} (hL0 : laidMetH Tryd.prog laidL W) (hsh : W.ShapedOpen Tryd.prog) : LaidOk W := by
  have hL := hL0
  rw [MakeChecks.laidMetH_plain _ _ _ (by kernel_rfl)] at hL
  have h1 : laidMet Tryd.prog (("internal/strconv.uint64pow10", Lib.tabData .u64 Lib.pow10Tab) :: laidL.drop 3) W := by
    rw [← powData]
    exact hL.tail.tail
  have hR : laidMet Tryd.prog (laidL.drop 4) W := hL.tail.tail.tail.tail
  have hS : laidMet Tryd.prog (laidL.drop 5) W := hR.tail
  refine ⟨?_, Lib.tabIs_of_head gPow tPow Tryd.underlying116 Tryd.underlying61 cU64 cPow h1, ?_, ?_⟩
  · exact cell_of_shapedOpen_int hsh (g := 3) (t := 3) (zero := #[.int .i64 0]) (of_decide_eq_true (by kernel_rfl)) (by kernel_rfl) rfl (by kernel_rfl) (by kernel_rfl) Tryd.underlying3
  · obtain ⟨a, s, hv, _⟩ := laid_sentinel hS gErrS tErrS Tryd.underlying63 rowErr Tryd.underlying122 Tryd.underlying124 rfl rfl Tryd.underlying9 cErr cStr
    exact ⟨_, _, hv⟩
  · obtain ⟨a, s, hv, _⟩ := laid_sentinel hR gErrR tErrR Tryd.underlying63 rowErr Tryd.underlying122 Tryd.underlying124 rfl rfl Tryd.underlying9 cErr cStr
    exact ⟨_, _, hv⟩

end Go.Proofs.YtjoncjnmhhimhaaDoor.Row

/- Texts of one proof, one behind the other. -/
import Derived.Test.YtjoncjnmhhimhaaDoorBPF1
import Derived.Test.YtjoncjnmhhimhaaDoorBPF2
import Derived.Test.YtjoncjnmhhimhaaDoorBPF0
section
-- Written by the kit's print.py, driven by this place's wip/tools/myprint.py. Not trusted: Lean checks it.
namespace Go.Proofs.YtjoncjnmhhimhaaDoor.PLF
open Go.RowKit Go.Proofs.YtjoncjnmhhimhaaDoor.Hand Go.Proofs.YtjoncjnmhhimhaaDoor.PT13s Go.Proofs.YtjoncjnmhhimhaaDoorW.PrintWords Go.Proofs.YtjoncjnmhhimhaaDoorW.PrintLast Go.Proofs.YtjoncjnmhhimhaaDoorW.PrintMore
attribute [local go_sem] max2_int min2_int max_two min_two max_three min_three max_four min_four   -- for this text's walks alone
set_option linter.unusedVariables false
set_option linter.unusedSimpArgs false

/-! ### pyxlaw13_ParamsFinds: function 10 -/
mutual
def pyxlaw13_ParamsFinds.j0 : Nat → ByteArray → Int → Int → Bool → Option (Bool)
  | 0, _, _, _, _ => none
  | k + 1, x0, x1, x2, x24 => if x24 = true then ((pyxlaw13_awake.f).bind fun t105 => (some t105)) else ((params_ByName.f x0).bind fun bt106 => ((params_ByCOSE.f x1).bind fun bt120 => ((params_ByType.f x2).bind fun bt134 => ((pyxref13_Table.f).bind fun t151 => (pyxlaw13_ParamsFinds.l0 k x0 x1 x2 bt106.2.2.2.2.2.2.2.2.2.2 bt120.2.2.2.2.2.2.2.2.2.2 bt134.2.2.2.2.2.2.2.2.2.2 t151 0 bt106.1 bt106.2.1 bt106.2.2.1 bt106.2.2.2.1 bt106.2.2.2.2.1 bt106.2.2.2.2.2.1 bt106.2.2.2.2.2.2.1 bt106.2.2.2.2.2.2.2.1 bt106.2.2.2.2.2.2.2.2.1 bt106.2.2.2.2.2.2.2.2.2.1 bt120.1 bt120.2.1 bt120.2.2.1 bt120.2.2.2.1 bt120.2.2.2.2.1 bt120.2.2.2.2.2.1 bt120.2.2.2.2.2.2.1 bt120.2.2.2.2.2.2.2.1 bt120.2.2.2.2.2.2.2.2.1 bt120.2.2.2.2.2.2.2.2.2.1 bt134.1 bt134.2.1 bt134.2.2.1 bt134.2.2.2.1 bt134.2.2.2.2.1 bt134.2.2.2.2.2.1 bt134.2.2.2.2.2.2.1 bt134.2.2.2.2.2.2.2.1 bt134.2.2.2.2.2.2.2.2.1 bt134.2.2.2.2.2.2.2.2.2.1 0 0 (⟨#[]⟩ : ByteArray) 0 0 0 0 (⟨#[]⟩ : ByteArray) 0 0 0 0 (⟨#[]⟩ : ByteArray) 0 0 0 0 (⟨#[]⟩ : ByteArray) 0 0 0 0 (⟨#[]⟩ : ByteArray) 0 0 0 0 (⟨#[]⟩ : ByteArray) 0 0)))))
def pyxlaw13_ParamsFinds.l0 : Nat → ByteArray → Int → Int → Bool → Bool → Bool → List (S42) → Int → Int → Int → ByteArray → Int → Int → Int → Int → List Int → Int → Int → Int → Int → ByteArray → Int → Int → Int → Int → List Int → Int → Int → Int → Int → ByteArray → Int → Int → Int → Int → List Int → Int → Int → Int → Int → ByteArray → Int → Int → Int → Int → ByteArray → Int → Int → Int → Int → ByteArray → Int → Int → Int → Int → ByteArray → Int → Int → Int → Int → ByteArray → Int → Int → Int → Int → ByteArray → Int → Int → Option (Bool)
  | 0, _, _, _, _, _, _, _, _, _, _, _, _, _, _, _, _, _, _, _, _, _, _, _, _, _, _, _, _, _, _, _, _, _, _, _, _, _, _, _, _, _, _, _, _, _, _, _, _, _, _, _, _, _, _, _, _, _, _, _, _, _, _, _, _, _, _, _, _ => none
  | k + 1, x0, x1, x2, x8, x10, x12, x16, x17, x120000, x120001, x120002, x120003, x120004, x120005, x120006, x120007, x120008, x120009, x134000, x134001, x134002, x134003, x134004, x134005, x134006, x134007, x134008, x134009, x148000, x148001, x148002, x148003, x148004, x148005, x148006, x148007, x148008, x148009, x149000, x149001, x149002, x149003, x149004, x149005, x149006, x149007, x149008, x149009, x150000, x150001, x150002, x150003, x150004, x150005, x150006, x150007, x150008, x150009, x151000, x151001, x151002, x151003, x151004, x151005, x151006, x151007, x151008, x151009 => if x17 < (x16.length : Int) then (if 0 ≤ x17 then (if ((rd_T42 x16 x17).f2).toList = x0.toList then (pyxlaw13_ParamsFinds.j2 k x0 x1 x2 x8 x10 x12 x16 x17 x120000 x120001 x120002 x120003 x120004 x120005 x120006 x120007 x120008 x120009 x134000 x134001 x134002 x134003 x134004 x134005 x134006 x134007 x134008 x134009 x148000 x148001 x148002 x148003 x148004 x148005 x148006 x148007 x148008 x148009 ((rd_T42 x16 x17).f0) ((rd_T42 x16 x17).f1) ((rd_T42 x16 x17).f2) ((rd_T42 x16 x17).f3) ((rd_T42 x16 x17).f4) ((rd_T42 x16 x17).f5) ((rd_T42 x16 x17).f6) ((rd_T42 x16 x17).f7) ((rd_T42 x16 x17).f8) ((rd_T42 x16 x17).f9) x150000 x150001 x150002 x150003 x150004 x150005 x150006 x150007 x150008 x150009 x151000 x151001 x151002 x151003 x151004 x151005 x151006 x151007 x151008 x151009) else (pyxlaw13_ParamsFinds.j2 k x0 x1 x2 x8 x10 x12 x16 x17 x120000 x120001 x120002 x120003 x120004 x120005 x120006 x120007 x120008 x120009 x134000 x134001 x134002 x134003 x134004 x134005 x134006 x134007 x134008 x134009 x148000 x148001 x148002 x148003 x148004 x148005 x148006 x148007 x148008 x148009 x149000 x149001 x149002 x149003 x149004 x149005 x149006 x149007 x149008 x149009 x150000 x150001 x150002 x150003 x150004 x150005 x150006 x150007 x150008 x150009 x151000 x151001 x151002 x151003 x151004 x151005 x151006 x151007 x151008 x151009)) else (none)) else ((pyxlaw13_same.f x120000 x120001 x120002 x120003 x120004 x120005 x120006 x120007 x120008 x120009 x149000 x149001 x149002 x149003 x149004 x149005 x149006 x149007 x149008 x149009).bind fun t154 => (if t154 = true then (if (x8 == (decide (x149000 > 0))) = true then ((pyxlaw13_same.f x134000 x134001 x134002 x134003 x134004 x134005 x134006 x134007 x134008 x134009 x150000 x150001 x150002 x150003 x150004 x150005 x150006 x150007 x150008 x150009).bind fun t155 => (if t155 = true then (if (x10 == (decide (x150000 > 0))) = true then ((pyxlaw13_same.f x148000 x148001 x148002 x148003 x148004 x148005 x148006 x148007 x148008 x148009 x151000 x151001 x151002 x151003 x151004 x151005 x151006 x151007 x151008 x151009).bind fun t156 => (if t156 = true then (some (x12 == (decide (x151000 > 0)))) else (none))) else (none)) else (none))) else (none)) else (none)))
def pyxlaw13_ParamsFinds.j2 : Nat → ByteArray → Int → Int → Bool → Bool → Bool → List (S42) → Int → Int → Int → ByteArray → Int → Int → Int → Int → List Int → Int → Int → Int → Int → ByteArray → Int → Int → Int → Int → List Int → Int → Int → Int → Int → ByteArray → Int → Int → Int → Int → List Int → Int → Int → Int → Int → ByteArray → Int → Int → Int → Int → ByteArray → Int → Int → Int → Int → ByteArray → Int → Int → Int → Int → ByteArray → Int → Int → Int → Int → ByteArray → Int → Int → Int → Int → ByteArray → Int → Int → Option (Bool)
  | 0, _, _, _, _, _, _, _, _, _, _, _, _, _, _, _, _, _, _, _, _, _, _, _, _, _, _, _, _, _, _, _, _, _, _, _, _, _, _, _, _, _, _, _, _, _, _, _, _, _, _, _, _, _, _, _, _, _, _, _, _, _, _, _, _, _, _, _, _ => none
  | k + 1, x0, x1, x2, x8, x10, x12, x16, x17, x120000, x120001, x120002, x120003, x120004, x120005, x120006, x120007, x120008, x120009, x134000, x134001, x134002, x134003, x134004, x134005, x134006, x134007, x134008, x134009, x148000, x148001, x148002, x148003, x148004, x148005, x148006, x148007, x148008, x148009, x149000, x149001, x149002, x149003, x149004, x149005, x149006, x149007, x149008, x149009, x150000, x150001, x150002, x150003, x150004, x150005, x150006, x150007, x150008, x150009, x151000, x151001, x151002, x151003, x151004, x151005, x151006, x151007, x151008, x151009 => if x1 = 0 then (pyxlaw13_ParamsFinds.j3 k x0 x1 x2 x8 x10 x12 x16 x17 false x120000 x120001 x120002 x120003 x120004 x120005 x120006 x120007 x120008 x120009 x134000 x134001 x134002 x134003 x134004 x134005 x134006 x134007 x134008 x134009 x148000 x148001 x148002 x148003 x148004 x148005 x148006 x148007 x148008 x148009 x149000 x149001 x149002 x149003 x149004 x149005 x149006 x149007 x149008 x149009 x150000 x150001 x150002 x150003 x150004 x150005 x150006 x150007 x150008 x150009 x151000 x151001 x151002 x151003 x151004 x151005 x151006 x151007 x151008 x151009) else (if 0 ≤ x17 then (if x17 < (x16.length : Int) then (pyxlaw13_ParamsFinds.j3 k x0 x1 x2 x8 x10 x12 x16 x17 (((rd_T42 x16 x17).f8) == x1) x120000 x120001 x120002 x120003 x120004 x120005 x120006 x120007 x120008 x120009 x134000 x134001 x134002 x134003 x134004 x134005 x134006 x134007 x134008 x134009 x148000 x148001 x148002 x148003 x148004 x148005 x148006 x148007 x148008 x148009 x149000 x149001 x149002 x149003 x149004 x149005 x149006 x149007 x149008 x149009 x150000 x150001 x150002 x150003 x150004 x150005 x150006 x150007 x150008 x150009 x151000 x151001 x151002 x151003 x151004 x151005 x151006 x151007 x151008 x151009) else (none)) else (none))
def pyxlaw13_ParamsFinds.j3 : Nat → ByteArray → Int → Int → Bool → Bool → Bool → List (S42) → Int → Bool → Int → Int → ByteArray → Int → Int → Int → Int → List Int → Int → Int → Int → Int → ByteArray → Int → Int → Int → Int → List Int → Int → Int → Int → Int → ByteArray → Int → Int → Int → Int → List Int → Int → Int → Int → Int → ByteArray → Int → Int → Int → Int → ByteArray → Int → Int → Int → Int → ByteArray → Int → Int → Int → Int → ByteArray → Int → Int → Int → Int → ByteArray → Int → Int → Int → Int → ByteArray → Int → Int → Option (Bool)
  | 0, _, _, _, _, _, _, _, _, _, _, _, _, _, _, _, _, _, _, _, _, _, _, _, _, _, _, _, _, _, _, _, _, _, _, _, _, _, _, _, _, _, _, _, _, _, _, _, _, _, _, _, _, _, _, _, _, _, _, _, _, _, _, _, _, _, _, _, _, _ => none
  | k + 1, x0, x1, x2, x8, x10, x12, x16, x17, x69, x120000, x120001, x120002, x120003, x120004, x120005, x120006, x120007, x120008, x120009, x134000, x134001, x134002, x134003, x134004, x134005, x134006, x134007, x134008, x134009, x148000, x148001, x148002, x148003, x148004, x148005, x148006, x148007, x148008, x148009, x149000, x149001, x149002, x149003, x149004, x149005, x149006, x149007, x149008, x149009, x150000, x150001, x150002, x150003, x150004, x150005, x150006, x150007, x150008, x150009, x151000, x151001, x151002, x151003, x151004, x151005, x151006, x151007, x151008, x151009 => if x69 = true then (if 0 ≤ x17 then (if x17 < (x16.length : Int) then (if x2 = 0 then (pyxlaw13_ParamsFinds.l0 k x0 x1 x2 x8 x10 x12 x16 (wrap64 (x17 + 1)) x120000 x120001 x120002 x120003 x120004 x120005 x120006 x120007 x120008 x120009 x134000 x134001 x134002 x134003 x134004 x134005 x134006 x134007 x134008 x134009 x148000 x148001 x148002 x148003 x148004 x148005 x148006 x148007 x148008 x148009 x149000 x149001 x149002 x149003 x149004 x149005 x149006 x149007 x149008 x149009 ((rd_T42 x16 x17).f0) ((rd_T42 x16 x17).f1) ((rd_T42 x16 x17).f2) ((rd_T42 x16 x17).f3) ((rd_T42 x16 x17).f4) ((rd_T42 x16 x17).f5) ((rd_T42 x16 x17).f6) ((rd_T42 x16 x17).f7) ((rd_T42 x16 x17).f8) ((rd_T42 x16 x17).f9) x151000 x151001 x151002 x151003 x151004 x151005 x151006 x151007 x151008 x151009) else (if ((rd_T42 x16 x17).f9) = x2 then (none) else (pyxlaw13_ParamsFinds.l0 k x0 x1 x2 x8 x10 x12 x16 (wrap64 (x17 + 1)) x120000 x120001 x120002 x120003 x120004 x120005 x120006 x120007 x120008 x120009 x134000 x134001 x134002 x134003 x134004 x134005 x134006 x134007 x134008 x134009 x148000 x148001 x148002 x148003 x148004 x148005 x148006 x148007 x148008 x148009 x149000 x149001 x149002 x149003 x149004 x149005 x149006 x149007 x149008 x149009 ((rd_T42 x16 x17).f0) ((rd_T42 x16 x17).f1) ((rd_T42 x16 x17).f2) ((rd_T42 x16 x17).f3) ((rd_T42 x16 x17).f4) ((rd_T42 x16 x17).f5) ((rd_T42 x16 x17).f6) ((rd_T42 x16 x17).f7) ((rd_T42 x16 x17).f8) ((rd_T42 x16 x17).f9) x151000 x151001 x151002 x151003 x151004 x151005 x151006 x151007 x151008 x151009))) else (none)) else (none)) else (if x2 = 0 then (pyxlaw13_ParamsFinds.l0 k x0 x1 x2 x8 x10 x12 x16 (wrap64 (x17 + 1)) x120000 x120001 x120002 x120003 x120004 x120005 x120006 x120007 x120008 x120009 x134000 x134001 x134002 x134003 x134004 x134005 x134006 x134007 x134008 x134009 x148000 x148001 x148002 x148003 x148004 x148005 x148006 x148007 x148008 x148009 x149000 x149001 x149002 x149003 x149004 x149005 x149006 x149007 x149008 x149009 x150000 x150001 x150002 x150003 x150004 x150005 x150006 x150007 x150008 x150009 x151000 x151001 x151002 x151003 x151004 x151005 x151006 x151007 x151008 x151009) else (if 0 ≤ x17 then (if x17 < (x16.length : Int) then (if ((rd_T42 x16 x17).f9) = x2 then (pyxlaw13_ParamsFinds.l0 k x0 x1 x2 x8 x10 x12 x16 (wrap64 (x17 + 1)) x120000 x120001 x120002 x120003 x120004 x120005 x120006 x120007 x120008 x120009 x134000 x134001 x134002 x134003 x134004 x134005 x134006 x134007 x134008 x134009 x148000 x148001 x148002 x148003 x148004 x148005 x148006 x148007 x148008 x148009 x149000 x149001 x149002 x149003 x149004 x149005 x149006 x149007 x149008 x149009 x150000 x150001 x150002 x150003 x150004 x150005 x150006 x150007 x150008 x150009 ((rd_T42 x16 x17).f0) ((rd_T42 x16 x17).f1) ((rd_T42 x16 x17).f2) ((rd_T42 x16 x17).f3) ((rd_T42 x16 x17).f4) ((rd_T42 x16 x17).f5) ((rd_T42 x16 x17).f6) ((rd_T42 x16 x17).f7) ((rd_T42 x16 x17).f8) ((rd_T42 x16 x17).f9)) else (pyxlaw13_ParamsFinds.l0 k x0 x1 x2 x8 x10 x12 x16 (wrap64 (x17 + 1)) x120000 x120001 x120002 x120003 x120004 x120005 x120006 x120007 x120008 x120009 x134000 x134001 x134002 x134003 x134004 x134005 x134006 x134007 x134008 x134009 x148000 x148001 x148002 x148003 x148004 x148005 x148006 x148007 x148008 x148009 x149000 x149001 x149002 x149003 x149004 x149005 x149006 x149007 x149008 x149009 x150000 x150001 x150002 x150003 x150004 x150005 x150006 x150007 x150008 x150009 x151000 x151001 x151002 x151003 x151004 x151005 x151006 x151007 x151008 x151009)) else (none)) else (none)))
end
def pyxlaw13_ParamsFinds.f (k : Nat) (a0 : ByteArray) (a1 : Int) (a2 : Int) : Option (Bool) := (pyxlaw13_awake.f).bind fun t104 => (if t104 = true then (pyxlaw13_ParamsFinds.j0 k a0 a1 a2 (decide ((a0.size : Int) > 100))) else (pyxlaw13_ParamsFinds.j0 k a0 a1 a2 true))
theorem pyxlaw13_ParamsFinds.mono_l : ∀ k, (∀ y0 y1 y2 y3, LeO (pyxlaw13_ParamsFinds.j0 k y0 y1 y2 y3) (pyxlaw13_ParamsFinds.j0 (k + 1) y0 y1 y2 y3)) ∧ (∀ y0 y1 y2 y3 y4 y5 y6 y7 y8 y9 y10 y11 y12 y13 y14 y15 y16 y17 y18 y19 y20 y21 y22 y23 y24 y25 y26 y27 y28 y29 y30 y31 y32 y33 y34 y35 y36 y37 y38 y39 y40 y41 y42 y43 y44 y45 y46 y47 y48 y49 y50 y51 y52 y53 y54 y55 y56 y57 y58 y59 y60 y61 y62 y63 y64 y65 y66 y67, LeO (pyxlaw13_ParamsFinds.l0 k y0 y1 y2 y3 y4 y5 y6 y7 y8 y9 y10 y11 y12 y13 y14 y15 y16 y17 y18 y19 y20 y21 y22 y23 y24 y25 y26 y27 y28 y29 y30 y31 y32 y33 y34 y35 y36 y37 y38 y39 y40 y41 y42 y43 y44 y45 y46 y47 y48 y49 y50 y51 y52 y53 y54 y55 y56 y57 y58 y59 y60 y61 y62 y63 y64 y65 y66 y67) (pyxlaw13_ParamsFinds.l0 (k + 1) y0 y1 y2 y3 y4 y5 y6 y7 y8 y9 y10 y11 y12 y13 y14 y15 y16 y17 y18 y19 y20 y21 y22 y23 y24 y25 y26 y27 y28 y29 y30 y31 y32 y33 y34 y35 y36 y37 y38 y39 y40 y41 y42 y43 y44 y45 y46 y47 y48 y49 y50 y51 y52 y53 y54 y55 y56 y57 y58 y59 y60 y61 y62 y63 y64 y65 y66 y67)) ∧ (∀ y0 y1 y2 y3 y4 y5 y6 y7 y8 y9 y10 y11 y12 y13 y14 y15 y16 y17 y18 y19 y20 y21 y22 y23 y24 y25 y26 y27 y28 y29 y30 y31 y32 y33 y34 y35 y36 y37 y38 y39 y40 y41 y42 y43 y44 y45 y46 y47 y48 y49 y50 y51 y52 y53 y54 y55 y56 y57 y58 y59 y60 y61 y62 y63 y64 y65 y66 y67, LeO (pyxlaw13_ParamsFinds.j2 k y0 y1 y2 y3 y4 y5 y6 y7 y8 y9 y10 y11 y12 y13 y14 y15 y16 y17 y18 y19 y20 y21 y22 y23 y24 y25 y26 y27 y28 y29 y30 y31 y32 y33 y34 y35 y36 y37 y38 y39 y40 y41 y42 y43 y44 y45 y46 y47 y48 y49 y50 y51 y52 y53 y54 y55 y56 y57 y58 y59 y60 y61 y62 y63 y64 y65 y66 y67) (pyxlaw13_ParamsFinds.j2 (k + 1) y0 y1 y2 y3 y4 y5 y6 y7 y8 y9 y10 y11 y12 y13 y14 y15 y16 y17 y18 y19 y20 y21 y22 y23 y24 y25 y26 y27 y28 y29 y30 y31 y32 y33 y34 y35 y36 y37 y38 y39 y40 y41 y42 y43 y44 y45 y46 y47 y48 y49 y50 y51 y52 y53 y54 y55 y56 y57 y58 y59 y60 y61 y62 y63 y64 y65 y66 y67)) ∧ (∀ y0 y1 y2 y3 y4 y5 y6 y7 y8 y9 y10 y11 y12 y13 y14 y15 y16 y17 y18 y19 y20 y21 y22 y23 y24 y25 y26 y27 y28 y29 y30 y31 y32 y33 y34 y35 y36 y37 y38 y39 y40 y41 y42 y43 y44 y45 y46 y47 y48 y49 y50 y51 y52 y53 y54 y55 y56 y57 y58 y59 y60 y61 y62 y63 y64 y65 y66 y67 y68, LeO (pyxlaw13_ParamsFinds.j3 k y0 y1 y2 y3 y4 y5 y6 y7 y8 y9 y10 y11 y12 y13 y14 y15 y16 y17 y18 y19 y20 y21 y22 y23 y24 y25 y26 y27 y28 y29 y30 y31 y32 y33 y34 y35 y36 y37 y38 y39 y40 y41 y42 y43 y44 y45 y46 y47 y48 y49 y50 y51 y52 y53 y54 y55 y56 y57 y58 y59 y60 y61 y62 y63 y64 y65 y66 y67 y68) (pyxlaw13_ParamsFinds.j3 (k + 1) y0 y1 y2 y3 y4 y5 y6 y7 y8 y9 y10 y11 y12 y13 y14 y15 y16 y17 y18 y19 y20 y21 y22 y23 y24 y25 y26 y27 y28 y29 y30 y31 y32 y33 y34 y35 y36 y37 y38 y39 y40 y41 y42 y43 y44 y45 y46 y47 y48 y49 y50 y51 y52 y53 y54 y55 y56 y57 y58 y59 y60 y61 y62 y63 y64 y65 y66 y67 y68))
  | 0 => ⟨fun _ _ _ _ r h => by simp [pyxlaw13_ParamsFinds.j0] at h, fun _ _ _ _ _ _ _ _ _ _ _ _ _ _ _ _ _ _ _ _ _ _ _ _ _ _ _ _ _ _ _ _ _ _ _ _ _ _ _ _ _ _ _ _ _ _ _ _ _ _ _ _ _ _ _ _ _ _ _ _ _ _ _ _ _ _ _ _ r h => by simp [pyxlaw13_ParamsFinds.l0] at h, fun _ _ _ _ _ _ _ _ _ _ _ _ _ _ _ _ _ _ _ _ _ _ _ _ _ _ _ _ _ _ _ _ _ _ _ _ _ _ _ _ _ _ _ _ _ _ _ _ _ _ _ _ _ _ _ _ _ _ _ _ _ _ _ _ _ _ _ _ r h => by simp [pyxlaw13_ParamsFinds.j2] at h, fun _ _ _ _ _ _ _ _ _ _ _ _ _ _ _ _ _ _ _ _ _ _ _ _ _ _ _ _ _ _ _ _ _ _ _ _ _ _ _ _ _ _ _ _ _ _ _ _ _ _ _ _ _ _ _ _ _ _ _ _ _ _ _ _ _ _ _ _ _ r h => by simp [pyxlaw13_ParamsFinds.j3] at h⟩
  | k + 1 => by
    obtain ⟨ih0, ih1, ih2, ih3⟩ := pyxlaw13_ParamsFinds.mono_l k
    refine ⟨?_, ?_, ?_, ?_⟩
    · intro y0 y1 y2 y3
      unfold pyxlaw13_ParamsFinds.j0
      repeat' first
      | (with_reducible exact ih0 _ _ _ _)
      | (with_reducible exact ih1 _ _ _ _ _ _ _ _ _ _ _ _ _ _ _ _ _ _ _ _ _ _ _ _ _ _ _ _ _ _ _ _ _ _ _ _ _ _ _ _ _ _ _ _ _ _ _ _ _ _ _ _ _ _ _ _ _ _ _ _ _ _ _ _ _ _ _ _)
      | (with_reducible exact ih2 _ _ _ _ _ _ _ _ _ _ _ _ _ _ _ _ _ _ _ _ _ _ _ _ _ _ _ _ _ _ _ _ _ _ _ _ _ _ _ _ _ _ _ _ _ _ _ _ _ _ _ _ _ _ _ _ _ _ _ _ _ _ _ _ _ _ _ _)
      | (with_reducible exact ih3 _ _ _ _ _ _ _ _ _ _ _ _ _ _ _ _ _ _ _ _ _ _ _ _ _ _ _ _ _ _ _ _ _ _ _ _ _ _ _ _ _ _ _ _ _ _ _ _ _ _ _ _ _ _ _ _ _ _ _ _ _ _ _ _ _ _ _ _ _)
      | (with_reducible exact LeO.refl _)
      | (with_reducible exact LeO.none _)
      | (with_reducible refine LeO.ite ?_ ?_)
      | (with_reducible refine LeO.bind ?_ (fun _ => ?_))
      | exact ih0 _ _ _ _
      | exact ih1 _ _ _ _ _ _ _ _ _ _ _ _ _ _ _ _ _ _ _ _ _ _ _ _ _ _ _ _ _ _ _ _ _ _ _ _ _ _ _ _ _ _ _ _ _ _ _ _ _ _ _ _ _ _ _ _ _ _ _ _ _ _ _ _ _ _ _ _
      | exact ih2 _ _ _ _ _ _ _ _ _ _ _ _ _ _ _ _ _ _ _ _ _ _ _ _ _ _ _ _ _ _ _ _ _ _ _ _ _ _ _ _ _ _ _ _ _ _ _ _ _ _ _ _ _ _ _ _ _ _ _ _ _ _ _ _ _ _ _ _
      | exact ih3 _ _ _ _ _ _ _ _ _ _ _ _ _ _ _ _ _ _ _ _ _ _ _ _ _ _ _ _ _ _ _ _ _ _ _ _ _ _ _ _ _ _ _ _ _ _ _ _ _ _ _ _ _ _ _ _ _ _ _ _ _ _ _ _ _ _ _ _ _
      | exact LeO.none _
      | refine LeO.ite ?_ ?_
      | refine LeO.bind ?_ (fun _ => ?_)
    · intro y0 y1 y2 y3 y4 y5 y6 y7 y8 y9 y10 y11 y12 y13 y14 y15 y16 y17 y18 y19 y20 y21 y22 y23 y24 y25 y26 y27 y28 y29 y30 y31 y32 y33 y34 y35 y36 y37 y38 y39 y40 y41 y42 y43 y44 y45 y46 y47 y48 y49 y50 y51 y52 y53 y54 y55 y56 y57 y58 y59 y60 y61 y62 y63 y64 y65 y66 y67
      unfold pyxlaw13_ParamsFinds.l0
      repeat' first
      | (with_reducible exact ih0 _ _ _ _)
      | (with_reducible exact ih1 _ _ _ _ _ _ _ _ _ _ _ _ _ _ _ _ _ _ _ _ _ _ _ _ _ _ _ _ _ _ _ _ _ _ _ _ _ _ _ _ _ _ _ _ _ _ _ _ _ _ _ _ _ _ _ _ _ _ _ _ _ _ _ _ _ _ _ _)
      | (with_reducible exact ih2 _ _ _ _ _ _ _ _ _ _ _ _ _ _ _ _ _ _ _ _ _ _ _ _ _ _ _ _ _ _ _ _ _ _ _ _ _ _ _ _ _ _ _ _ _ _ _ _ _ _ _ _ _ _ _ _ _ _ _ _ _ _ _ _ _ _ _ _)
      | (with_reducible exact ih3 _ _ _ _ _ _ _ _ _ _ _ _ _ _ _ _ _ _ _ _ _ _ _ _ _ _ _ _ _ _ _ _ _ _ _ _ _ _ _ _ _ _ _ _ _ _ _ _ _ _ _ _ _ _ _ _ _ _ _ _ _ _ _ _ _ _ _ _ _)
      | (with_reducible exact LeO.refl _)
      | (with_reducible exact LeO.none _)
      | (with_reducible refine LeO.ite ?_ ?_)
      | (with_reducible refine LeO.bind ?_ (fun _ => ?_))
      | exact ih0 _ _ _ _
      | exact ih1 _ _ _ _ _ _ _ _ _ _ _ _ _ _ _ _ _ _ _ _ _ _ _ _ _ _ _ _ _ _ _ _ _ _ _ _ _ _ _ _ _ _ _ _ _ _ _ _ _ _ _ _ _ _ _ _ _ _ _ _ _ _ _ _ _ _ _ _
      | exact ih2 _ _ _ _ _ _ _ _ _ _ _ _ _ _ _ _ _ _ _ _ _ _ _ _ _ _ _ _ _ _ _ _ _ _ _ _ _ _ _ _ _ _ _ _ _ _ _ _ _ _ _ _ _ _ _ _ _ _ _ _ _ _ _ _ _ _ _ _
      | exact ih3 _ _ _ _ _ _ _ _ _ _ _ _ _ _ _ _ _ _ _ _ _ _ _ _ _ _ _ _ _ _ _ _ _ _ _ _ _ _ _ _ _ _ _ _ _ _ _ _ _ _ _ _ _ _ _ _ _ _ _ _ _ _ _ _ _ _ _ _ _
      | exact LeO.none _
      | refine LeO.ite ?_ ?_
      | refine LeO.bind ?_ (fun _ => ?_)
    · intro y0 y1 y2 y3 y4 y5 y6 y7 y8 y9 y10 y11 y12 y13 y14 y15 y16 y17 y18 y19 y20 y21 y22 y23 y24 y25 y26 y27 y28 y29 y30 y31 y32 y33 y34 y35 y36 y37 y38 y39 y40 y41 y42 y43 y44 y45 y46 y47 y48 y49 y50 y51 y52 y53 y54 y55 y56 y57 y58 y59 y60 y61 y62 y63 y64 y65 y66 y67
      unfold pyxlaw13_ParamsFinds.j2
      repeat' first
      | (with_reducible exact ih0 _ _ _ _)
      | (with_reducible exact ih1 _ _ _ _ _ _ _ _ _ _ _ _ _ _ _ _ _ _ _ _ _ _ _ _ _ _ _ _ _ _ _ _ _ _ _ _ _ _ _ _ _ _ _ _ _ _ _ _ _ _ _ _ _ _ _ _ _ _ _ _ _ _ _ _ _ _ _ _)
      | (with_reducible exact ih2 _ _ _ _ _ _ _ _ _ _ _ _ _ _ _ _ _ _ _ _ _ _ _ _ _ _ _ _ _ _ _ _ _ _ _ _ _ _ _ _ _ _ _ _ _ _ _ _ _ _ _ _ _ _ _ _ _ _ _ _ _ _ _ _ _ _ _ _)
      | (with_reducible exact ih3 _ _ _ _ _ _ _ _ _ _ _ _ _ _ _ _ _ _ _ _ _ _ _ _ _ _ _ _ _ _ _ _ _ _ _ _ _ _ _ _ _ _ _ _ _ _ _ _ _ _ _ _ _ _ _ _ _ _ _ _ _ _ _ _ _ _ _ _ _)
      | (with_reducible exact LeO.refl _)
      | (with_reducible exact LeO.none _)
      | (with_reducible refine LeO.ite ?_ ?_)
      | (with_reducible refine LeO.bind ?_ (fun _ => ?_))
      | exact ih0 _ _ _ _
      | exact ih1 _ _ _ _ _ _ _ _ _ _ _ _ _ _ _ _ _ _ _ _ _ _ _ _ _ _ _ _ _ _ _ _ _ _ _ _ _ _ _ _ _ _ _ _ _ _ _ _ _ _ _ _ _ _ _ _ _ _ _ _ _ _ _ _ _ _ _ _
      | exact ih2 _ _ _ _ _ _ _ _ _ _ _ _ _ _ _ _ _ _ _ _ _ _ _ _ _ _ _ _ _ _ _ _ _ _ _ _ _ _ _ _ _ _ _ _ _ _ _ _ _ _ _ _ _ _ _ _ _ _ _ _ _ _ _ _ _ _ _ _
      | exact ih3 _ _ _ _ _ _ _ _ _ _ _ _ _ _ _ _ _ _ _ _ _ _ _ _ _ _ _ _ _ _ _ _ _ _ _ _ _ _ _ _ _ _ _ _ _ _ _ _ _ _ _ _ _ _ _ _ _ _ _ _ _ _ _ _ _ _ _ _ _
      | exact LeO.none _
      | refine LeO.ite ?_ ?_
      | refine LeO.bind ?_ (fun _ => ?_)
    · intro y0 y1 y2 y3 y4 y5 y6 y7 y8 y9 y10 y11 y12 y13 y14 y15 y16 y17 y18 y19 y20 y21 y22 y23 y24 y25 y26 y27 y28 y29 y30 y31 y32 y33 y34 y35 y36 y37 y38 y39 y40 y41 y42 y43 y44 y45 y46 y47 y48 y49 y50 y51 y52 y53 y54 y55 y56 y57 y58 y59 y60 y61 y62 y63 y64 y65 y66 y67 y68
      unfold pyxlaw13_ParamsFinds.j3
      repeat' first
      | (with_reducible exact ih0 _ _ _ _)
      | (with_reducible exact ih1 _ _ _ _ _ _ _ _ _ _ _ _ _ _ _ _ _ _ _ _ _ _ _ _ _ _ _ _ _ _ _ _ _ _ _ _ _ _ _ _ _ _ _ _ _ _ _ _ _ _ _ _ _ _ _ _ _ _ _ _ _ _ _ _ _ _ _ _)
      | (with_reducible exact ih2 _ _ _ _ _ _ _ _ _ _ _ _ _ _ _ _ _ _ _ _ _ _ _ _ _ _ _ _ _ _ _ _ _ _ _ _ _ _ _ _ _ _ _ _ _ _ _ _ _ _ _ _ _ _ _ _ _ _ _ _ _ _ _ _ _ _ _ _)
      | (with_reducible exact ih3 _ _ _ _ _ _ _ _ _ _ _ _ _ _ _ _ _ _ _ _ _ _ _ _ _ _ _ _ _ _ _ _ _ _ _ _ _ _ _ _ _ _ _ _ _ _ _ _ _ _ _ _ _ _ _ _ _ _ _ _ _ _ _ _ _ _ _ _ _)
      | (with_reducible exact LeO.refl _)
      | (with_reducible exact LeO.none _)
      | (with_reducible refine LeO.ite ?_ ?_)
      | (with_reducible refine LeO.bind ?_ (fun _ => ?_))
      | exact ih0 _ _ _ _
      | exact ih1 _ _ _ _ _ _ _ _ _ _ _ _ _ _ _ _ _ _ _ _ _ _ _ _ _ _ _ _ _ _ _ _ _ _ _ _ _ _ _ _ _ _ _ _ _ _ _ _ _ _ _ _ _ _ _ _ _ _ _ _ _ _ _ _ _ _ _ _
      | exact ih2 _ _ _ _ _ _ _ _ _ _ _ _ _ _ _ _ _ _ _ _ _ _ _ _ _ _ _ _ _ _ _ _ _ _ _ _ _ _ _ _ _ _ _ _ _ _ _ _ _ _ _ _ _ _ _ _ _ _ _ _ _ _ _ _ _ _ _ _
      | exact ih3 _ _ _ _ _ _ _ _ _ _ _ _ _ _ _ _ _ _ _ _ _ _ _ _ _ _ _ _ _ _ _ _ _ _ _ _ _ _ _ _ _ _ _ _ _ _ _ _ _ _ _ _ _ _ _ _ _ _ _ _ _ _ _ _ _ _ _ _ _
      | exact LeO.none _
      | refine LeO.ite ?_ ?_
      | refine LeO.bind ?_ (fun _ => ?_)
theorem pyxlaw13_ParamsFinds.mono : ∀ a0 a1 a2 k, LeO (pyxlaw13_ParamsFinds.f k a0 a1 a2) (pyxlaw13_ParamsFinds.f (k + 1) a0 a1 a2) := by
  intro a0 a1 a2 k
  obtain ⟨ih0, ih1, ih2, ih3⟩ := pyxlaw13_ParamsFinds.mono_l k
  unfold pyxlaw13_ParamsFinds.f
  repeat' first
      | (with_reducible exact ih0 _ _ _ _)
      | (with_reducible exact ih1 _ _ _ _ _ _ _ _ _ _ _ _ _ _ _ _ _ _ _ _ _ _ _ _ _ _ _ _ _ _ _ _ _ _ _ _ _ _ _ _ _ _ _ _ _ _ _ _ _ _ _ _ _ _ _ _ _ _ _ _ _ _ _ _ _ _ _ _)
      | (with_reducible exact ih2 _ _ _ _ _ _ _ _ _ _ _ _ _ _ _ _ _ _ _ _ _ _ _ _ _ _ _ _ _ _ _ _ _ _ _ _ _ _ _ _ _ _ _ _ _ _ _ _ _ _ _ _ _ _ _ _ _ _ _ _ _ _ _ _ _ _ _ _)
      | (with_reducible exact ih3 _ _ _ _ _ _ _ _ _ _ _ _ _ _ _ _ _ _ _ _ _ _ _ _ _ _ _ _ _ _ _ _ _ _ _ _ _ _ _ _ _ _ _ _ _ _ _ _ _ _ _ _ _ _ _ _ _ _ _ _ _ _ _ _ _ _ _ _ _)
      | (with_reducible exact LeO.refl _)
      | (with_reducible exact LeO.none _)
      | (with_reducible refine LeO.ite ?_ ?_)
      | (with_reducible refine LeO.bind ?_ (fun _ => ?_))
      | exact ih0 _ _ _ _
      | exact ih1 _ _ _ _ _ _ _ _ _ _ _ _ _ _ _ _ _ _ _ _ _ _ _ _ _ _ _ _ _ _ _ _ _ _ _ _ _ _ _ _ _ _ _ _ _ _ _ _ _ _ _ _ _ _ _ _ _ _ _ _ _ _ _ _ _ _ _ _
      | exact ih2 _ _ _ _ _ _ _ _ _ _ _ _ _ _ _ _ _ _ _ _ _ _ _ _ _ _ _ _ _ _ _ _ _ _ _ _ _ _ _ _ _ _ _ _ _ _ _ _ _ _ _ _ _ _ _ _ _ _ _ _ _ _ _ _ _ _ _ _
      | exact ih3 _ _ _ _ _ _ _ _ _ _ _ _ _ _ _ _ _ _ _ _ _ _ _ _ _ _ _ _ _ _ _ _ _ _ _ _ _ _ _ _ _ _ _ _ _ _ _ _ _ _ _ _ _ _ _ _ _ _ _ _ _ _ _ _ _ _ _ _ _
      | exact LeO.none _
      | refine LeO.ite ?_ ?_
      | refine LeO.bind ?_ (fun _ => ?_)
set_option maxHeartbeats 8000000 in
set_option maxRecDepth 100000 in
theorem pyxlaw13_ParamsFinds.calls (k : Nat) (a0 : ByteArray) (a1 : Int) (a2 : Int) (r : Bool) (w : World) (HLd : LaidOk w) (h : pyxlaw13_ParamsFinds.f k a0 a1 a2 = some r) :
    Calls Tryd.prog 10 #[.string a0, .int .i64 a1, .int .u32 a2] w fun e w' => e = .returned (.bool r) ∧ Below w.heap.size w w' := by
  have hu37 := Tryd.underlying37
  have hu42 := Tryd.underlying42
  have HB := Aside0.mk (Below.refl w.heap.size w)
  have H : ((pyxlaw13_awake.f).bind fun t104 => (if t104 = true then (pyxlaw13_ParamsFinds.j0 k a0 a1 a2 (decide ((a0.size : Int) > 100))) else (pyxlaw13_ParamsFinds.j0 k a0 a1 a2 true))) = some r := h
  clear h
  have HC4 := Aside0.mk H
  clear H
  go_enter Tryd.func10, Tryd.ntmps10
  go_upto_region 1 with (fail)
  go_cut [24] (fun v24 wc => ∃ (kq : Nat) (x24_3 : Bool), v24 = .bool x24_3 ∧ Aside0 (pyxlaw13_ParamsFinds.j0 kq a0 a1 a2 x24_3 = some r) ∧ Aside0 (kq ≤ k) ∧ Aside0 (Below w.heap.size w wc))
  case first =>
    have H := HC4.out
    clear HC4
    replace H := Option.bind_eq_some_iff.mp H
    obtain ⟨t104, A50, H⟩ := H
    replace H : (if t104 = true then (pyxlaw13_ParamsFinds.j0 k a0 a1 a2 (decide ((a0.size : Int) > 100))) else (pyxlaw13_ParamsFinds.j0 k a0 a1 a2 true)) = some r := H
    have A5 := Aside0.mk A50
    clear A50
    by_cases c6 : t104 = true
    · subst c6
      have H1 : (pyxlaw13_ParamsFinds.j0 k a0 a1 a2 (decide ((a0.size : Int) > 100))) = some r := by rw [if_pos rfl] at H; exact H
      clear H
      have H := H1
      clear H1
      have H' := Aside0.mk H
      clear H
      go_wp2_with (first | ((with_reducible refine gate_callee (f := 24) rfl ?_); refine goesL_ (some 18) rfl rfl Tryd.func24 (by kernel_rfl) rfl #[] rfl (by (try simp only [List.map_toArray, List.map_cons, List.map_nil]); first | done | rfl | (simp only [List.length_drop, List.length_take]; rfl)) ?_; (with_reducible refine (pyxlaw13_awake.calls  true _ ?side1 A5.out).mono ?_); (case side1 => first | exact HLd | (exact LaidOk.below HLd (by repeat (first | (with_reducible first | exact HB.out | apply below_alloc | apply pw_below_drewN | apply below_drew1) | exact HB.out))) | (repeat (first | exact HLd | apply LaidOk.drewN | apply LaidOk.drew | apply LaidOk.alloc))); rintro e w7 ⟨rfl, hb⟩; refine ⟨_, rfl, ?_⟩; have n0_ := Aside0.mk (below_step (by repeat (first | (with_reducible first | exact HB.out | apply below_alloc | apply pw_below_drewN | apply below_drew1) | exact HB.out)) hb); clear HB; have HB := n0_; clear n0_; (try clear hb); (try clear hb2); (try clear hk); (try clear hi)))
      go_meet
      case rel => exact ⟨_, (decide ((a0.size : Int) > 100)), (by first | rfl | (simp; done) | (simp [*]; done)), H', ⟨by first | omega | exact Nat.le_refl _⟩, ⟨by repeat (first | (with_reducible first | exact HB.out | apply below_alloc | apply pw_below_drewN | apply below_drew1) | exact HB.out)⟩⟩
    · replace c6 := Bool.eq_false_iff.mpr c6
      subst c6
      have H1 : (pyxlaw13_ParamsFinds.j0 k a0 a1 a2 true) = some r := by rw [if_neg (show ¬ (false = true) by decide)] at H; exact H
      clear H
      have H := H1
      clear H1
      have H' := Aside0.mk H
      clear H
      go_wp2_with (first | ((with_reducible refine gate_callee (f := 24) rfl ?_); refine goesL_ (some 18) rfl rfl Tryd.func24 (by kernel_rfl) rfl #[] rfl (by (try simp only [List.map_toArray, List.map_cons, List.map_nil]); first | done | rfl | (simp only [List.length_drop, List.length_take]; rfl)) ?_; (with_reducible refine (pyxlaw13_awake.calls  false _ ?side1 A5.out).mono ?_); (case side1 => first | exact HLd | (exact LaidOk.below HLd (by repeat (first | (with_reducible first | exact HB.out | apply below_alloc | apply pw_below_drewN | apply below_drew1) | exact HB.out))) | (repeat (first | exact HLd | apply LaidOk.drewN | apply LaidOk.drew | apply LaidOk.alloc))); rintro e w8 ⟨rfl, hb⟩; refine ⟨_, rfl, ?_⟩; have n0_ := Aside0.mk (below_step (by repeat (first | (with_reducible first | exact HB.out | apply below_alloc | apply pw_below_drewN | apply below_drew1) | exact HB.out)) hb); clear HB; have HB := n0_; clear n0_; (try clear hb); (try clear hb2); (try clear hk); (try clear hi)))
      go_meet
      case rel => exact ⟨_, (true), (by first | rfl | (simp; done) | (simp [*]; done)), H', ⟨by first | omega | exact Nat.le_refl _⟩, ⟨by repeat (first | (with_reducible first | exact HB.out | apply below_alloc | apply pw_below_drewN | apply below_drew1) | exact HB.out)⟩⟩
  case rest =>
    clear HC4
    try clear c1
    try clear c2
    try clear p2
    try clear c6
    obtain ⟨kq, x24_3, rfl, HA, HJ3, HB⟩ := hcut
    cases kq with
    | zero => exact absurd HA.out (by simp [pyxlaw13_ParamsFinds.j0])
    | succ kj3 =>
      have H := HA.out
      clear HA
      simp only [pyxlaw13_ParamsFinds.j0] at H
      by_cases c9 : x24_3 = true
      · subst c9
        have H1 : ((pyxlaw13_awake.f).bind fun t105 => (some t105)) = some r := by rw [if_pos rfl] at H; exact H
        clear H
        have H := H1
        clear H1
        replace H := Option.bind_eq_some_iff.mp H
        obtain ⟨t105, A100, H⟩ := H
        replace H : (some t105) = some r := H
        have A10 := Aside0.mk A100
        clear A100
        obtain rfl := Option.some.inj H
        go_wp2_with (first | ((with_reducible refine gate_callee (f := 24) rfl ?_); refine goesL_ (some 25) rfl rfl Tryd.func24 (by kernel_rfl) rfl #[] rfl (by (try simp only [List.map_toArray, List.map_cons, List.map_nil]); first | done | rfl | (simp only [List.length_drop, List.length_take]; rfl)) ?_; (with_reducible refine (pyxlaw13_awake.calls  t105 _ ?side1 A10.out).mono ?_); (case side1 => first | exact HLd | (exact LaidOk.below HLd (by repeat (first | (with_reducible first | exact HB.out | apply below_alloc | apply pw_below_drewN | apply below_drew1) | exact HB.out))) | (repeat (first | exact HLd | apply LaidOk.drewN | apply LaidOk.drew | apply LaidOk.alloc))); rintro e w11 ⟨rfl, hb⟩; refine ⟨_, rfl, ?_⟩; have n0_ := Aside0.mk (below_step (by repeat (first | (with_reducible first | exact HB.out | apply below_alloc | apply pw_below_drewN | apply below_drew1) | exact HB.out)) hb); clear HB; have HB := n0_; clear n0_; (try clear hb); (try clear hb2); (try clear hk); (try clear hi)))
        go_ret
        exact ⟨by first | rfl | (simp [errW_none, errW_some] <;> rfl) | (simp [*, errW_none, errW_some] <;> rfl), by repeat (first | (with_reducible first | exact HB.out | apply below_alloc | apply pw_below_drewN | apply below_drew1) | exact HB.out)⟩
      · replace c9 := Bool.eq_false_iff.mpr c9
        subst c9
        have H1 : ((params_ByName.f a0).bind fun bt106 => ((params_ByCOSE.f a1).bind fun bt120 => ((params_ByType.f a2).bind fun bt134 => ((pyxref13_Table.f).bind fun t151 => (pyxlaw13_ParamsFinds.l0 kj3 a0 a1 a2 bt106.2.2.2.2.2.2.2.2.2.2 bt120.2.2.2.2.2.2.2.2.2.2 bt134.2.2.2.2.2.2.2.2.2.2 t151 0 bt106.1 bt106.2.1 bt106.2.2.1 bt106.2.2.2.1 bt106.2.2.2.2.1 bt106.2.2.2.2.2.1 bt106.2.2.2.2.2.2.1 bt106.2.2.2.2.2.2.2.1 bt106.2.2.2.2.2.2.2.2.1 bt106.2.2.2.2.2.2.2.2.2.1 bt120.1 bt120.2.1 bt120.2.2.1 bt120.2.2.2.1 bt120.2.2.2.2.1 bt120.2.2.2.2.2.1 bt120.2.2.2.2.2.2.1 bt120.2.2.2.2.2.2.2.1 bt120.2.2.2.2.2.2.2.2.1 bt120.2.2.2.2.2.2.2.2.2.1 bt134.1 bt134.2.1 bt134.2.2.1 bt134.2.2.2.1 bt134.2.2.2.2.1 bt134.2.2.2.2.2.1 bt134.2.2.2.2.2.2.1 bt134.2.2.2.2.2.2.2.1 bt134.2.2.2.2.2.2.2.2.1 bt134.2.2.2.2.2.2.2.2.2.1 0 0 (⟨#[]⟩ : ByteArray) 0 0 0 0 (⟨#[]⟩ : ByteArray) 0 0 0 0 (⟨#[]⟩ : ByteArray) 0 0 0 0 (⟨#[]⟩ : ByteArray) 0 0 0 0 (⟨#[]⟩ : ByteArray) 0 0 0 0 (⟨#[]⟩ : ByteArray) 0 0))))) = some r := by rw [if_neg (show ¬ (false = true) by decide)] at H; exact H
        clear H
        have H := H1
        clear H1
        replace H := Option.bind_eq_some_iff.mp H
        obtain ⟨⟨t106, t107, t108, t109, t110, t111, t112, t113, t116, t117, t118⟩, A120, H⟩ := H
        replace H : ((params_ByCOSE.f a1).bind fun bt120 => ((params_ByType.f a2).bind fun bt134 => ((pyxref13_Table.f).bind fun t151 => (pyxlaw13_ParamsFinds.l0 kj3 a0 a1 a2 t118 bt120.2.2.2.2.2.2.2.2.2.2 bt134.2.2.2.2.2.2.2.2.2.2 t151 0 t106 t107 t108 t109 t110 t111 t112 t113 t116 t117 bt120.1 bt120.2.1 bt120.2.2.1 bt120.2.2.2.1 bt120.2.2.2.2.1 bt120.2.2.2.2.2.1 bt120.2.2.2.2.2.2.1 bt120.2.2.2.2.2.2.2.1 bt120.2.2.2.2.2.2.2.2.1 bt120.2.2.2.2.2.2.2.2.2.1 bt134.1 bt134.2.1 bt134.2.2.1 bt134.2.2.2.1 bt134.2.2.2.2.1 bt134.2.2.2.2.2.1 bt134.2.2.2.2.2.2.1 bt134.2.2.2.2.2.2.2.1 bt134.2.2.2.2.2.2.2.2.1 bt134.2.2.2.2.2.2.2.2.2.1 0 0 (⟨#[]⟩ : ByteArray) 0 0 0 0 (⟨#[]⟩ : ByteArray) 0 0 0 0 (⟨#[]⟩ : ByteArray) 0 0 0 0 (⟨#[]⟩ : ByteArray) 0 0 0 0 (⟨#[]⟩ : ByteArray) 0 0 0 0 (⟨#[]⟩ : ByteArray) 0 0)))) = some r := H
        have A12 := Aside0.mk A120
        clear A120
        replace H := Option.bind_eq_some_iff.mp H
        obtain ⟨⟨t120, t121, t122, t123, t124, t125, t126, t127, t130, t131, t132⟩, A130, H⟩ := H
        replace H : ((params_ByType.f a2).bind fun bt134 => ((pyxref13_Table.f).bind fun t151 => (pyxlaw13_ParamsFinds.l0 kj3 a0 a1 a2 t118 t132 bt134.2.2.2.2.2.2.2.2.2.2 t151 0 t106 t107 t108 t109 t110 t111 t112 t113 t116 t117 t120 t121 t122 t123 t124 t125 t126 t127 t130 t131 bt134.1 bt134.2.1 bt134.2.2.1 bt134.2.2.2.1 bt134.2.2.2.2.1 bt134.2.2.2.2.2.1 bt134.2.2.2.2.2.2.1 bt134.2.2.2.2.2.2.2.1 bt134.2.2.2.2.2.2.2.2.1 bt134.2.2.2.2.2.2.2.2.2.1 0 0 (⟨#[]⟩ : ByteArray) 0 0 0 0 (⟨#[]⟩ : ByteArray) 0 0 0 0 (⟨#[]⟩ : ByteArray) 0 0 0 0 (⟨#[]⟩ : ByteArray) 0 0 0 0 (⟨#[]⟩ : ByteArray) 0 0 0 0 (⟨#[]⟩ : ByteArray) 0 0))) = some r := H
        have A13 := Aside0.mk A130
        clear A130
        replace H := Option.bind_eq_some_iff.mp H
        obtain ⟨⟨t134, t135, t136, t137, t138, t139, t140, t141, t144, t145, t146⟩, A140, H⟩ := H
        replace H : ((pyxref13_Table.f).bind fun t151 => (pyxlaw13_ParamsFinds.l0 kj3 a0 a1 a2 t118 t132 t146 t151 0 t106 t107 t108 t109 t110 t111 t112 t113 t116 t117 t120 t121 t122 t123 t124 t125 t126 t127 t130 t131 t134 t135 t136 t137 t138 t139 t140 t141 t144 t145 0 0 (⟨#[]⟩ : ByteArray) 0 0 0 0 (⟨#[]⟩ : ByteArray) 0 0 0 0 (⟨#[]⟩ : ByteArray) 0 0 0 0 (⟨#[]⟩ : ByteArray) 0 0 0 0 (⟨#[]⟩ : ByteArray) 0 0 0 0 (⟨#[]⟩ : ByteArray) 0 0)) = some r := H
        have A14 := Aside0.mk A140
        clear A140
        replace H := Option.bind_eq_some_iff.mp H
        obtain ⟨t151, A150, H⟩ := H
        replace H : (pyxlaw13_ParamsFinds.l0 kj3 a0 a1 a2 t118 t132 t146 t151 0 t106 t107 t108 t109 t110 t111 t112 t113 t116 t117 t120 t121 t122 t123 t124 t125 t126 t127 t130 t131 t134 t135 t136 t137 t138 t139 t140 t141 t144 t145 0 0 (⟨#[]⟩ : ByteArray) 0 0 0 0 (⟨#[]⟩ : ByteArray) 0 0 0 0 (⟨#[]⟩ : ByteArray) 0 0 0 0 (⟨#[]⟩ : ByteArray) 0 0 0 0 (⟨#[]⟩ : ByteArray) 0 0 0 0 (⟨#[]⟩ : ByteArray) 0 0) = some r := H
        have A15 := Aside0.mk A150
        clear A150
        have H' := Aside0.mk H
        clear H
        go_wp2_with fail
        refine (params_ByName.calls a0 t106 t107 t108 t109 t110 t111 t112 t113 t116 t117 t118 _ (HLd.below HB.out) A12.out).mono ?_
        rintro e v0_ ⟨v, rfl, hR, hB⟩
        have HOn := Aside0.mk (Kd.R_lower hR HB.out.size)
        have HB' := Aside0.mk (HB.out.trans (hB.mono HB.out.size))
        clear HB
        have HB := HB'
        clear HB'
        clear hR hB
        have HO115 := HOn
        clear HOn
        obtain ⟨Ao19, co19, e1⟩ := Kd.R_slice HO115.out
        subst e1
        go_wp2_with fail
        have BK119 := Aside0.mk (blk_new v0_ (.cells #[.int .i64 t106, .int .i64 t107, .string t108, .int .i64 t109, .int .i64 t110, .int .i64 t111, .int .i64 t112, .slice Ao19 t113.length co19, .int .i64 t116, .int .u32 t117] 37))
        have GE119 := Aside0.mk HB.out.size
        have HO115' := Aside0.mk (Kd.R_alloc HO115.out (.cells #[.int .i64 t106, .int .i64 t107, .string t108, .int .i64 t109, .int .i64 t110, .int .i64 t111, .int .i64 t112, .slice Ao19 t113.length co19, .int .i64 t116, .int .u32 t117] 37))
        clear HO115
        have HO115 := HO115'
        clear HO115'
        have HB' := Aside0.mk (below_alloc HB.out (.cells #[.int .i64 t106, .int .i64 t107, .string t108, .int .i64 t109, .int .i64 t110, .int .i64 t111, .int .i64 t112, .slice Ao19 t113.length co19, .int .i64 t116, .int .u32 t117] 37))
        clear HB
        have HB := HB'
        clear HB'
        generalize v0_.alloc (.cells #[.int .i64 t106, .int .i64 t107, .string t108, .int .i64 t109, .int .i64 t110, .int .i64 t111, .int .i64 t112, .slice Ao19 t113.length co19, .int .i64 t116, .int .u32 t117] 37) = w0_ at HO115 BK119 HB ⊢
        generalize v0_.heap.size = gb119 at BK119 GE119 ⊢
        refine (params_ByCOSE.calls a1 t120 t121 t122 t123 t124 t125 t126 t127 t130 t131 t132 _ (HLd.below HB.out) A13.out).mono ?_
        rintro e v1_ ⟨v, rfl, hR, hB⟩
        have HOn := Aside0.mk (Kd.R_lower (Kd.R_newR hR HO115.out) HB.out.size)
        have HO115' := Aside0.mk (Kd.R_elder HO115.out hR hB)
        clear HO115
        have HO115 := HO115'
        clear HO115'
        have BK119' := Aside0.mk (blk_below BK119.out hB)
        clear BK119
        have BK119 := BK119'
        clear BK119'
        have HB' := Aside0.mk (HB.out.trans (hB.mono HB.out.size))
        clear HB
        have HB := HB'
        clear HB'
        clear hR hB
        have HO129 := HOn
        clear HOn
        obtain ⟨Ao24, co24, e1⟩ := Kd.R_slice HO129.out
        subst e1
        go_wp2_with fail
        have BK133 := Aside0.mk (blk_new v1_ (.cells #[.int .i64 t120, .int .i64 t121, .string t122, .int .i64 t123, .int .i64 t124, .int .i64 t125, .int .i64 t126, .slice Ao24 t127.length co24, .int .i64 t130, .int .u32 t131] 37))
        have GE133 := Aside0.mk HB.out.size
        have NB119_133 := Aside0.mk (Nat.ne_of_lt (blk_lt BK119.out))
        have NB133_119 := Aside0.mk (Nat.ne_of_gt (blk_lt BK119.out))
        have HO115' := Aside0.mk (Kd.R_alloc HO115.out (.cells #[.int .i64 t120, .int .i64 t121, .string t122, .int .i64 t123, .int .i64 t124, .int .i64 t125, .int .i64 t126, .slice Ao24 t127.length co24, .int .i64 t130, .int .u32 t131] 37))
        clear HO115
        have HO115 := HO115'
        clear HO115'
        have HO129' := Aside0.mk (Kd.R_alloc HO129.out (.cells #[.int .i64 t120, .int .i64 t121, .string t122, .int .i64 t123, .int .i64 t124, .int .i64 t125, .int .i64 t126, .slice Ao24 t127.length co24, .int .i64 t130, .int .u32 t131] 37))
        clear HO129
        have HO129 := HO129'
        clear HO129'
        have BK119' := Aside0.mk (blk_alloc BK119.out (.cells #[.int .i64 t120, .int .i64 t121, .string t122, .int .i64 t123, .int .i64 t124, .int .i64 t125, .int .i64 t126, .slice Ao24 t127.length co24, .int .i64 t130, .int .u32 t131] 37))
        clear BK119
        have BK119 := BK119'
        clear BK119'
        have HB' := Aside0.mk (below_alloc HB.out (.cells #[.int .i64 t120, .int .i64 t121, .string t122, .int .i64 t123, .int .i64 t124, .int .i64 t125, .int .i64 t126, .slice Ao24 t127.length co24, .int .i64 t130, .int .u32 t131] 37))
        clear HB
        have HB := HB'
        clear HB'
        generalize v1_.alloc (.cells #[.int .i64 t120, .int .i64 t121, .string t122, .int .i64 t123, .int .i64 t124, .int .i64 t125, .int .i64 t126, .slice Ao24 t127.length co24, .int .i64 t130, .int .u32 t131] 37) = w1_ at HO115 HO129 BK119 BK133 HB ⊢
        generalize v1_.heap.size = gb133 at BK133 GE133 NB119_133 NB133_119 ⊢
        refine (params_ByType.calls a2 t134 t135 t136 t137 t138 t139 t140 t141 t144 t145 t146 _ (HLd.below HB.out) A14.out).mono ?_
        rintro e v2_ ⟨v, rfl, hR, hB⟩
        have HOn := Aside0.mk (Kd.R_lower (Kd.R_newR (Kd.R_newR hR HO115.out) HO129.out) HB.out.size)
        have HO115' := Aside0.mk (Kd.R_elder HO115.out hR hB)
        clear HO115
        have HO115 := HO115'
        clear HO115'
        have HO129' := Aside0.mk (Kd.R_elder HO129.out hR hB)
        clear HO129
        have HO129 := HO129'
        clear HO129'
        have BK119' := Aside0.mk (blk_below BK119.out hB)
        clear BK119
        have BK119 := BK119'
        clear BK119'
        have BK133' := Aside0.mk (blk_below BK133.out hB)
        clear BK133
        have BK133 := BK133'
        clear BK133'
        have HB' := Aside0.mk (HB.out.trans (hB.mono HB.out.size))
        clear HB
        have HB := HB'
        clear HB'
        clear hR hB
        have HO143 := HOn
        clear HOn
        obtain ⟨Ao30, co30, e1⟩ := Kd.R_slice HO143.out
        subst e1
        go_wp2_with fail
        have h0_ := blk_new v2_ (.cells #[.int .i64 t134, .int .i64 t135, .string t136, .int .i64 t137, .int .i64 t138, .int .i64 t139, .int .i64 t140, .slice Ao30 t141.length co30, .int .i64 t144, .int .u32 t145] 37)
        have BK147 := Aside0.mk (blk_alloc (blk_alloc (blk_alloc h0_ (.cells #[.int .i64 0, .int .i64 0, .string (⟨#[]⟩ : ByteArray), .int .i64 0, .int .i64 0, .int .i64 0, .int .i64 0, .string (⟨#[]⟩ : ByteArray), .int .i64 0, .int .u32 0] 42)) (.cells #[.int .i64 0, .int .i64 0, .string (⟨#[]⟩ : ByteArray), .int .i64 0, .int .i64 0, .int .i64 0, .int .i64 0, .string (⟨#[]⟩ : ByteArray), .int .i64 0, .int .u32 0] 42)) (.cells #[.int .i64 0, .int .i64 0, .string (⟨#[]⟩ : ByteArray), .int .i64 0, .int .i64 0, .int .i64 0, .int .i64 0, .string (⟨#[]⟩ : ByteArray), .int .i64 0, .int .u32 0] 42))
        clear h0_
        have h1_ := blk_new (v2_.alloc (.cells #[.int .i64 t134, .int .i64 t135, .string t136, .int .i64 t137, .int .i64 t138, .int .i64 t139, .int .i64 t140, .slice Ao30 t141.length co30, .int .i64 t144, .int .u32 t145] 37)) (.cells #[.int .i64 0, .int .i64 0, .string (⟨#[]⟩ : ByteArray), .int .i64 0, .int .i64 0, .int .i64 0, .int .i64 0, .string (⟨#[]⟩ : ByteArray), .int .i64 0, .int .u32 0] 42)
        rw [show (v2_.alloc (.cells #[.int .i64 t134, .int .i64 t135, .string t136, .int .i64 t137, .int .i64 t138, .int .i64 t139, .int .i64 t140, .slice Ao30 t141.length co30, .int .i64 t144, .int .u32 t145] 37)).heap.size = v2_.heap.size + 1 by simp] at h1_
        have BK148 := Aside0.mk (blk_alloc (blk_alloc h1_ (.cells #[.int .i64 0, .int .i64 0, .string (⟨#[]⟩ : ByteArray), .int .i64 0, .int .i64 0, .int .i64 0, .int .i64 0, .string (⟨#[]⟩ : ByteArray), .int .i64 0, .int .u32 0] 42)) (.cells #[.int .i64 0, .int .i64 0, .string (⟨#[]⟩ : ByteArray), .int .i64 0, .int .i64 0, .int .i64 0, .int .i64 0, .string (⟨#[]⟩ : ByteArray), .int .i64 0, .int .u32 0] 42))
        clear h1_
        have h2_ := blk_new ((v2_.alloc (.cells #[.int .i64 t134, .int .i64 t135, .string t136, .int .i64 t137, .int .i64 t138, .int .i64 t139, .int .i64 t140, .slice Ao30 t141.length co30, .int .i64 t144, .int .u32 t145] 37)).alloc (.cells #[.int .i64 0, .int .i64 0, .string (⟨#[]⟩ : ByteArray), .int .i64 0, .int .i64 0, .int .i64 0, .int .i64 0, .string (⟨#[]⟩ : ByteArray), .int .i64 0, .int .u32 0] 42)) (.cells #[.int .i64 0, .int .i64 0, .string (⟨#[]⟩ : ByteArray), .int .i64 0, .int .i64 0, .int .i64 0, .int .i64 0, .string (⟨#[]⟩ : ByteArray), .int .i64 0, .int .u32 0] 42)
        rw [show ((v2_.alloc (.cells #[.int .i64 t134, .int .i64 t135, .string t136, .int .i64 t137, .int .i64 t138, .int .i64 t139, .int .i64 t140, .slice Ao30 t141.length co30, .int .i64 t144, .int .u32 t145] 37)).alloc (.cells #[.int .i64 0, .int .i64 0, .string (⟨#[]⟩ : ByteArray), .int .i64 0, .int .i64 0, .int .i64 0, .int .i64 0, .string (⟨#[]⟩ : ByteArray), .int .i64 0, .int .u32 0] 42)).heap.size = v2_.heap.size + 1 + 1 by simp] at h2_
        have BK149 := Aside0.mk (blk_alloc h2_ (.cells #[.int .i64 0, .int .i64 0, .string (⟨#[]⟩ : ByteArray), .int .i64 0, .int .i64 0, .int .i64 0, .int .i64 0, .string (⟨#[]⟩ : ByteArray), .int .i64 0, .int .u32 0] 42))
        clear h2_
        have h3_ := blk_new (((v2_.alloc (.cells #[.int .i64 t134, .int .i64 t135, .string t136, .int .i64 t137, .int .i64 t138, .int .i64 t139, .int .i64 t140, .slice Ao30 t141.length co30, .int .i64 t144, .int .u32 t145] 37)).alloc (.cells #[.int .i64 0, .int .i64 0, .string (⟨#[]⟩ : ByteArray), .int .i64 0, .int .i64 0, .int .i64 0, .int .i64 0, .string (⟨#[]⟩ : ByteArray), .int .i64 0, .int .u32 0] 42)).alloc (.cells #[.int .i64 0, .int .i64 0, .string (⟨#[]⟩ : ByteArray), .int .i64 0, .int .i64 0, .int .i64 0, .int .i64 0, .string (⟨#[]⟩ : ByteArray), .int .i64 0, .int .u32 0] 42)) (.cells #[.int .i64 0, .int .i64 0, .string (⟨#[]⟩ : ByteArray), .int .i64 0, .int .i64 0, .int .i64 0, .int .i64 0, .string (⟨#[]⟩ : ByteArray), .int .i64 0, .int .u32 0] 42)
        rw [show (((v2_.alloc (.cells #[.int .i64 t134, .int .i64 t135, .string t136, .int .i64 t137, .int .i64 t138, .int .i64 t139, .int .i64 t140, .slice Ao30 t141.length co30, .int .i64 t144, .int .u32 t145] 37)).alloc (.cells #[.int .i64 0, .int .i64 0, .string (⟨#[]⟩ : ByteArray), .int .i64 0, .int .i64 0, .int .i64 0, .int .i64 0, .string (⟨#[]⟩ : ByteArray), .int .i64 0, .int .u32 0] 42)).alloc (.cells #[.int .i64 0, .int .i64 0, .string (⟨#[]⟩ : ByteArray), .int .i64 0, .int .i64 0, .int .i64 0, .int .i64 0, .string (⟨#[]⟩ : ByteArray), .int .i64 0, .int .u32 0] 42)).heap.size = v2_.heap.size + 1 + 1 + 1 by simp] at h3_
        have BK150 := Aside0.mk h3_
        clear h3_
        have GE147 : Aside0 (w.heap.size ≤ v2_.heap.size) := ⟨by have := HB.out.size; omega⟩
        have NB119_147 : Aside0 (gb119 ≠ v2_.heap.size) := ⟨by have := blk_lt BK119.out; omega⟩
        have NB147_119 : Aside0 (v2_.heap.size ≠ gb119) := ⟨by have := blk_lt BK119.out; omega⟩
        have NB133_147 : Aside0 (gb133 ≠ v2_.heap.size) := ⟨by have := blk_lt BK133.out; omega⟩
        have NB147_133 : Aside0 (v2_.heap.size ≠ gb133) := ⟨by have := blk_lt BK133.out; omega⟩
        have NB147_148 : Aside0 (v2_.heap.size ≠ v2_.heap.size + 1) := ⟨by omega⟩
        have NB147_149 : Aside0 (v2_.heap.size ≠ v2_.heap.size + 1 + 1) := ⟨by omega⟩
        have NB147_150 : Aside0 (v2_.heap.size ≠ v2_.heap.size + 1 + 1 + 1) := ⟨by omega⟩
        have GE148 : Aside0 (w.heap.size ≤ v2_.heap.size + 1) := ⟨by have := HB.out.size; omega⟩
        have NB119_148 : Aside0 (gb119 ≠ v2_.heap.size + 1) := ⟨by have := blk_lt BK119.out; omega⟩
        have NB148_119 : Aside0 (v2_.heap.size + 1 ≠ gb119) := ⟨by have := blk_lt BK119.out; omega⟩
        have NB133_148 : Aside0 (gb133 ≠ v2_.heap.size + 1) := ⟨by have := blk_lt BK133.out; omega⟩
        have NB148_133 : Aside0 (v2_.heap.size + 1 ≠ gb133) := ⟨by have := blk_lt BK133.out; omega⟩
        have NB148_147 : Aside0 (v2_.heap.size + 1 ≠ v2_.heap.size) := ⟨by omega⟩
        have NB148_149 : Aside0 (v2_.heap.size + 1 ≠ v2_.heap.size + 1 + 1) := ⟨by omega⟩
        have NB148_150 : Aside0 (v2_.heap.size + 1 ≠ v2_.heap.size + 1 + 1 + 1) := ⟨by omega⟩
        have GE149 : Aside0 (w.heap.size ≤ v2_.heap.size + 1 + 1) := ⟨by have := HB.out.size; omega⟩
        have NB119_149 : Aside0 (gb119 ≠ v2_.heap.size + 1 + 1) := ⟨by have := blk_lt BK119.out; omega⟩
        have NB149_119 : Aside0 (v2_.heap.size + 1 + 1 ≠ gb119) := ⟨by have := blk_lt BK119.out; omega⟩
        have NB133_149 : Aside0 (gb133 ≠ v2_.heap.size + 1 + 1) := ⟨by have := blk_lt BK133.out; omega⟩
        have NB149_133 : Aside0 (v2_.heap.size + 1 + 1 ≠ gb133) := ⟨by have := blk_lt BK133.out; omega⟩
        have NB149_147 : Aside0 (v2_.heap.size + 1 + 1 ≠ v2_.heap.size) := ⟨by omega⟩
        have NB149_148 : Aside0 (v2_.heap.size + 1 + 1 ≠ v2_.heap.size + 1) := ⟨by omega⟩
        have NB149_150 : Aside0 (v2_.heap.size + 1 + 1 ≠ v2_.heap.size + 1 + 1 + 1) := ⟨by omega⟩
        have GE150 : Aside0 (w.heap.size ≤ v2_.heap.size + 1 + 1 + 1) := ⟨by have := HB.out.size; omega⟩
        have NB119_150 : Aside0 (gb119 ≠ v2_.heap.size + 1 + 1 + 1) := ⟨by have := blk_lt BK119.out; omega⟩
        have NB150_119 : Aside0 (v2_.heap.size + 1 + 1 + 1 ≠ gb119) := ⟨by have := blk_lt BK119.out; omega⟩
        have NB133_150 : Aside0 (gb133 ≠ v2_.heap.size + 1 + 1 + 1) := ⟨by have := blk_lt BK133.out; omega⟩
        have NB150_133 : Aside0 (v2_.heap.size + 1 + 1 + 1 ≠ gb133) := ⟨by have := blk_lt BK133.out; omega⟩
        have NB150_147 : Aside0 (v2_.heap.size + 1 + 1 + 1 ≠ v2_.heap.size) := ⟨by omega⟩
        have NB150_148 : Aside0 (v2_.heap.size + 1 + 1 + 1 ≠ v2_.heap.size + 1) := ⟨by omega⟩
        have NB150_149 : Aside0 (v2_.heap.size + 1 + 1 + 1 ≠ v2_.heap.size + 1 + 1) := ⟨by omega⟩
        have HO115' := Aside0.mk (Kd.R_alloc (Kd.R_alloc (Kd.R_alloc (Kd.R_alloc HO115.out (.cells #[.int .i64 t134, .int .i64 t135, .string t136, .int .i64 t137, .int .i64 t138, .int .i64 t139, .int .i64 t140, .slice Ao30 t141.length co30, .int .i64 t144, .int .u32 t145] 37)) (.cells #[.int .i64 0, .int .i64 0, .string (⟨#[]⟩ : ByteArray), .int .i64 0, .int .i64 0, .int .i64 0, .int .i64 0, .string (⟨#[]⟩ : ByteArray), .int .i64 0, .int .u32 0] 42)) (.cells #[.int .i64 0, .int .i64 0, .string (⟨#[]⟩ : ByteArray), .int .i64 0, .int .i64 0, .int .i64 0, .int .i64 0, .string (⟨#[]⟩ : ByteArray), .int .i64 0, .int .u32 0] 42)) (.cells #[.int .i64 0, .int .i64 0, .string (⟨#[]⟩ : ByteArray), .int .i64 0, .int .i64 0, .int .i64 0, .int .i64 0, .string (⟨#[]⟩ : ByteArray), .int .i64 0, .int .u32 0] 42))
        clear HO115
        have HO115 := HO115'
        clear HO115'
        have HO129' := Aside0.mk (Kd.R_alloc (Kd.R_alloc (Kd.R_alloc (Kd.R_alloc HO129.out (.cells #[.int .i64 t134, .int .i64 t135, .string t136, .int .i64 t137, .int .i64 t138, .int .i64 t139, .int .i64 t140, .slice Ao30 t141.length co30, .int .i64 t144, .int .u32 t145] 37)) (.cells #[.int .i64 0, .int .i64 0, .string (⟨#[]⟩ : ByteArray), .int .i64 0, .int .i64 0, .int .i64 0, .int .i64 0, .string (⟨#[]⟩ : ByteArray), .int .i64 0, .int .u32 0] 42)) (.cells #[.int .i64 0, .int .i64 0, .string (⟨#[]⟩ : ByteArray), .int .i64 0, .int .i64 0, .int .i64 0, .int .i64 0, .string (⟨#[]⟩ : ByteArray), .int .i64 0, .int .u32 0] 42)) (.cells #[.int .i64 0, .int .i64 0, .string (⟨#[]⟩ : ByteArray), .int .i64 0, .int .i64 0, .int .i64 0, .int .i64 0, .string (⟨#[]⟩ : ByteArray), .int .i64 0, .int .u32 0] 42))
        clear HO129
        have HO129 := HO129'
        clear HO129'
        have HO143' := Aside0.mk (Kd.R_alloc (Kd.R_alloc (Kd.R_alloc (Kd.R_alloc HO143.out (.cells #[.int .i64 t134, .int .i64 t135, .string t136, .int .i64 t137, .int .i64 t138, .int .i64 t139, .int .i64 t140, .slice Ao30 t141.length co30, .int .i64 t144, .int .u32 t145] 37)) (.cells #[.int .i64 0, .int .i64 0, .string (⟨#[]⟩ : ByteArray), .int .i64 0, .int .i64 0, .int .i64 0, .int .i64 0, .string (⟨#[]⟩ : ByteArray), .int .i64 0, .int .u32 0] 42)) (.cells #[.int .i64 0, .int .i64 0, .string (⟨#[]⟩ : ByteArray), .int .i64 0, .int .i64 0, .int .i64 0, .int .i64 0, .string (⟨#[]⟩ : ByteArray), .int .i64 0, .int .u32 0] 42)) (.cells #[.int .i64 0, .int .i64 0, .string (⟨#[]⟩ : ByteArray), .int .i64 0, .int .i64 0, .int .i64 0, .int .i64 0, .string (⟨#[]⟩ : ByteArray), .int .i64 0, .int .u32 0] 42))
        clear HO143
        have HO143 := HO143'
        clear HO143'
        have BK119' := Aside0.mk (blk_alloc (blk_alloc (blk_alloc (blk_alloc BK119.out (.cells #[.int .i64 t134, .int .i64 t135, .string t136, .int .i64 t137, .int .i64 t138, .int .i64 t139, .int .i64 t140, .slice Ao30 t141.length co30, .int .i64 t144, .int .u32 t145] 37)) (.cells #[.int .i64 0, .int .i64 0, .string (⟨#[]⟩ : ByteArray), .int .i64 0, .int .i64 0, .int .i64 0, .int .i64 0, .string (⟨#[]⟩ : ByteArray), .int .i64 0, .int .u32 0] 42)) (.cells #[.int .i64 0, .int .i64 0, .string (⟨#[]⟩ : ByteArray), .int .i64 0, .int .i64 0, .int .i64 0, .int .i64 0, .string (⟨#[]⟩ : ByteArray), .int .i64 0, .int .u32 0] 42)) (.cells #[.int .i64 0, .int .i64 0, .string (⟨#[]⟩ : ByteArray), .int .i64 0, .int .i64 0, .int .i64 0, .int .i64 0, .string (⟨#[]⟩ : ByteArray), .int .i64 0, .int .u32 0] 42))
        clear BK119
        have BK119 := BK119'
        clear BK119'
        have BK133' := Aside0.mk (blk_alloc (blk_alloc (blk_alloc (blk_alloc BK133.out (.cells #[.int .i64 t134, .int .i64 t135, .string t136, .int .i64 t137, .int .i64 t138, .int .i64 t139, .int .i64 t140, .slice Ao30 t141.length co30, .int .i64 t144, .int .u32 t145] 37)) (.cells #[.int .i64 0, .int .i64 0, .string (⟨#[]⟩ : ByteArray), .int .i64 0, .int .i64 0, .int .i64 0, .int .i64 0, .string (⟨#[]⟩ : ByteArray), .int .i64 0, .int .u32 0] 42)) (.cells #[.int .i64 0, .int .i64 0, .string (⟨#[]⟩ : ByteArray), .int .i64 0, .int .i64 0, .int .i64 0, .int .i64 0, .string (⟨#[]⟩ : ByteArray), .int .i64 0, .int .u32 0] 42)) (.cells #[.int .i64 0, .int .i64 0, .string (⟨#[]⟩ : ByteArray), .int .i64 0, .int .i64 0, .int .i64 0, .int .i64 0, .string (⟨#[]⟩ : ByteArray), .int .i64 0, .int .u32 0] 42))
        clear BK133
        have BK133 := BK133'
        clear BK133'
        have HB' := Aside0.mk (below_alloc (below_alloc (below_alloc (below_alloc HB.out (.cells #[.int .i64 t134, .int .i64 t135, .string t136, .int .i64 t137, .int .i64 t138, .int .i64 t139, .int .i64 t140, .slice Ao30 t141.length co30, .int .i64 t144, .int .u32 t145] 37)) (.cells #[.int .i64 0, .int .i64 0, .string (⟨#[]⟩ : ByteArray), .int .i64 0, .int .i64 0, .int .i64 0, .int .i64 0, .string (⟨#[]⟩ : ByteArray), .int .i64 0, .int .u32 0] 42)) (.cells #[.int .i64 0, .int .i64 0, .string (⟨#[]⟩ : ByteArray), .int .i64 0, .int .i64 0, .int .i64 0, .int .i64 0, .string (⟨#[]⟩ : ByteArray), .int .i64 0, .int .u32 0] 42)) (.cells #[.int .i64 0, .int .i64 0, .string (⟨#[]⟩ : ByteArray), .int .i64 0, .int .i64 0, .int .i64 0, .int .i64 0, .string (⟨#[]⟩ : ByteArray), .int .i64 0, .int .u32 0] 42))
        clear HB
        have HB := HB'
        clear HB'
        generalize (((v2_.alloc (.cells #[.int .i64 t134, .int .i64 t135, .string t136, .int .i64 t137, .int .i64 t138, .int .i64 t139, .int .i64 t140, .slice Ao30 t141.length co30, .int .i64 t144, .int .u32 t145] 37)).alloc (.cells #[.int .i64 0, .int .i64 0, .string (⟨#[]⟩ : ByteArray), .int .i64 0, .int .i64 0, .int .i64 0, .int .i64 0, .string (⟨#[]⟩ : ByteArray), .int .i64 0, .int .u32 0] 42)).alloc (.cells #[.int .i64 0, .int .i64 0, .string (⟨#[]⟩ : ByteArray), .int .i64 0, .int .i64 0, .int .i64 0, .int .i64 0, .string (⟨#[]⟩ : ByteArray), .int .i64 0, .int .u32 0] 42)).alloc (.cells #[.int .i64 0, .int .i64 0, .string (⟨#[]⟩ : ByteArray), .int .i64 0, .int .i64 0, .int .i64 0, .int .i64 0, .string (⟨#[]⟩ : ByteArray), .int .i64 0, .int .u32 0] 42) = w2_ at HO115 HO129 HO143 BK119 BK133 BK147 BK148 BK149 BK150 HB ⊢
        generalize v2_.heap.size + 1 + 1 + 1 = gb150 at BK150 GE150 NB147_150 NB148_150 NB149_150 NB119_150 NB150_119 NB133_150 NB150_133 NB150_147 NB150_148 NB150_149 ⊢
        generalize v2_.heap.size + 1 + 1 = gb149 at BK149 GE149 NB147_149 NB148_149 NB119_149 NB149_119 NB133_149 NB149_133 NB149_147 NB149_148 NB149_150 NB150_149 ⊢
        generalize v2_.heap.size + 1 = gb148 at BK148 GE148 NB147_148 NB119_148 NB148_119 NB133_148 NB148_133 NB148_147 NB148_149 NB148_150 NB149_148 NB150_148 ⊢
        generalize v2_.heap.size = gb147 at BK147 GE147 NB119_147 NB147_119 NB133_147 NB147_133 NB147_148 NB147_149 NB147_150 NB148_147 NB149_147 NB150_147 ⊢
        refine (pyxref13_Table.calls t151 _ A15.out).mono ?_
        rintro e v3_ ⟨v152, rfl, hR, hB⟩
        have L8 := blk_lt BK148.out
        have L9 := blk_lt BK149.out
        have L0 := blk_lt BK150.out
        have HO153 : Aside0 (Kd.R k42 42 v3_ w.heap.size (fun k_ => ((True ∧ k_ ≠ gb148) ∧ k_ ≠ gb149) ∧ k_ ≠ gb150) v152 t151) := ⟨Kd.R_lower (Kd.R_mono (Kd.R_bound hR) (fun k_ hk => ⟨⟨⟨trivial, fun e => by have := hk.2.1; omega⟩, fun e => by have := hk.2.1; omega⟩, fun e => by have := hk.2.1; omega⟩)) HB.out.size⟩
        clear L8 L9 L0
        have HO115' := Aside0.mk (Kd.R_below HO115.out hB)
        clear HO115
        have HO115 := HO115'
        clear HO115'
        have HO129' := Aside0.mk (Kd.R_below HO129.out hB)
        clear HO129
        have HO129 := HO129'
        clear HO129'
        have HO143' := Aside0.mk (Kd.R_below HO143.out hB)
        clear HO143
        have HO143 := HO143'
        clear HO143'
        have BK119' := Aside0.mk (blk_below BK119.out hB)
        clear BK119
        have BK119 := BK119'
        clear BK119'
        have BK133' := Aside0.mk (blk_below BK133.out hB)
        clear BK133
        have BK133 := BK133'
        clear BK133'
        have BK147' := Aside0.mk (blk_below BK147.out hB)
        clear BK147
        have BK147 := BK147'
        clear BK147'
        have BK148' := Aside0.mk (blk_below BK148.out hB)
        clear BK148
        have BK148 := BK148'
        clear BK148'
        have BK149' := Aside0.mk (blk_below BK149.out hB)
        clear BK149
        have BK149 := BK149'
        clear BK149'
        have BK150' := Aside0.mk (blk_below BK150.out hB)
        clear BK150
        have BK150 := BK150'
        clear BK150'
        have HB' := Aside0.mk (HB.out.trans (hB.mono HB.out.size))
        clear HB
        have HB := HB'
        clear HB'
        clear hR hB
        go_wp2_with fail
        go_loopg [17] kj3 (fun kq v17 w' => ∃ (x17_2 : Int) (xa0_2 : Int) (xa1_2 : Int) (xa2_2 : ByteArray) (xa3_2 : Int) (xa4_2 : Int) (xa5_2 : Int) (xa6_2 : Int) (xa7_2 : ByteArray) (xa8_2 : Int) (xa9_2 : Int) (xb0_2 : Int) (xb1_2 : Int) (xb2_2 : ByteArray) (xb3_2 : Int) (xb4_2 : Int) (xb5_2 : Int) (xb6_2 : Int) (xb7_2 : ByteArray) (xb8_2 : Int) (xb9_2 : Int) (xc0_2 : Int) (xc1_2 : Int) (xc2_2 : ByteArray) (xc3_2 : Int) (xc4_2 : Int) (xc5_2 : Int) (xc6_2 : Int) (xc7_2 : ByteArray) (xc8_2 : Int) (xc9_2 : Int), v17 = .int .i64 x17_2 ∧ Aside0 (pyxlaw13_ParamsFinds.l0 kq a0 a1 a2 t118 t132 t146 t151 x17_2 t106 t107 t108 t109 t110 t111 t112 t113 t116 t117 t120 t121 t122 t123 t124 t125 t126 t127 t130 t131 t134 t135 t136 t137 t138 t139 t140 t141 t144 t145 xa0_2 xa1_2 xa2_2 xa3_2 xa4_2 xa5_2 xa6_2 xa7_2 xa8_2 xa9_2 xb0_2 xb1_2 xb2_2 xb3_2 xb4_2 xb5_2 xb6_2 xb7_2 xb8_2 xb9_2 xc0_2 xc1_2 xc2_2 xc3_2 xc4_2 xc5_2 xc6_2 xc7_2 xc8_2 xc9_2 = some r) ∧ Aside0 (kq ≤ kj3) ∧ Aside0 (Kd.R k42 42 w' w.heap.size (fun k_ => k_ ≠ gb148 ∧ k_ ≠ gb149 ∧ k_ ≠ gb150) v152 t151) ∧ Aside0 (Kd.R (Kd.int .u32) 27 w' w.heap.size (fun k_ => some k_ ≠ ((.slice Ao24 t127.length co24) : Value).ownBlock ∧ some k_ ≠ ((.slice Ao30 t141.length co30) : Value).ownBlock) (.slice Ao19 t113.length co19) t113) ∧ Aside0 (Kd.R (Kd.int .u32) 27 w' w.heap.size (fun k_ => some k_ ≠ ((.slice Ao19 t113.length co19) : Value).ownBlock ∧ some k_ ≠ ((.slice Ao30 t141.length co30) : Value).ownBlock) (.slice Ao24 t127.length co24) t127) ∧ Aside0 (Kd.R (Kd.int .u32) 27 w' w.heap.size (fun k_ => some k_ ≠ ((.slice Ao19 t113.length co19) : Value).ownBlock ∧ some k_ ≠ ((.slice Ao24 t127.length co24) : Value).ownBlock) (.slice Ao30 t141.length co30) t141) ∧ Aside0 (w'.heap[gb119]? = some (.cells #[.int .i64 t106, .int .i64 t107, .string t108, .int .i64 t109, .int .i64 t110, .int .i64 t111, .int .i64 t112, (.slice Ao19 t113.length co19), .int .i64 t116, .int .u32 t117] 37 (0, 0))) ∧ Aside0 (w'.heap[gb133]? = some (.cells #[.int .i64 t120, .int .i64 t121, .string t122, .int .i64 t123, .int .i64 t124, .int .i64 t125, .int .i64 t126, (.slice Ao24 t127.length co24), .int .i64 t130, .int .u32 t131] 37 (0, 0))) ∧ Aside0 (w'.heap[gb147]? = some (.cells #[.int .i64 t134, .int .i64 t135, .string t136, .int .i64 t137, .int .i64 t138, .int .i64 t139, .int .i64 t140, (.slice Ao30 t141.length co30), .int .i64 t144, .int .u32 t145] 37 (0, 0))) ∧ Aside0 (w'.heap[gb148]? = some (.cells #[.int .i64 xa0_2, .int .i64 xa1_2, .string xa2_2, .int .i64 xa3_2, .int .i64 xa4_2, .int .i64 xa5_2, .int .i64 xa6_2, .string xa7_2, .int .i64 xa8_2, .int .u32 xa9_2] 42 (0, 0))) ∧ Aside0 (w'.heap[gb149]? = some (.cells #[.int .i64 xb0_2, .int .i64 xb1_2, .string xb2_2, .int .i64 xb3_2, .int .i64 xb4_2, .int .i64 xb5_2, .int .i64 xb6_2, .string xb7_2, .int .i64 xb8_2, .int .u32 xb9_2] 42 (0, 0))) ∧ Aside0 (w'.heap[gb150]? = some (.cells #[.int .i64 xc0_2, .int .i64 xc1_2, .string xc2_2, .int .i64 xc3_2, .int .i64 xc4_2, .int .i64 xc5_2, .int .i64 xc6_2, .string xc7_2, .int .i64 xc8_2, .int .u32 xc9_2] 42 (0, 0))) ∧ Aside0 (Below w.heap.size w w'))
        case atStart => exact ⟨(0), (0), (0), ((⟨#[]⟩ : ByteArray)), (0), (0), (0), (0), ((⟨#[]⟩ : ByteArray)), (0), (0), (0), (0), ((⟨#[]⟩ : ByteArray)), (0), (0), (0), (0), ((⟨#[]⟩ : ByteArray)), (0), (0), (0), (0), ((⟨#[]⟩ : ByteArray)), (0), (0), (0), (0), ((⟨#[]⟩ : ByteArray)), (0), (0), (by first | rfl | (simp; done) | (simp [*]; done)), H', ⟨Nat.le_refl _⟩, ⟨by (with_reducible repeat (first | apply Kd.R_alloc | apply Kd.R_drewN | apply Kd.R_drew)); exact Kd.R_mono HO153.out (fun _ hk => ⟨hk.1.1.2, ⟨hk.1.2, hk.2⟩⟩)⟩, ⟨by (with_reducible repeat (first | apply Kd.R_alloc | apply Kd.R_drewN | apply Kd.R_drew)); exact Kd.R_mono HO115.out (fun _ hk => ⟨hk.1.2, hk.2⟩)⟩, ⟨by (with_reducible repeat (first | apply Kd.R_alloc | apply Kd.R_drewN | apply Kd.R_drew)); exact Kd.R_mono HO129.out (fun _ hk => ⟨hk.1.2, hk.2⟩)⟩, ⟨by (with_reducible repeat (first | apply Kd.R_alloc | apply Kd.R_drewN | apply Kd.R_drew)); exact Kd.R_mono HO143.out (fun _ hk => ⟨hk.1.2, hk.2⟩)⟩, ⟨by (with_reducible repeat (first | refine blk_drewN ?_ _ | refine blk_drew ?_ | refine blk_alloc ?_ _)); exact BK119.out⟩, ⟨by (with_reducible repeat (first | refine blk_drewN ?_ _ | refine blk_drew ?_ | refine blk_alloc ?_ _)); exact BK133.out⟩, ⟨by (with_reducible repeat (first | refine blk_drewN ?_ _ | refine blk_drew ?_ | refine blk_alloc ?_ _)); exact BK147.out⟩, ⟨by (with_reducible repeat (first | refine blk_drewN ?_ _ | refine blk_drew ?_ | refine blk_alloc ?_ _)); exact BK148.out⟩, ⟨by (with_reducible repeat (first | refine blk_drewN ?_ _ | refine blk_drew ?_ | refine blk_alloc ?_ _)); exact BK149.out⟩, ⟨by (with_reducible repeat (first | refine blk_drewN ?_ _ | refine blk_drew ?_ | refine blk_alloc ?_ _)); exact BK150.out⟩, ⟨by repeat (first | (with_reducible first | exact HB.out | apply below_alloc | apply pw_below_drewN | apply below_drew1 | refine below_set ?_ GE119.out | refine below_set ?_ GE133.out | refine below_set ?_ GE147.out | refine below_set ?_ GE148.out | refine below_set ?_ GE149.out | refine below_set ?_ GE150.out) | exact HB.out)⟩⟩
        case round =>
          clear H'
          try clear c1
          try clear c2
          try clear p2
          try clear c3
          try clear c6
          try clear c9
          try clear c10
          try clear c22
          try clear c24
          try clear c27
          try clear c28
          try clear c32
          try clear c33
          try clear c34
          try clear hcz18_0
          try clear hcz18_1
          try clear hcz18_2
          try clear hcz18_3
          try clear hcz18_4
          try clear hcz18_5
          try clear hcz18_6
          try clear hcz18_7
          try clear hcz18_8
          try clear hcz18_9
          try clear hcz23_0
          try clear hcz23_1
          try clear hcz23_2
          try clear hcz23_3
          try clear hcz23_4
          try clear hcz23_5
          try clear hcz23_6
          try clear hcz23_7
          try clear hcz23_8
          try clear hcz23_9
          try clear hcz29_0
          try clear hcz29_1
          try clear hcz29_2
          try clear hcz29_3
          try clear hcz29_4
          try clear hcz29_5
          try clear hcz29_6
          try clear hcz29_7
          try clear hcz29_8
          try clear hcz29_9
          try clear hfz18_0
          try clear hfz18_1
          try clear hfz18_2
          try clear hfz18_3
          try clear hfz18_4
          try clear hfz18_5
          try clear hfz18_6
          try clear hfz18_7
          try clear hfz18_8
          try clear hfz18_9
          try clear hfz23_0
          try clear hfz23_1
          try clear hfz23_2
          try clear hfz23_3
          try clear hfz23_4
          try clear hfz23_5
          try clear hfz23_6
          try clear hfz23_7
          try clear hfz23_8
          try clear hfz23_9
          try clear hfz29_0
          try clear hfz29_1
          try clear hfz29_2
          try clear hfz29_3
          try clear hfz29_4
          try clear hfz29_5
          try clear hfz29_6
          try clear hfz29_7
          try clear hfz29_8
          try clear hfz29_9
          try clear p2
          obtain ⟨x17_2, xa0_2, xa1_2, xa2_2, xa3_2, xa4_2, xa5_2, xa6_2, xa7_2, xa8_2, xa9_2, xb0_2, xb1_2, xb2_2, xb3_2, xb4_2, xb5_2, xb6_2, xb7_2, xb8_2, xb9_2, xc0_2, xc1_2, xc2_2, xc3_2, xc4_2, xc5_2, xc6_2, xc7_2, xc8_2, xc9_2, rfl, HA, HK2, HO_16, HO_120007, HO_134007, HO_148007, BK119, BK133, BK147, BK148, BK149, BK150, HB⟩ := hrel
          cases gk with
          | zero => exact absurd HA.out (by simp [pyxlaw13_ParamsFinds.l0])
          | succ k2 =>
            have H := HA.out
            clear HA
            simp only [pyxlaw13_ParamsFinds.l0] at H
            by_cases c35 : x17_2 < (t151.length : Int)
            · rw [if_pos c35] at H
              have c35b0 : decide (x17_2 < (t151.length : Int)) = true := decide_eq_true c35
              clear c35
              by_cases c36 : 0 ≤ x17_2
              rotate_left
              · rw [if_neg c36] at H
                exact absurd H (by simp)
              rw [if_pos c36] at H
              have c36b0 : decide (0 ≤ x17_2) = true := decide_eq_true c36
              clear c36
              have HC37 := Aside0.mk H
              clear H
              obtain ⟨Ao38, co38, eo38⟩ := Kd.R_slice HO_16.out
              subst eo38
              have p157 : 0 ≤ (x17_2 : Int) := of_decide_eq_true (by first | (with_reducible assumption) | assumption)
              have q157 : x17_2 < (t151.length : Int) := of_decide_eq_true (by first | (with_reducible assumption) | assumption)
              obtain ⟨ad157, e157, hx157_0, hx157_1, hx157_2, hx157_3, hx157_4, hx157_5, hx157_6, hx157_7, hx157_8, hx157_9⟩ := at_T42 (Kd.R_reads' HO_16.out).2.2 x17_2 p157 q157
              cases e157
              replace p157 := eq_true p157
              replace q157 := eq_true q157
              go_upto_if 54 with (fail)
              go_cut [] (fun wc => ∃ (kq : Nat) (xa0_36 : Int) (xa1_36 : Int) (xa2_36 : ByteArray) (xa3_36 : Int) (xa4_36 : Int) (xa5_36 : Int) (xa6_36 : Int) (xa7_36 : ByteArray) (xa8_36 : Int) (xa9_36 : Int), Aside0 (pyxlaw13_ParamsFinds.j2 kq a0 a1 a2 t118 t132 t146 t151 x17_2 t106 t107 t108 t109 t110 t111 t112 t113 t116 t117 t120 t121 t122 t123 t124 t125 t126 t127 t130 t131 t134 t135 t136 t137 t138 t139 t140 t141 t144 t145 xa0_36 xa1_36 xa2_36 xa3_36 xa4_36 xa5_36 xa6_36 xa7_36 xa8_36 xa9_36 xb0_2 xb1_2 xb2_2 xb3_2 xb4_2 xb5_2 xb6_2 xb7_2 xb8_2 xb9_2 xc0_2 xc1_2 xc2_2 xc3_2 xc4_2 xc5_2 xc6_2 xc7_2 xc8_2 xc9_2 = some r) ∧ Aside0 (kq ≤ k2) ∧ Aside0 (Kd.R k42 42 wc w.heap.size (fun k_ => k_ ≠ gb148 ∧ k_ ≠ gb149 ∧ k_ ≠ gb150) (.slice (some ad157) t151.length co38) t151) ∧ Aside0 (Kd.R (Kd.int .u32) 27 wc w.heap.size (fun k_ => some k_ ≠ ((.slice Ao24 t127.length co24) : Value).ownBlock ∧ some k_ ≠ ((.slice Ao30 t141.length co30) : Value).ownBlock) (.slice Ao19 t113.length co19) t113) ∧ Aside0 (Kd.R (Kd.int .u32) 27 wc w.heap.size (fun k_ => some k_ ≠ ((.slice Ao19 t113.length co19) : Value).ownBlock ∧ some k_ ≠ ((.slice Ao30 t141.length co30) : Value).ownBlock) (.slice Ao24 t127.length co24) t127) ∧ Aside0 (Kd.R (Kd.int .u32) 27 wc w.heap.size (fun k_ => some k_ ≠ ((.slice Ao19 t113.length co19) : Value).ownBlock ∧ some k_ ≠ ((.slice Ao24 t127.length co24) : Value).ownBlock) (.slice Ao30 t141.length co30) t141) ∧ Aside0 (wc.heap[gb119]? = some (.cells #[.int .i64 t106, .int .i64 t107, .string t108, .int .i64 t109, .int .i64 t110, .int .i64 t111, .int .i64 t112, (.slice Ao19 t113.length co19), .int .i64 t116, .int .u32 t117] 37 (0, 0))) ∧ Aside0 (wc.heap[gb133]? = some (.cells #[.int .i64 t120, .int .i64 t121, .string t122, .int .i64 t123, .int .i64 t124, .int .i64 t125, .int .i64 t126, (.slice Ao24 t127.length co24), .int .i64 t130, .int .u32 t131] 37 (0, 0))) ∧ Aside0 (wc.heap[gb147]? = some (.cells #[.int .i64 t134, .int .i64 t135, .string t136, .int .i64 t137, .int .i64 t138, .int .i64 t139, .int .i64 t140, (.slice Ao30 t141.length co30), .int .i64 t144, .int .u32 t145] 37 (0, 0))) ∧ Aside0 (wc.heap[gb148]? = some (.cells #[.int .i64 xa0_36, .int .i64 xa1_36, .string xa2_36, .int .i64 xa3_36, .int .i64 xa4_36, .int .i64 xa5_36, .int .i64 xa6_36, .string xa7_36, .int .i64 xa8_36, .int .u32 xa9_36] 42 (0, 0))) ∧ Aside0 (wc.heap[gb149]? = some (.cells #[.int .i64 xb0_2, .int .i64 xb1_2, .string xb2_2, .int .i64 xb3_2, .int .i64 xb4_2, .int .i64 xb5_2, .int .i64 xb6_2, .string xb7_2, .int .i64 xb8_2, .int .u32 xb9_2] 42 (0, 0))) ∧ Aside0 (wc.heap[gb150]? = some (.cells #[.int .i64 xc0_2, .int .i64 xc1_2, .string xc2_2, .int .i64 xc3_2, .int .i64 xc4_2, .int .i64 xc5_2, .int .i64 xc6_2, .string xc7_2, .int .i64 xc8_2, .int .u32 xc9_2] 42 (0, 0))) ∧ Aside0 (Below w.heap.size w wc))
              case first =>
                have H := HC37.out
                clear HC37
                by_cases c39 : ((rd_T42 t151 x17_2).f2).toList = a0.toList
                · rw [if_pos c39] at H
                  have c39b0 : (((rd_T42 t151 x17_2).f2).toList == a0.toList) = true := beq_iff_eq.mpr c39
                  have c39b1 : (((rd_T42 t151 x17_2).f2).toList != a0.toList) = false := bne_eq_false_iff_eq.mpr c39
                  clear c39
                  (first | rw [c39b0] | (simp only [i64_w, i32_w]; rw [c39b0]) | skip)
                  have H' := Aside0.mk H
                  clear H
                  have p158 : 0 ≤ (x17_2 : Int) := of_decide_eq_true (by first | (with_reducible assumption) | assumption)
                  have q158 : x17_2 < (t151.length : Int) := of_decide_eq_true (by first | (with_reducible assumption) | assumption)
                  obtain ⟨ad158, e158, hx158_0, hx158_1, hx158_2, hx158_3, hx158_4, hx158_5, hx158_6, hx158_7, hx158_8, hx158_9⟩ := at_T42 (Kd.R_reads' HO_16.out).2.2 x17_2 p158 q158
                  obtain rfl : ad157 = ad158 := (by injection e158)
                  replace p158 := eq_true p158
                  replace q158 := eq_true q158
                  have hnb40 := NB148_119.out
                  have hnc40 := NB119_148.out
                  have hnb41 := NB148_133.out
                  have hnc41 := NB133_148.out
                  have hnb42 := NB148_147.out
                  have hnc42 := NB147_148.out
                  have hnb43 := NB148_149.out
                  have hnc43 := NB149_148.out
                  have hnb44 := NB148_150.out
                  have hnc44 := NB150_148.out
                  have hcz45_0 : wr.cell? ⟨gb148, 0, none⟩ = some (.int .i64 xa0_2) := (blk_cell BK148.out 0).trans rfl
                  have hcz45_1 : wr.cell? ⟨gb148, 1, none⟩ = some (.int .i64 xa1_2) := (blk_cell BK148.out 1).trans rfl
                  have hcz45_2 : wr.cell? ⟨gb148, 2, none⟩ = some (.string xa2_2) := (blk_cell BK148.out 2).trans rfl
                  have hcz45_3 : wr.cell? ⟨gb148, 3, none⟩ = some (.int .i64 xa3_2) := (blk_cell BK148.out 3).trans rfl
                  have hcz45_4 : wr.cell? ⟨gb148, 4, none⟩ = some (.int .i64 xa4_2) := (blk_cell BK148.out 4).trans rfl
                  have hcz45_5 : wr.cell? ⟨gb148, 5, none⟩ = some (.int .i64 xa5_2) := (blk_cell BK148.out 5).trans rfl
                  have hcz45_6 : wr.cell? ⟨gb148, 6, none⟩ = some (.int .i64 xa6_2) := (blk_cell BK148.out 6).trans rfl
                  have hcz45_7 : wr.cell? ⟨gb148, 7, none⟩ = some (.string xa7_2) := (blk_cell BK148.out 7).trans rfl
                  have hcz45_8 : wr.cell? ⟨gb148, 8, none⟩ = some (.int .i64 xa8_2) := (blk_cell BK148.out 8).trans rfl
                  have hcz45_9 : wr.cell? ⟨gb148, 9, none⟩ = some (.int .u32 xa9_2) := (blk_cell BK148.out 9).trans rfl
                  have hfz45_0 := blk_frozen BK148.out 0
                  have hfz45_1 := blk_frozen BK148.out 1
                  have hfz45_2 := blk_frozen BK148.out 2
                  have hfz45_3 := blk_frozen BK148.out 3
                  have hfz45_4 := blk_frozen BK148.out 4
                  have hfz45_5 := blk_frozen BK148.out 5
                  have hfz45_6 := blk_frozen BK148.out 6
                  have hfz45_7 := blk_frozen BK148.out 7
                  have hfz45_8 := blk_frozen BK148.out 8
                  have hfz45_9 := blk_frozen BK148.out 9
                  go_wp2
                  have ST := Hand.store10 wr gb148 42 (.int .i64 xa0_2) (.int .i64 xa1_2) (.string xa2_2) (.int .i64 xa3_2) (.int .i64 xa4_2) (.int .i64 xa5_2) (.int .i64 xa6_2) (.string xa7_2) (.int .i64 xa8_2) (.int .u32 xa9_2) (.int .i64 ((rd_T42 t151 x17_2).f0)) (.int .i64 ((rd_T42 t151 x17_2).f1)) (.string ((rd_T42 t151 x17_2).f2)) (.int .i64 ((rd_T42 t151 x17_2).f3)) (.int .i64 ((rd_T42 t151 x17_2).f4)) (.int .i64 ((rd_T42 t151 x17_2).f5)) (.int .i64 ((rd_T42 t151 x17_2).f6)) (.string ((rd_T42 t151 x17_2).f7)) (.int .i64 ((rd_T42 t151 x17_2).f8)) (.int .u32 ((rd_T42 t151 x17_2).f9)) BK148.out
                  generalize (((((((((wr.setCell ⟨gb148, 0, none⟩ (.int .i64 ((rd_T42 t151 x17_2).f0))).setCell ⟨gb148, 1, none⟩ (.int .i64 ((rd_T42 t151 x17_2).f1))).setCell ⟨gb148, 2, none⟩ (.string ((rd_T42 t151 x17_2).f2))).setCell ⟨gb148, 3, none⟩ (.int .i64 ((rd_T42 t151 x17_2).f3))).setCell ⟨gb148, 4, none⟩ (.int .i64 ((rd_T42 t151 x17_2).f4))).setCell ⟨gb148, 5, none⟩ (.int .i64 ((rd_T42 t151 x17_2).f5))).setCell ⟨gb148, 6, none⟩ (.int .i64 ((rd_T42 t151 x17_2).f6))).setCell ⟨gb148, 7, none⟩ (.string ((rd_T42 t151 x17_2).f7))).setCell ⟨gb148, 8, none⟩ (.int .i64 ((rd_T42 t151 x17_2).f8))).setCell ⟨gb148, 9, none⟩ (.int .u32 ((rd_T42 t151 x17_2).f9)) = ws_ at ST ⊢
                  go_meet
                  case rel => exact ⟨_, ((rd_T42 t151 x17_2).f0), ((rd_T42 t151 x17_2).f1), ((rd_T42 t151 x17_2).f2), ((rd_T42 t151 x17_2).f3), ((rd_T42 t151 x17_2).f4), ((rd_T42 t151 x17_2).f5), ((rd_T42 t151 x17_2).f6), ((rd_T42 t151 x17_2).f7), ((rd_T42 t151 x17_2).f8), ((rd_T42 t151 x17_2).f9), H', ⟨by have := HJ3.out; have := HK2.out; first | omega | exact Nat.le_refl _⟩, ⟨Kd.R_step HO_16.out (fun k_ hk _ => ST.2.1 k_ hk.1)⟩, ⟨Kd.R_mono (Kd.R_step (Kd.R_types HO_120007.out BK148.out (by decide)) (fun k_ hk _ => ST.2.1 k_ hk.2)) (fun _ hk => hk.1)⟩, ⟨Kd.R_mono (Kd.R_step (Kd.R_types HO_134007.out BK148.out (by decide)) (fun k_ hk _ => ST.2.1 k_ hk.2)) (fun _ hk => hk.1)⟩, ⟨Kd.R_mono (Kd.R_step (Kd.R_types HO_148007.out BK148.out (by decide)) (fun k_ hk _ => ST.2.1 k_ hk.2)) (fun _ hk => hk.1)⟩, ⟨(ST.2.1 gb119 NB119_148.out).trans BK119.out⟩, ⟨(ST.2.1 gb133 NB133_148.out).trans BK133.out⟩, ⟨(ST.2.1 gb147 NB147_148.out).trans BK147.out⟩, ⟨ST.1⟩, ⟨(ST.2.1 gb149 NB149_148.out).trans BK149.out⟩, ⟨(ST.2.1 gb150 NB150_148.out).trans BK150.out⟩, ⟨ST.2.2 _ HB.out GE148.out⟩⟩
                · rw [if_neg c39] at H
                  have c39b0 : (((rd_T42 t151 x17_2).f2).toList == a0.toList) = false := beq_eq_false_iff_ne.mpr c39
                  have c39b1 : (((rd_T42 t151 x17_2).f2).toList != a0.toList) = true := bne_iff_ne.mpr c39
                  (first | rw [c39b0] | (simp only [i64_w, i32_w]; rw [c39b0]) | skip)
                  have H' := Aside0.mk H
                  clear H
                  go_wp2
                  go_meet
                  case rel => exact ⟨_, (xa0_2), (xa1_2), (xa2_2), (xa3_2), (xa4_2), (xa5_2), (xa6_2), (xa7_2), (xa8_2), (xa9_2), H', ⟨by have := HJ3.out; have := HK2.out; first | omega | exact Nat.le_refl _⟩, ⟨by (with_reducible repeat (first | apply Kd.R_alloc | apply Kd.R_drewN | apply Kd.R_drew)); exact HO_16.out⟩, ⟨by (with_reducible repeat (first | apply Kd.R_alloc | apply Kd.R_drewN | apply Kd.R_drew)); exact HO_120007.out⟩, ⟨by (with_reducible repeat (first | apply Kd.R_alloc | apply Kd.R_drewN | apply Kd.R_drew)); exact HO_134007.out⟩, ⟨by (with_reducible repeat (first | apply Kd.R_alloc | apply Kd.R_drewN | apply Kd.R_drew)); exact HO_148007.out⟩, ⟨by (with_reducible repeat (first | refine blk_drewN ?_ _ | refine blk_drew ?_ | refine blk_alloc ?_ _)); exact BK119.out⟩, ⟨by (with_reducible repeat (first | refine blk_drewN ?_ _ | refine blk_drew ?_ | refine blk_alloc ?_ _)); exact BK133.out⟩, ⟨by (with_reducible repeat (first | refine blk_drewN ?_ _ | refine blk_drew ?_ | refine blk_alloc ?_ _)); exact BK147.out⟩, ⟨by (with_reducible repeat (first | refine blk_drewN ?_ _ | refine blk_drew ?_ | refine blk_alloc ?_ _)); exact BK148.out⟩, ⟨by (with_reducible repeat (first | refine blk_drewN ?_ _ | refine blk_drew ?_ | refine blk_alloc ?_ _)); exact BK149.out⟩, ⟨by (with_reducible repeat (first | refine blk_drewN ?_ _ | refine blk_drew ?_ | refine blk_alloc ?_ _)); exact BK150.out⟩, ⟨by repeat (first | (with_reducible first | exact HB.out | apply below_alloc | apply pw_below_drewN | apply below_drew1 | refine below_set ?_ GE119.out | refine below_set ?_ GE133.out | refine below_set ?_ GE147.out | refine below_set ?_ GE148.out | refine below_set ?_ GE149.out | refine below_set ?_ GE150.out) | exact HB.out)⟩⟩
              case rest =>
                clear HC37
                try clear c1
                try clear p1
                try clear q1
                try clear hx1
                try clear c2
                try clear p2
                try clear c3
                try clear c4
                try clear c6
                try clear c9
                try clear c10
                try clear p15
                try clear q15
                try clear hx15
                try clear c22
                try clear c24
                try clear c27
                try clear c28
                try clear c32
                try clear c33
                try clear c34
                try clear c35
                try clear c35b0
                try clear c36
                try clear c36b0
                try clear c39
                try clear c39b0
                try clear c39b1
                try clear c40
                try clear c41
                try clear c42
                try clear c43
                try clear c44
                try clear hcz18_0
                try clear hcz18_1
                try clear hcz18_2
                try clear hcz18_3
                try clear hcz18_4
                try clear hcz18_5
                try clear hcz18_6
                try clear hcz18_7
                try clear hcz18_8
                try clear hcz18_9
                try clear hcz23_0
                try clear hcz23_1
                try clear hcz23_2
                try clear hcz23_3
                try clear hcz23_4
                try clear hcz23_5
                try clear hcz23_6
                try clear hcz23_7
                try clear hcz23_8
                try clear hcz23_9
                try clear hcz29_0
                try clear hcz29_1
                try clear hcz29_2
                try clear hcz29_3
                try clear hcz29_4
                try clear hcz29_5
                try clear hcz29_6
                try clear hcz29_7
                try clear hcz29_8
                try clear hcz29_9
                try clear hcz45_0
                try clear hcz45_1
                try clear hcz45_2
                try clear hcz45_3
                try clear hcz45_4
                try clear hcz45_5
                try clear hcz45_6
                try clear hcz45_7
                try clear hcz45_8
                try clear hcz45_9
                try clear hfz18_0
                try clear hfz18_1
                try clear hfz18_2
                try clear hfz18_3
                try clear hfz18_4
                try clear hfz18_5
                try clear hfz18_6
                try clear hfz18_7
                try clear hfz18_8
                try clear hfz18_9
                try clear hfz23_0
                try clear hfz23_1
                try clear hfz23_2
                try clear hfz23_3
                try clear hfz23_4
                try clear hfz23_5
                try clear hfz23_6
                try clear hfz23_7
                try clear hfz23_8
                try clear hfz23_9
                try clear hfz29_0
                try clear hfz29_1
                try clear hfz29_2
                try clear hfz29_3
                try clear hfz29_4
                try clear hfz29_5
                try clear hfz29_6
                try clear hfz29_7
                try clear hfz29_8
                try clear hfz29_9
                try clear hfz45_0
                try clear hfz45_1
                try clear hfz45_2
                try clear hfz45_3
                try clear hfz45_4
                try clear hfz45_5
                try clear hfz45_6
                try clear hfz45_7
                try clear hfz45_8
                try clear hfz45_9
                try clear hx157_0
                try clear hx157_1
                try clear hx157_2
                try clear hx157_3
                try clear hx157_4
                try clear hx157_5
                try clear hx157_6
                try clear hx157_7
                try clear hx157_8
                try clear hx157_9
                try clear hx158_0
                try clear hx158_1
                try clear hx158_2
                try clear hx158_3
                try clear hx158_4
                try clear hx158_5
                try clear hx158_6
                try clear hx158_7
                try clear hx158_8
                try clear hx158_9
                try clear p157
                try clear p158
                try clear p2
                try clear q157
                try clear q158
                obtain ⟨kq, xa0_36, xa1_36, xa2_36, xa3_36, xa4_36, xa5_36, xa6_36, xa7_36, xa8_36, xa9_36, HA, HJ36, HO_16, HO_120007, HO_134007, HO_148007, BK119, BK133, BK147, BK148, BK149, BK150, HB⟩ := hcut
                cases kq with
                | zero => exact absurd HA.out (by simp [pyxlaw13_ParamsFinds.j2])
                | succ kj36 =>
                  have H := HA.out
                  clear HA
                  simp only [pyxlaw13_ParamsFinds.j2] at H
                  have HC46 := Aside0.mk H
                  clear H
                  go_upto_region 15 with (fail)
                  go_cut [69] (fun v69 wc => ∃ (kq : Nat) (x69_45 : Bool), v69 = .bool x69_45 ∧ Aside0 (pyxlaw13_ParamsFinds.j3 kq a0 a1 a2 t118 t132 t146 t151 x17_2 x69_45 t106 t107 t108 t109 t110 t111 t112 t113 t116 t117 t120 t121 t122 t123 t124 t125 t126 t127 t130 t131 t134 t135 t136 t137 t138 t139 t140 t141 t144 t145 xa0_36 xa1_36 xa2_36 xa3_36 xa4_36 xa5_36 xa6_36 xa7_36 xa8_36 xa9_36 xb0_2 xb1_2 xb2_2 xb3_2 xb4_2 xb5_2 xb6_2 xb7_2 xb8_2 xb9_2 xc0_2 xc1_2 xc2_2 xc3_2 xc4_2 xc5_2 xc6_2 xc7_2 xc8_2 xc9_2 = some r) ∧ Aside0 (kq ≤ kj36) ∧ Aside0 (Kd.R k42 42 wc w.heap.size (fun k_ => k_ ≠ gb148 ∧ k_ ≠ gb149 ∧ k_ ≠ gb150) (.slice (some ad157) t151.length co38) t151) ∧ Aside0 (Kd.R (Kd.int .u32) 27 wc w.heap.size (fun k_ => some k_ ≠ ((.slice Ao24 t127.length co24) : Value).ownBlock ∧ some k_ ≠ ((.slice Ao30 t141.length co30) : Value).ownBlock) (.slice Ao19 t113.length co19) t113) ∧ Aside0 (Kd.R (Kd.int .u32) 27 wc w.heap.size (fun k_ => some k_ ≠ ((.slice Ao19 t113.length co19) : Value).ownBlock ∧ some k_ ≠ ((.slice Ao30 t141.length co30) : Value).ownBlock) (.slice Ao24 t127.length co24) t127) ∧ Aside0 (Kd.R (Kd.int .u32) 27 wc w.heap.size (fun k_ => some k_ ≠ ((.slice Ao19 t113.length co19) : Value).ownBlock ∧ some k_ ≠ ((.slice Ao24 t127.length co24) : Value).ownBlock) (.slice Ao30 t141.length co30) t141) ∧ Aside0 (wc.heap[gb119]? = some (.cells #[.int .i64 t106, .int .i64 t107, .string t108, .int .i64 t109, .int .i64 t110, .int .i64 t111, .int .i64 t112, (.slice Ao19 t113.length co19), .int .i64 t116, .int .u32 t117] 37 (0, 0))) ∧ Aside0 (wc.heap[gb133]? = some (.cells #[.int .i64 t120, .int .i64 t121, .string t122, .int .i64 t123, .int .i64 t124, .int .i64 t125, .int .i64 t126, (.slice Ao24 t127.length co24), .int .i64 t130, .int .u32 t131] 37 (0, 0))) ∧ Aside0 (wc.heap[gb147]? = some (.cells #[.int .i64 t134, .int .i64 t135, .string t136, .int .i64 t137, .int .i64 t138, .int .i64 t139, .int .i64 t140, (.slice Ao30 t141.length co30), .int .i64 t144, .int .u32 t145] 37 (0, 0))) ∧ Aside0 (wc.heap[gb148]? = some (.cells #[.int .i64 xa0_36, .int .i64 xa1_36, .string xa2_36, .int .i64 xa3_36, .int .i64 xa4_36, .int .i64 xa5_36, .int .i64 xa6_36, .string xa7_36, .int .i64 xa8_36, .int .u32 xa9_36] 42 (0, 0))) ∧ Aside0 (wc.heap[gb149]? = some (.cells #[.int .i64 xb0_2, .int .i64 xb1_2, .string xb2_2, .int .i64 xb3_2, .int .i64 xb4_2, .int .i64 xb5_2, .int .i64 xb6_2, .string xb7_2, .int .i64 xb8_2, .int .u32 xb9_2] 42 (0, 0))) ∧ Aside0 (wc.heap[gb150]? = some (.cells #[.int .i64 xc0_2, .int .i64 xc1_2, .string xc2_2, .int .i64 xc3_2, .int .i64 xc4_2, .int .i64 xc5_2, .int .i64 xc6_2, .string xc7_2, .int .i64 xc8_2, .int .u32 xc9_2] 42 (0, 0))) ∧ Aside0 (Below w.heap.size w wc))
                  case first =>
                    have H := HC46.out
                    clear HC46
                    by_cases c47 : a1 = 0
                    · rw [if_pos c47] at H
                      have c47b0 : (a1 == 0) = true := beq_iff_eq.mpr c47
                      have c47b1 : (a1 != 0) = false := bne_eq_false_iff_eq.mpr c47
                      clear c47
                      (first | rw [c47b0] | (simp only [i64_w, i32_w]; rw [c47b0]) | skip)
                      have H' := Aside0.mk H
                      clear H
                      go_wp2
                      go_meet
                      case rel => exact ⟨_, (false), (by first | rfl | (simp; done) | (simp [*]; done)), H', ⟨by have := HJ3.out; have := HK2.out; have := HJ36.out; first | omega | exact Nat.le_refl _⟩, ⟨by (with_reducible repeat (first | apply Kd.R_alloc | apply Kd.R_drewN | apply Kd.R_drew)); exact HO_16.out⟩, ⟨by (with_reducible repeat (first | apply Kd.R_alloc | apply Kd.R_drewN | apply Kd.R_drew)); exact HO_120007.out⟩, ⟨by (with_reducible repeat (first | apply Kd.R_alloc | apply Kd.R_drewN | apply Kd.R_drew)); exact HO_134007.out⟩, ⟨by (with_reducible repeat (first | apply Kd.R_alloc | apply Kd.R_drewN | apply Kd.R_drew)); exact HO_148007.out⟩, ⟨by (with_reducible repeat (first | refine blk_drewN ?_ _ | refine blk_drew ?_ | refine blk_alloc ?_ _)); exact BK119.out⟩, ⟨by (with_reducible repeat (first | refine blk_drewN ?_ _ | refine blk_drew ?_ | refine blk_alloc ?_ _)); exact BK133.out⟩, ⟨by (with_reducible repeat (first | refine blk_drewN ?_ _ | refine blk_drew ?_ | refine blk_alloc ?_ _)); exact BK147.out⟩, ⟨by (with_reducible repeat (first | refine blk_drewN ?_ _ | refine blk_drew ?_ | refine blk_alloc ?_ _)); exact BK148.out⟩, ⟨by (with_reducible repeat (first | refine blk_drewN ?_ _ | refine blk_drew ?_ | refine blk_alloc ?_ _)); exact BK149.out⟩, ⟨by (with_reducible repeat (first | refine blk_drewN ?_ _ | refine blk_drew ?_ | refine blk_alloc ?_ _)); exact BK150.out⟩, ⟨by repeat (first | (with_reducible first | exact HB.out | apply below_alloc | apply pw_below_drewN | apply below_drew1 | refine below_set ?_ GE119.out | refine below_set ?_ GE133.out | refine below_set ?_ GE147.out | refine below_set ?_ GE148.out | refine below_set ?_ GE149.out | refine below_set ?_ GE150.out) | exact HB.out)⟩⟩
                    · rw [if_neg c47] at H
                      have c47b0 : (a1 == 0) = false := beq_eq_false_iff_ne.mpr c47
                      have c47b1 : (a1 != 0) = true := bne_iff_ne.mpr c47
                      (first | rw [c47b0] | (simp only [i64_w, i32_w]; rw [c47b0]) | skip)
                      by_cases c48 : 0 ≤ x17_2
                      rotate_left
                      · rw [if_neg c48] at H
                        exact absurd H (by simp)
                      rw [if_pos c48] at H
                      have c48b0 : decide (0 ≤ x17_2) = true := decide_eq_true c48
                      clear c48
                      by_cases c49 : x17_2 < (t151.length : Int)
                      rotate_left
                      · rw [if_neg c49] at H
                        exact absurd H (by simp)
                      rw [if_pos c49] at H
                      have c49b0 : decide (x17_2 < (t151.length : Int)) = true := decide_eq_true c49
                      clear c49
                      have H' := Aside0.mk H
                      clear H
                      have p159 : 0 ≤ (x17_2 : Int) := of_decide_eq_true (by first | (with_reducible assumption) | assumption)
                      have q159 : x17_2 < (t151.length : Int) := of_decide_eq_true (by first | (with_reducible assumption) | assumption)
                      obtain ⟨ad159, e159, hx159_0, hx159_1, hx159_2, hx159_3, hx159_4, hx159_5, hx159_6, hx159_7, hx159_8, hx159_9⟩ := at_T42 (Kd.R_reads' HO_16.out).2.2 x17_2 p159 q159
                      obtain rfl : ad157 = ad159 := (by injection e159)
                      replace p159 := eq_true p159
                      replace q159 := eq_true q159
                      go_wp2
                      go_meet
                      case rel => exact ⟨_, ((((rd_T42 t151 x17_2).f8) == a1)), (by first | rfl | (simp; done) | (simp [*]; done)), H', ⟨by have := HJ3.out; have := HK2.out; have := HJ36.out; first | omega | exact Nat.le_refl _⟩, ⟨by (with_reducible repeat (first | apply Kd.R_alloc | apply Kd.R_drewN | apply Kd.R_drew)); exact HO_16.out⟩, ⟨by (with_reducible repeat (first | apply Kd.R_alloc | apply Kd.R_drewN | apply Kd.R_drew)); exact HO_120007.out⟩, ⟨by (with_reducible repeat (first | apply Kd.R_alloc | apply Kd.R_drewN | apply Kd.R_drew)); exact HO_134007.out⟩, ⟨by (with_reducible repeat (first | apply Kd.R_alloc | apply Kd.R_drewN | apply Kd.R_drew)); exact HO_148007.out⟩, ⟨by (with_reducible repeat (first | refine blk_drewN ?_ _ | refine blk_drew ?_ | refine blk_alloc ?_ _)); exact BK119.out⟩, ⟨by (with_reducible repeat (first | refine blk_drewN ?_ _ | refine blk_drew ?_ | refine blk_alloc ?_ _)); exact BK133.out⟩, ⟨by (with_reducible repeat (first | refine blk_drewN ?_ _ | refine blk_drew ?_ | refine blk_alloc ?_ _)); exact BK147.out⟩, ⟨by (with_reducible repeat (first | refine blk_drewN ?_ _ | refine blk_drew ?_ | refine blk_alloc ?_ _)); exact BK148.out⟩, ⟨by (with_reducible repeat (first | refine blk_drewN ?_ _ | refine blk_drew ?_ | refine blk_alloc ?_ _)); exact BK149.out⟩, ⟨by (with_reducible repeat (first | refine blk_drewN ?_ _ | refine blk_drew ?_ | refine blk_alloc ?_ _)); exact BK150.out⟩, ⟨by repeat (first | (with_reducible first | exact HB.out | apply below_alloc | apply pw_below_drewN | apply below_drew1 | refine below_set ?_ GE119.out | refine below_set ?_ GE133.out | refine below_set ?_ GE147.out | refine below_set ?_ GE148.out | refine below_set ?_ GE149.out | refine below_set ?_ GE150.out) | exact HB.out)⟩⟩
                  case rest =>
                    clear HC46
                    try clear c1
                    try clear p1
                    try clear q1
                    try clear hx1
                    try clear c2
                    try clear p2
                    try clear c3
                    try clear c4
                    try clear c6
                    try clear c9
                    try clear c10
                    try clear p15
                    try clear q15
                    try clear hx15
                    try clear c22
                    try clear c24
                    try clear c27
                    try clear c28
                    try clear c32
                    try clear c33
                    try clear c34
                    try clear c35
                    try clear c35b0
                    try clear c36
                    try clear c36b0
                    try clear c39
                    try clear c39b0
                    try clear c39b1
                    try clear c40
                    try clear c41
                    try clear c42
                    try clear c43
                    try clear c44
                    try clear c47
                    try clear c47b0
                    try clear c47b1
                    try clear c48
                    try clear c48b0
                    try clear c49
                    try clear c49b0
                    try clear hcz18_0
                    try clear hcz18_1
                    try clear hcz18_2
                    try clear hcz18_3
                    try clear hcz18_4
                    try clear hcz18_5
                    try clear hcz18_6
                    try clear hcz18_7
                    try clear hcz18_8
                    try clear hcz18_9
                    try clear hcz23_0
                    try clear hcz23_1
                    try clear hcz23_2
                    try clear hcz23_3
                    try clear hcz23_4
                    try clear hcz23_5
                    try clear hcz23_6
                    try clear hcz23_7
                    try clear hcz23_8
                    try clear hcz23_9
                    try clear hcz29_0
                    try clear hcz29_1
                    try clear hcz29_2
                    try clear hcz29_3
                    try clear hcz29_4
                    try clear hcz29_5
                    try clear hcz29_6
                    try clear hcz29_7
                    try clear hcz29_8
                    try clear hcz29_9
                    try clear hcz45_0
                    try clear hcz45_1
                    try clear hcz45_2
                    try clear hcz45_3
                    try clear hcz45_4
                    try clear hcz45_5
                    try clear hcz45_6
                    try clear hcz45_7
                    try clear hcz45_8
                    try clear hcz45_9
                    try clear hfz18_0
                    try clear hfz18_1
                    try clear hfz18_2
                    try clear hfz18_3
                    try clear hfz18_4
                    try clear hfz18_5
                    try clear hfz18_6
                    try clear hfz18_7
                    try clear hfz18_8
                    try clear hfz18_9
                    try clear hfz23_0
                    try clear hfz23_1
                    try clear hfz23_2
                    try clear hfz23_3
                    try clear hfz23_4
                    try clear hfz23_5
                    try clear hfz23_6
                    try clear hfz23_7
                    try clear hfz23_8
                    try clear hfz23_9
                    try clear hfz29_0
                    try clear hfz29_1
                    try clear hfz29_2
                    try clear hfz29_3
                    try clear hfz29_4
                    try clear hfz29_5
                    try clear hfz29_6
                    try clear hfz29_7
                    try clear hfz29_8
                    try clear hfz29_9
                    try clear hfz45_0
                    try clear hfz45_1
                    try clear hfz45_2
                    try clear hfz45_3
                    try clear hfz45_4
                    try clear hfz45_5
                    try clear hfz45_6
                    try clear hfz45_7
                    try clear hfz45_8
                    try clear hfz45_9
                    try clear hx157_0
                    try clear hx157_1
                    try clear hx157_2
                    try clear hx157_3
                    try clear hx157_4
                    try clear hx157_5
                    try clear hx157_6
                    try clear hx157_7
                    try clear hx157_8
                    try clear hx157_9
                    try clear hx158_0
                    try clear hx158_1
                    try clear hx158_2
                    try clear hx158_3
                    try clear hx158_4
                    try clear hx158_5
                    try clear hx158_6
                    try clear hx158_7
                    try clear hx158_8
                    try clear hx158_9
                    try clear hx159_0
                    try clear hx159_1
                    try clear hx159_2
                    try clear hx159_3
                    try clear hx159_4
                    try clear hx159_5
                    try clear hx159_6
                    try clear hx159_7
                    try clear hx159_8
                    try clear hx159_9
                    try clear p1
                    try clear p15
                    try clear p157
                    try clear p158
                    try clear p159
                    try clear p2
                    try clear q1
                    try clear q15
                    try clear q157
                    try clear q158
                    try clear q159
                    obtain ⟨kq, x69_45, rfl, HA, HJ45, HO_16, HO_120007, HO_134007, HO_148007, BK119, BK133, BK147, BK148, BK149, BK150, HB⟩ := hcut
                    cases kq with
                    | zero => exact absurd HA.out (by simp [pyxlaw13_ParamsFinds.j3])
                    | succ kj45 =>
                      have H := HA.out
                      clear HA
                      simp only [pyxlaw13_ParamsFinds.j3] at H
                      by_cases c50 : x69_45 = true
                      · subst c50
                        have H1 : (if 0 ≤ x17_2 then (if x17_2 < (t151.length : Int) then (if a2 = 0 then (pyxlaw13_ParamsFinds.l0 kj45 a0 a1 a2 t118 t132 t146 t151 (wrap64 (x17_2 + 1)) t106 t107 t108 t109 t110 t111 t112 t113 t116 t117 t120 t121 t122 t123 t124 t125 t126 t127 t130 t131 t134 t135 t136 t137 t138 t139 t140 t141 t144 t145 xa0_36 xa1_36 xa2_36 xa3_36 xa4_36 xa5_36 xa6_36 xa7_36 xa8_36 xa9_36 ((rd_T42 t151 x17_2).f0) ((rd_T42 t151 x17_2).f1) ((rd_T42 t151 x17_2).f2) ((rd_T42 t151 x17_2).f3) ((rd_T42 t151 x17_2).f4) ((rd_T42 t151 x17_2).f5) ((rd_T42 t151 x17_2).f6) ((rd_T42 t151 x17_2).f7) ((rd_T42 t151 x17_2).f8) ((rd_T42 t151 x17_2).f9) xc0_2 xc1_2 xc2_2 xc3_2 xc4_2 xc5_2 xc6_2 xc7_2 xc8_2 xc9_2) else (if ((rd_T42 t151 x17_2).f9) = a2 then (none) else (pyxlaw13_ParamsFinds.l0 kj45 a0 a1 a2 t118 t132 t146 t151 (wrap64 (x17_2 + 1)) t106 t107 t108 t109 t110 t111 t112 t113 t116 t117 t120 t121 t122 t123 t124 t125 t126 t127 t130 t131 t134 t135 t136 t137 t138 t139 t140 t141 t144 t145 xa0_36 xa1_36 xa2_36 xa3_36 xa4_36 xa5_36 xa6_36 xa7_36 xa8_36 xa9_36 ((rd_T42 t151 x17_2).f0) ((rd_T42 t151 x17_2).f1) ((rd_T42 t151 x17_2).f2) ((rd_T42 t151 x17_2).f3) ((rd_T42 t151 x17_2).f4) ((rd_T42 t151 x17_2).f5) ((rd_T42 t151 x17_2).f6) ((rd_T42 t151 x17_2).f7) ((rd_T42 t151 x17_2).f8) ((rd_T42 t151 x17_2).f9) xc0_2 xc1_2 xc2_2 xc3_2 xc4_2 xc5_2 xc6_2 xc7_2 xc8_2 xc9_2))) else (none)) else (none)) = some r := by rw [if_pos rfl] at H; exact H
                        clear H
                        have H := H1
                        clear H1
                        by_cases c51 : 0 ≤ x17_2
                        rotate_left
                        · rw [if_neg c51] at H
                          exact absurd H (by simp)
                        rw [if_pos c51] at H
                        have c51b0 : decide (0 ≤ x17_2) = true := decide_eq_true c51
                        clear c51
                        by_cases c52 : x17_2 < (t151.length : Int)
                        rotate_left
                        · rw [if_neg c52] at H
                          exact absurd H (by simp)
                        rw [if_pos c52] at H
                        have c52b0 : decide (x17_2 < (t151.length : Int)) = true := decide_eq_true c52
                        clear c52
                        by_cases c53 : a2 = 0
                        · rw [if_pos c53] at H
                          have c53b0 : (a2 == 0) = true := beq_iff_eq.mpr c53
                          have c53b1 : (a2 != 0) = false := bne_eq_false_iff_eq.mpr c53
                          clear c53
                          have H' := Aside0.mk H
                          clear H
                          have p160 : 0 ≤ (x17_2 : Int) := of_decide_eq_true (by first | (with_reducible assumption) | assumption)
                          have q160 : x17_2 < (t151.length : Int) := of_decide_eq_true (by first | (with_reducible assumption) | assumption)
                          obtain ⟨ad160, e160, hx160_0, hx160_1, hx160_2, hx160_3, hx160_4, hx160_5, hx160_6, hx160_7, hx160_8, hx160_9⟩ := at_T42 (Kd.R_reads' HO_16.out).2.2 x17_2 p160 q160
                          obtain rfl : ad157 = ad160 := (by injection e160)
                          replace p160 := eq_true p160
                          replace q160 := eq_true q160
                          have hnb54 := NB149_119.out
                          have hnc54 := NB119_149.out
                          have hnb55 := NB149_133.out
                          have hnc55 := NB133_149.out
                          have hnb56 := NB149_147.out
                          have hnc56 := NB147_149.out
                          have hnb57 := NB149_148.out
                          have hnc57 := NB148_149.out
                          have hnb58 := NB149_150.out
                          have hnc58 := NB150_149.out
                          have hcz59_0 : wc.cell? ⟨gb149, 0, none⟩ = some (.int .i64 xb0_2) := (blk_cell BK149.out 0).trans rfl
                          have hcz59_1 : wc.cell? ⟨gb149, 1, none⟩ = some (.int .i64 xb1_2) := (blk_cell BK149.out 1).trans rfl
                          have hcz59_2 : wc.cell? ⟨gb149, 2, none⟩ = some (.string xb2_2) := (blk_cell BK149.out 2).trans rfl
                          have hcz59_3 : wc.cell? ⟨gb149, 3, none⟩ = some (.int .i64 xb3_2) := (blk_cell BK149.out 3).trans rfl
                          have hcz59_4 : wc.cell? ⟨gb149, 4, none⟩ = some (.int .i64 xb4_2) := (blk_cell BK149.out 4).trans rfl
                          have hcz59_5 : wc.cell? ⟨gb149, 5, none⟩ = some (.int .i64 xb5_2) := (blk_cell BK149.out 5).trans rfl
                          have hcz59_6 : wc.cell? ⟨gb149, 6, none⟩ = some (.int .i64 xb6_2) := (blk_cell BK149.out 6).trans rfl
                          have hcz59_7 : wc.cell? ⟨gb149, 7, none⟩ = some (.string xb7_2) := (blk_cell BK149.out 7).trans rfl
                          have hcz59_8 : wc.cell? ⟨gb149, 8, none⟩ = some (.int .i64 xb8_2) := (blk_cell BK149.out 8).trans rfl
                          have hcz59_9 : wc.cell? ⟨gb149, 9, none⟩ = some (.int .u32 xb9_2) := (blk_cell BK149.out 9).trans rfl
                          have hfz59_0 := blk_frozen BK149.out 0
                          have hfz59_1 := blk_frozen BK149.out 1
                          have hfz59_2 := blk_frozen BK149.out 2
                          have hfz59_3 := blk_frozen BK149.out 3
                          have hfz59_4 := blk_frozen BK149.out 4
                          have hfz59_5 := blk_frozen BK149.out 5
                          have hfz59_6 := blk_frozen BK149.out 6
                          have hfz59_7 := blk_frozen BK149.out 7
                          have hfz59_8 := blk_frozen BK149.out 8
                          have hfz59_9 := blk_frozen BK149.out 9
                          go_wp2
                          have ST := Hand.store10 wc gb149 42 (.int .i64 xb0_2) (.int .i64 xb1_2) (.string xb2_2) (.int .i64 xb3_2) (.int .i64 xb4_2) (.int .i64 xb5_2) (.int .i64 xb6_2) (.string xb7_2) (.int .i64 xb8_2) (.int .u32 xb9_2) (.int .i64 ((rd_T42 t151 x17_2).f0)) (.int .i64 ((rd_T42 t151 x17_2).f1)) (.string ((rd_T42 t151 x17_2).f2)) (.int .i64 ((rd_T42 t151 x17_2).f3)) (.int .i64 ((rd_T42 t151 x17_2).f4)) (.int .i64 ((rd_T42 t151 x17_2).f5)) (.int .i64 ((rd_T42 t151 x17_2).f6)) (.string ((rd_T42 t151 x17_2).f7)) (.int .i64 ((rd_T42 t151 x17_2).f8)) (.int .u32 ((rd_T42 t151 x17_2).f9)) BK149.out
                          generalize (((((((((wc.setCell ⟨gb149, 0, none⟩ (.int .i64 ((rd_T42 t151 x17_2).f0))).setCell ⟨gb149, 1, none⟩ (.int .i64 ((rd_T42 t151 x17_2).f1))).setCell ⟨gb149, 2, none⟩ (.string ((rd_T42 t151 x17_2).f2))).setCell ⟨gb149, 3, none⟩ (.int .i64 ((rd_T42 t151 x17_2).f3))).setCell ⟨gb149, 4, none⟩ (.int .i64 ((rd_T42 t151 x17_2).f4))).setCell ⟨gb149, 5, none⟩ (.int .i64 ((rd_T42 t151 x17_2).f5))).setCell ⟨gb149, 6, none⟩ (.int .i64 ((rd_T42 t151 x17_2).f6))).setCell ⟨gb149, 7, none⟩ (.string ((rd_T42 t151 x17_2).f7))).setCell ⟨gb149, 8, none⟩ (.int .i64 ((rd_T42 t151 x17_2).f8))).setCell ⟨gb149, 9, none⟩ (.int .u32 ((rd_T42 t151 x17_2).f9)) = ws_ at ST ⊢
                          go_roundg kj45
                          case measure => have := HJ3.out; have := HK2.out; have := HJ36.out; have := HJ45.out; omega
                          case rel => exact ⟨(wrap64 (x17_2 + 1)), (xa0_36), (xa1_36), (xa2_36), (xa3_36), (xa4_36), (xa5_36), (xa6_36), (xa7_36), (xa8_36), (xa9_36), ((rd_T42 t151 x17_2).f0), ((rd_T42 t151 x17_2).f1), ((rd_T42 t151 x17_2).f2), ((rd_T42 t151 x17_2).f3), ((rd_T42 t151 x17_2).f4), ((rd_T42 t151 x17_2).f5), ((rd_T42 t151 x17_2).f6), ((rd_T42 t151 x17_2).f7), ((rd_T42 t151 x17_2).f8), ((rd_T42 t151 x17_2).f9), (xc0_2), (xc1_2), (xc2_2), (xc3_2), (xc4_2), (xc5_2), (xc6_2), (xc7_2), (xc8_2), (xc9_2), (by first | rfl | (simp; done) | (simp [*]; done)), H', ⟨by have := HJ3.out; have := HK2.out; have := HJ36.out; have := HJ45.out; omega⟩, ⟨Kd.R_step HO_16.out (fun k_ hk _ => ST.2.1 k_ hk.2.1)⟩, ⟨Kd.R_mono (Kd.R_step (Kd.R_types HO_120007.out BK149.out (by decide)) (fun k_ hk _ => ST.2.1 k_ hk.2)) (fun _ hk => hk.1)⟩, ⟨Kd.R_mono (Kd.R_step (Kd.R_types HO_134007.out BK149.out (by decide)) (fun k_ hk _ => ST.2.1 k_ hk.2)) (fun _ hk => hk.1)⟩, ⟨Kd.R_mono (Kd.R_step (Kd.R_types HO_148007.out BK149.out (by decide)) (fun k_ hk _ => ST.2.1 k_ hk.2)) (fun _ hk => hk.1)⟩, ⟨(ST.2.1 gb119 NB119_149.out).trans BK119.out⟩, ⟨(ST.2.1 gb133 NB133_149.out).trans BK133.out⟩, ⟨(ST.2.1 gb147 NB147_149.out).trans BK147.out⟩, ⟨(ST.2.1 gb148 NB148_149.out).trans BK148.out⟩, ⟨ST.1⟩, ⟨(ST.2.1 gb150 NB150_149.out).trans BK150.out⟩, ⟨ST.2.2 _ HB.out GE149.out⟩⟩
                        · rw [if_neg c53] at H
                          have c53b0 : (a2 == 0) = false := beq_eq_false_iff_ne.mpr c53
                          have c53b1 : (a2 != 0) = true := bne_iff_ne.mpr c53
                          by_cases c60 : ((rd_T42 t151 x17_2).f9) = a2
                          · rw [if_pos c60] at H
                            exact absurd H (by simp)
                          · rw [if_neg c60] at H
                            have c60b0 : (((rd_T42 t151 x17_2).f9) == a2) = false := beq_eq_false_iff_ne.mpr c60
                            have c60b1 : (((rd_T42 t151 x17_2).f9) != a2) = true := bne_iff_ne.mpr c60
                            have H' := Aside0.mk H
                            clear H
                            have p160 : 0 ≤ (x17_2 : Int) := of_decide_eq_true (by first | (with_reducible assumption) | assumption)
                            have q160 : x17_2 < (t151.length : Int) := of_decide_eq_true (by first | (with_reducible assumption) | assumption)
                            obtain ⟨ad160, e160, hx160_0, hx160_1, hx160_2, hx160_3, hx160_4, hx160_5, hx160_6, hx160_7, hx160_8, hx160_9⟩ := at_T42 (Kd.R_reads' HO_16.out).2.2 x17_2 p160 q160
                            obtain rfl : ad157 = ad160 := (by injection e160)
                            replace p160 := eq_true p160
                            replace q160 := eq_true q160
                            have hnb61 := NB149_119.out
                            have hnc61 := NB119_149.out
                            have hnb62 := NB149_133.out
                            have hnc62 := NB133_149.out
                            have hnb63 := NB149_147.out
                            have hnc63 := NB147_149.out
                            have hnb64 := NB149_148.out
                            have hnc64 := NB148_149.out
                            have hnb65 := NB149_150.out
                            have hnc65 := NB150_149.out
                            have hcz66_0 : wc.cell? ⟨gb149, 0, none⟩ = some (.int .i64 xb0_2) := (blk_cell BK149.out 0).trans rfl
                            have hcz66_1 : wc.cell? ⟨gb149, 1, none⟩ = some (.int .i64 xb1_2) := (blk_cell BK149.out 1).trans rfl
                            have hcz66_2 : wc.cell? ⟨gb149, 2, none⟩ = some (.string xb2_2) := (blk_cell BK149.out 2).trans rfl
                            have hcz66_3 : wc.cell? ⟨gb149, 3, none⟩ = some (.int .i64 xb3_2) := (blk_cell BK149.out 3).trans rfl
                            have hcz66_4 : wc.cell? ⟨gb149, 4, none⟩ = some (.int .i64 xb4_2) := (blk_cell BK149.out 4).trans rfl
                            have hcz66_5 : wc.cell? ⟨gb149, 5, none⟩ = some (.int .i64 xb5_2) := (blk_cell BK149.out 5).trans rfl
                            have hcz66_6 : wc.cell? ⟨gb149, 6, none⟩ = some (.int .i64 xb6_2) := (blk_cell BK149.out 6).trans rfl
                            have hcz66_7 : wc.cell? ⟨gb149, 7, none⟩ = some (.string xb7_2) := (blk_cell BK149.out 7).trans rfl
                            have hcz66_8 : wc.cell? ⟨gb149, 8, none⟩ = some (.int .i64 xb8_2) := (blk_cell BK149.out 8).trans rfl
                            have hcz66_9 : wc.cell? ⟨gb149, 9, none⟩ = some (.int .u32 xb9_2) := (blk_cell BK149.out 9).trans rfl
                            have hfz66_0 := blk_frozen BK149.out 0
                            have hfz66_1 := blk_frozen BK149.out 1
                            have hfz66_2 := blk_frozen BK149.out 2
                            have hfz66_3 := blk_frozen BK149.out 3
                            have hfz66_4 := blk_frozen BK149.out 4
                            have hfz66_5 := blk_frozen BK149.out 5
                            have hfz66_6 := blk_frozen BK149.out 6
                            have hfz66_7 := blk_frozen BK149.out 7
                            have hfz66_8 := blk_frozen BK149.out 8
                            have hfz66_9 := blk_frozen BK149.out 9
                            have p161 : 0 ≤ (x17_2 : Int) := of_decide_eq_true (by first | (with_reducible assumption) | assumption)
                            have q161 : x17_2 < (t151.length : Int) := of_decide_eq_true (by first | (with_reducible assumption) | assumption)
                            obtain ⟨ad161, e161, hx161_0, hx161_1, hx161_2, hx161_3, hx161_4, hx161_5, hx161_6, hx161_7, hx161_8, hx161_9⟩ := at_T42 (Kd.R_reads' HO_16.out).2.2 x17_2 p161 q161
                            obtain rfl : ad157 = ad161 := (by injection e161)
                            have hn161_0 : ad157.block ≠ gb149 := Kd.own_blk (Kd.R_away HO_16.out (fun _ hk => hk.2.1))
                            have hn161_1 : ad157.block ≠ gb149 := Kd.own_blk (Kd.R_away HO_16.out (fun _ hk => hk.2.1))
                            have hn161_2 : ad157.block ≠ gb149 := Kd.own_blk (Kd.R_away HO_16.out (fun _ hk => hk.2.1))
                            have hn161_3 : ad157.block ≠ gb149 := Kd.own_blk (Kd.R_away HO_16.out (fun _ hk => hk.2.1))
                            have hn161_4 : ad157.block ≠ gb149 := Kd.own_blk (Kd.R_away HO_16.out (fun _ hk => hk.2.1))
                            have hn161_5 : ad157.block ≠ gb149 := Kd.own_blk (Kd.R_away HO_16.out (fun _ hk => hk.2.1))
                            have hn161_6 : ad157.block ≠ gb149 := Kd.own_blk (Kd.R_away HO_16.out (fun _ hk => hk.2.1))
                            have hn161_7 : ad157.block ≠ gb149 := Kd.own_blk (Kd.R_away HO_16.out (fun _ hk => hk.2.1))
                            have hn161_8 : ad157.block ≠ gb149 := Kd.own_blk (Kd.R_away HO_16.out (fun _ hk => hk.2.1))
                            have hn161_9 : ad157.block ≠ gb149 := Kd.own_blk (Kd.R_away HO_16.out (fun _ hk => hk.2.1))
                            replace hx161_0 := (cell_far (p := ⟨gb149, 0, none⟩) (by first | (rw [add_block]; exact hn161_0) | (show (Addr.add _ _).block ≠ _; rw [add_block]; exact hn161_0) | exact hn161_0) (.int .i64 ((rd_T42 t151 x17_2).f0))).trans hx161_0
                            replace hx161_1 := (cell_far (p := ⟨gb149, 0, none⟩) (by first | (rw [add_block]; exact hn161_0) | (show (Addr.add _ _).block ≠ _; rw [add_block]; exact hn161_0) | exact hn161_0) (.int .i64 ((rd_T42 t151 x17_2).f0))).trans hx161_1
                            replace hx161_2 := (cell_far (p := ⟨gb149, 0, none⟩) (by first | (rw [add_block]; exact hn161_0) | (show (Addr.add _ _).block ≠ _; rw [add_block]; exact hn161_0) | exact hn161_0) (.int .i64 ((rd_T42 t151 x17_2).f0))).trans hx161_2
                            replace hx161_3 := (cell_far (p := ⟨gb149, 0, none⟩) (by first | (rw [add_block]; exact hn161_0) | (show (Addr.add _ _).block ≠ _; rw [add_block]; exact hn161_0) | exact hn161_0) (.int .i64 ((rd_T42 t151 x17_2).f0))).trans hx161_3
                            replace hx161_4 := (cell_far (p := ⟨gb149, 0, none⟩) (by first | (rw [add_block]; exact hn161_0) | (show (Addr.add _ _).block ≠ _; rw [add_block]; exact hn161_0) | exact hn161_0) (.int .i64 ((rd_T42 t151 x17_2).f0))).trans hx161_4
                            replace hx161_5 := (cell_far (p := ⟨gb149, 0, none⟩) (by first | (rw [add_block]; exact hn161_0) | (show (Addr.add _ _).block ≠ _; rw [add_block]; exact hn161_0) | exact hn161_0) (.int .i64 ((rd_T42 t151 x17_2).f0))).trans hx161_5
                            replace hx161_6 := (cell_far (p := ⟨gb149, 0, none⟩) (by first | (rw [add_block]; exact hn161_0) | (show (Addr.add _ _).block ≠ _; rw [add_block]; exact hn161_0) | exact hn161_0) (.int .i64 ((rd_T42 t151 x17_2).f0))).trans hx161_6
                            replace hx161_7 := (cell_far (p := ⟨gb149, 0, none⟩) (by first | (rw [add_block]; exact hn161_0) | (show (Addr.add _ _).block ≠ _; rw [add_block]; exact hn161_0) | exact hn161_0) (.int .i64 ((rd_T42 t151 x17_2).f0))).trans hx161_7
                            replace hx161_8 := (cell_far (p := ⟨gb149, 0, none⟩) (by first | (rw [add_block]; exact hn161_0) | (show (Addr.add _ _).block ≠ _; rw [add_block]; exact hn161_0) | exact hn161_0) (.int .i64 ((rd_T42 t151 x17_2).f0))).trans hx161_8
                            replace hx161_9 := (cell_far (p := ⟨gb149, 0, none⟩) (by first | (rw [add_block]; exact hn161_0) | (show (Addr.add _ _).block ≠ _; rw [add_block]; exact hn161_0) | exact hn161_0) (.int .i64 ((rd_T42 t151 x17_2).f0))).trans hx161_9
                            replace hx161_0 := (cell_far (p := ⟨gb149, 1, none⟩) (by first | (rw [add_block]; exact hn161_1) | (show (Addr.add _ _).block ≠ _; rw [add_block]; exact hn161_1) | exact hn161_1) (.int .i64 ((rd_T42 t151 x17_2).f1))).trans hx161_0
                            replace hx161_1 := (cell_far (p := ⟨gb149, 1, none⟩) (by first | (rw [add_block]; exact hn161_1) | (show (Addr.add _ _).block ≠ _; rw [add_block]; exact hn161_1) | exact hn161_1) (.int .i64 ((rd_T42 t151 x17_2).f1))).trans hx161_1
                            replace hx161_2 := (cell_far (p := ⟨gb149, 1, none⟩) (by first | (rw [add_block]; exact hn161_1) | (show (Addr.add _ _).block ≠ _; rw [add_block]; exact hn161_1) | exact hn161_1) (.int .i64 ((rd_T42 t151 x17_2).f1))).trans hx161_2
                            replace hx161_3 := (cell_far (p := ⟨gb149, 1, none⟩) (by first | (rw [add_block]; exact hn161_1) | (show (Addr.add _ _).block ≠ _; rw [add_block]; exact hn161_1) | exact hn161_1) (.int .i64 ((rd_T42 t151 x17_2).f1))).trans hx161_3
                            replace hx161_4 := (cell_far (p := ⟨gb149, 1, none⟩) (by first | (rw [add_block]; exact hn161_1) | (show (Addr.add _ _).block ≠ _; rw [add_block]; exact hn161_1) | exact hn161_1) (.int .i64 ((rd_T42 t151 x17_2).f1))).trans hx161_4
                            replace hx161_5 := (cell_far (p := ⟨gb149, 1, none⟩) (by first | (rw [add_block]; exact hn161_1) | (show (Addr.add _ _).block ≠ _; rw [add_block]; exact hn161_1) | exact hn161_1) (.int .i64 ((rd_T42 t151 x17_2).f1))).trans hx161_5
                            replace hx161_6 := (cell_far (p := ⟨gb149, 1, none⟩) (by first | (rw [add_block]; exact hn161_1) | (show (Addr.add _ _).block ≠ _; rw [add_block]; exact hn161_1) | exact hn161_1) (.int .i64 ((rd_T42 t151 x17_2).f1))).trans hx161_6
                            replace hx161_7 := (cell_far (p := ⟨gb149, 1, none⟩) (by first | (rw [add_block]; exact hn161_1) | (show (Addr.add _ _).block ≠ _; rw [add_block]; exact hn161_1) | exact hn161_1) (.int .i64 ((rd_T42 t151 x17_2).f1))).trans hx161_7
                            replace hx161_8 := (cell_far (p := ⟨gb149, 1, none⟩) (by first | (rw [add_block]; exact hn161_1) | (show (Addr.add _ _).block ≠ _; rw [add_block]; exact hn161_1) | exact hn161_1) (.int .i64 ((rd_T42 t151 x17_2).f1))).trans hx161_8
                            replace hx161_9 := (cell_far (p := ⟨gb149, 1, none⟩) (by first | (rw [add_block]; exact hn161_1) | (show (Addr.add _ _).block ≠ _; rw [add_block]; exact hn161_1) | exact hn161_1) (.int .i64 ((rd_T42 t151 x17_2).f1))).trans hx161_9
                            replace hx161_0 := (cell_far (p := ⟨gb149, 2, none⟩) (by first | (rw [add_block]; exact hn161_2) | (show (Addr.add _ _).block ≠ _; rw [add_block]; exact hn161_2) | exact hn161_2) (.string ((rd_T42 t151 x17_2).f2))).trans hx161_0
                            replace hx161_1 := (cell_far (p := ⟨gb149, 2, none⟩) (by first | (rw [add_block]; exact hn161_2) | (show (Addr.add _ _).block ≠ _; rw [add_block]; exact hn161_2) | exact hn161_2) (.string ((rd_T42 t151 x17_2).f2))).trans hx161_1
                            replace hx161_2 := (cell_far (p := ⟨gb149, 2, none⟩) (by first | (rw [add_block]; exact hn161_2) | (show (Addr.add _ _).block ≠ _; rw [add_block]; exact hn161_2) | exact hn161_2) (.string ((rd_T42 t151 x17_2).f2))).trans hx161_2
                            replace hx161_3 := (cell_far (p := ⟨gb149, 2, none⟩) (by first | (rw [add_block]; exact hn161_2) | (show (Addr.add _ _).block ≠ _; rw [add_block]; exact hn161_2) | exact hn161_2) (.string ((rd_T42 t151 x17_2).f2))).trans hx161_3
                            replace hx161_4 := (cell_far (p := ⟨gb149, 2, none⟩) (by first | (rw [add_block]; exact hn161_2) | (show (Addr.add _ _).block ≠ _; rw [add_block]; exact hn161_2) | exact hn161_2) (.string ((rd_T42 t151 x17_2).f2))).trans hx161_4
                            replace hx161_5 := (cell_far (p := ⟨gb149, 2, none⟩) (by first | (rw [add_block]; exact hn161_2) | (show (Addr.add _ _).block ≠ _; rw [add_block]; exact hn161_2) | exact hn161_2) (.string ((rd_T42 t151 x17_2).f2))).trans hx161_5
                            replace hx161_6 := (cell_far (p := ⟨gb149, 2, none⟩) (by first | (rw [add_block]; exact hn161_2) | (show (Addr.add _ _).block ≠ _; rw [add_block]; exact hn161_2) | exact hn161_2) (.string ((rd_T42 t151 x17_2).f2))).trans hx161_6
                            replace hx161_7 := (cell_far (p := ⟨gb149, 2, none⟩) (by first | (rw [add_block]; exact hn161_2) | (show (Addr.add _ _).block ≠ _; rw [add_block]; exact hn161_2) | exact hn161_2) (.string ((rd_T42 t151 x17_2).f2))).trans hx161_7
                            replace hx161_8 := (cell_far (p := ⟨gb149, 2, none⟩) (by first | (rw [add_block]; exact hn161_2) | (show (Addr.add _ _).block ≠ _; rw [add_block]; exact hn161_2) | exact hn161_2) (.string ((rd_T42 t151 x17_2).f2))).trans hx161_8
                            replace hx161_9 := (cell_far (p := ⟨gb149, 2, none⟩) (by first | (rw [add_block]; exact hn161_2) | (show (Addr.add _ _).block ≠ _; rw [add_block]; exact hn161_2) | exact hn161_2) (.string ((rd_T42 t151 x17_2).f2))).trans hx161_9
                            replace hx161_0 := (cell_far (p := ⟨gb149, 3, none⟩) (by first | (rw [add_block]; exact hn161_3) | (show (Addr.add _ _).block ≠ _; rw [add_block]; exact hn161_3) | exact hn161_3) (.int .i64 ((rd_T42 t151 x17_2).f3))).trans hx161_0
                            replace hx161_1 := (cell_far (p := ⟨gb149, 3, none⟩) (by first | (rw [add_block]; exact hn161_3) | (show (Addr.add _ _).block ≠ _; rw [add_block]; exact hn161_3) | exact hn161_3) (.int .i64 ((rd_T42 t151 x17_2).f3))).trans hx161_1
                            replace hx161_2 := (cell_far (p := ⟨gb149, 3, none⟩) (by first | (rw [add_block]; exact hn161_3) | (show (Addr.add _ _).block ≠ _; rw [add_block]; exact hn161_3) | exact hn161_3) (.int .i64 ((rd_T42 t151 x17_2).f3))).trans hx161_2
                            replace hx161_3 := (cell_far (p := ⟨gb149, 3, none⟩) (by first | (rw [add_block]; exact hn161_3) | (show (Addr.add _ _).block ≠ _; rw [add_block]; exact hn161_3) | exact hn161_3) (.int .i64 ((rd_T42 t151 x17_2).f3))).trans hx161_3
                            replace hx161_4 := (cell_far (p := ⟨gb149, 3, none⟩) (by first | (rw [add_block]; exact hn161_3) | (show (Addr.add _ _).block ≠ _; rw [add_block]; exact hn161_3) | exact hn161_3) (.int .i64 ((rd_T42 t151 x17_2).f3))).trans hx161_4
                            replace hx161_5 := (cell_far (p := ⟨gb149, 3, none⟩) (by first | (rw [add_block]; exact hn161_3) | (show (Addr.add _ _).block ≠ _; rw [add_block]; exact hn161_3) | exact hn161_3) (.int .i64 ((rd_T42 t151 x17_2).f3))).trans hx161_5
                            replace hx161_6 := (cell_far (p := ⟨gb149, 3, none⟩) (by first | (rw [add_block]; exact hn161_3) | (show (Addr.add _ _).block ≠ _; rw [add_block]; exact hn161_3) | exact hn161_3) (.int .i64 ((rd_T42 t151 x17_2).f3))).trans hx161_6
                            replace hx161_7 := (cell_far (p := ⟨gb149, 3, none⟩) (by first | (rw [add_block]; exact hn161_3) | (show (Addr.add _ _).block ≠ _; rw [add_block]; exact hn161_3) | exact hn161_3) (.int .i64 ((rd_T42 t151 x17_2).f3))).trans hx161_7
                            replace hx161_8 := (cell_far (p := ⟨gb149, 3, none⟩) (by first | (rw [add_block]; exact hn161_3) | (show (Addr.add _ _).block ≠ _; rw [add_block]; exact hn161_3) | exact hn161_3) (.int .i64 ((rd_T42 t151 x17_2).f3))).trans hx161_8
                            replace hx161_9 := (cell_far (p := ⟨gb149, 3, none⟩) (by first | (rw [add_block]; exact hn161_3) | (show (Addr.add _ _).block ≠ _; rw [add_block]; exact hn161_3) | exact hn161_3) (.int .i64 ((rd_T42 t151 x17_2).f3))).trans hx161_9
                            replace hx161_0 := (cell_far (p := ⟨gb149, 4, none⟩) (by first | (rw [add_block]; exact hn161_4) | (show (Addr.add _ _).block ≠ _; rw [add_block]; exact hn161_4) | exact hn161_4) (.int .i64 ((rd_T42 t151 x17_2).f4))).trans hx161_0
                            replace hx161_1 := (cell_far (p := ⟨gb149, 4, none⟩) (by first | (rw [add_block]; exact hn161_4) | (show (Addr.add _ _).block ≠ _; rw [add_block]; exact hn161_4) | exact hn161_4) (.int .i64 ((rd_T42 t151 x17_2).f4))).trans hx161_1
                            replace hx161_2 := (cell_far (p := ⟨gb149, 4, none⟩) (by first | (rw [add_block]; exact hn161_4) | (show (Addr.add _ _).block ≠ _; rw [add_block]; exact hn161_4) | exact hn161_4) (.int .i64 ((rd_T42 t151 x17_2).f4))).trans hx161_2
                            replace hx161_3 := (cell_far (p := ⟨gb149, 4, none⟩) (by first | (rw [add_block]; exact hn161_4) | (show (Addr.add _ _).block ≠ _; rw [add_block]; exact hn161_4) | exact hn161_4) (.int .i64 ((rd_T42 t151 x17_2).f4))).trans hx161_3
                            replace hx161_4 := (cell_far (p := ⟨gb149, 4, none⟩) (by first | (rw [add_block]; exact hn161_4) | (show (Addr.add _ _).block ≠ _; rw [add_block]; exact hn161_4) | exact hn161_4) (.int .i64 ((rd_T42 t151 x17_2).f4))).trans hx161_4
                            replace hx161_5 := (cell_far (p := ⟨gb149, 4, none⟩) (by first | (rw [add_block]; exact hn161_4) | (show (Addr.add _ _).block ≠ _; rw [add_block]; exact hn161_4) | exact hn161_4) (.int .i64 ((rd_T42 t151 x17_2).f4))).trans hx161_5
                            replace hx161_6 := (cell_far (p := ⟨gb149, 4, none⟩) (by first | (rw [add_block]; exact hn161_4) | (show (Addr.add _ _).block ≠ _; rw [add_block]; exact hn161_4) | exact hn161_4) (.int .i64 ((rd_T42 t151 x17_2).f4))).trans hx161_6
                            replace hx161_7 := (cell_far (p := ⟨gb149, 4, none⟩) (by first | (rw [add_block]; exact hn161_4) | (show (Addr.add _ _).block ≠ _; rw [add_block]; exact hn161_4) | exact hn161_4) (.int .i64 ((rd_T42 t151 x17_2).f4))).trans hx161_7
                            replace hx161_8 := (cell_far (p := ⟨gb149, 4, none⟩) (by first | (rw [add_block]; exact hn161_4) | (show (Addr.add _ _).block ≠ _; rw [add_block]; exact hn161_4) | exact hn161_4) (.int .i64 ((rd_T42 t151 x17_2).f4))).trans hx161_8
                            replace hx161_9 := (cell_far (p := ⟨gb149, 4, none⟩) (by first | (rw [add_block]; exact hn161_4) | (show (Addr.add _ _).block ≠ _; rw [add_block]; exact hn161_4) | exact hn161_4) (.int .i64 ((rd_T42 t151 x17_2).f4))).trans hx161_9
                            replace hx161_0 := (cell_far (p := ⟨gb149, 5, none⟩) (by first | (rw [add_block]; exact hn161_5) | (show (Addr.add _ _).block ≠ _; rw [add_block]; exact hn161_5) | exact hn161_5) (.int .i64 ((rd_T42 t151 x17_2).f5))).trans hx161_0
                            replace hx161_1 := (cell_far (p := ⟨gb149, 5, none⟩) (by first | (rw [add_block]; exact hn161_5) | (show (Addr.add _ _).block ≠ _; rw [add_block]; exact hn161_5) | exact hn161_5) (.int .i64 ((rd_T42 t151 x17_2).f5))).trans hx161_1
                            replace hx161_2 := (cell_far (p := ⟨gb149, 5, none⟩) (by first | (rw [add_block]; exact hn161_5) | (show (Addr.add _ _).block ≠ _; rw [add_block]; exact hn161_5) | exact hn161_5) (.int .i64 ((rd_T42 t151 x17_2).f5))).trans hx161_2
                            replace hx161_3 := (cell_far (p := ⟨gb149, 5, none⟩) (by first | (rw [add_block]; exact hn161_5) | (show (Addr.add _ _).block ≠ _; rw [add_block]; exact hn161_5) | exact hn161_5) (.int .i64 ((rd_T42 t151 x17_2).f5))).trans hx161_3
                            replace hx161_4 := (cell_far (p := ⟨gb149, 5, none⟩) (by first | (rw [add_block]; exact hn161_5) | (show (Addr.add _ _).block ≠ _; rw [add_block]; exact hn161_5) | exact hn161_5) (.int .i64 ((rd_T42 t151 x17_2).f5))).trans hx161_4
                            replace hx161_5 := (cell_far (p := ⟨gb149, 5, none⟩) (by first | (rw [add_block]; exact hn161_5) | (show (Addr.add _ _).block ≠ _; rw [add_block]; exact hn161_5) | exact hn161_5) (.int .i64 ((rd_T42 t151 x17_2).f5))).trans hx161_5
                            replace hx161_6 := (cell_far (p := ⟨gb149, 5, none⟩) (by first | (rw [add_block]; exact hn161_5) | (show (Addr.add _ _).block ≠ _; rw [add_block]; exact hn161_5) | exact hn161_5) (.int .i64 ((rd_T42 t151 x17_2).f5))).trans hx161_6
                            replace hx161_7 := (cell_far (p := ⟨gb149, 5, none⟩) (by first | (rw [add_block]; exact hn161_5) | (show (Addr.add _ _).block ≠ _; rw [add_block]; exact hn161_5) | exact hn161_5) (.int .i64 ((rd_T42 t151 x17_2).f5))).trans hx161_7
                            replace hx161_8 := (cell_far (p := ⟨gb149, 5, none⟩) (by first | (rw [add_block]; exact hn161_5) | (show (Addr.add _ _).block ≠ _; rw [add_block]; exact hn161_5) | exact hn161_5) (.int .i64 ((rd_T42 t151 x17_2).f5))).trans hx161_8
                            replace hx161_9 := (cell_far (p := ⟨gb149, 5, none⟩) (by first | (rw [add_block]; exact hn161_5) | (show (Addr.add _ _).block ≠ _; rw [add_block]; exact hn161_5) | exact hn161_5) (.int .i64 ((rd_T42 t151 x17_2).f5))).trans hx161_9
                            replace hx161_0 := (cell_far (p := ⟨gb149, 6, none⟩) (by first | (rw [add_block]; exact hn161_6) | (show (Addr.add _ _).block ≠ _; rw [add_block]; exact hn161_6) | exact hn161_6) (.int .i64 ((rd_T42 t151 x17_2).f6))).trans hx161_0
                            replace hx161_1 := (cell_far (p := ⟨gb149, 6, none⟩) (by first | (rw [add_block]; exact hn161_6) | (show (Addr.add _ _).block ≠ _; rw [add_block]; exact hn161_6) | exact hn161_6) (.int .i64 ((rd_T42 t151 x17_2).f6))).trans hx161_1
                            replace hx161_2 := (cell_far (p := ⟨gb149, 6, none⟩) (by first | (rw [add_block]; exact hn161_6) | (show (Addr.add _ _).block ≠ _; rw [add_block]; exact hn161_6) | exact hn161_6) (.int .i64 ((rd_T42 t151 x17_2).f6))).trans hx161_2
                            replace hx161_3 := (cell_far (p := ⟨gb149, 6, none⟩) (by first | (rw [add_block]; exact hn161_6) | (show (Addr.add _ _).block ≠ _; rw [add_block]; exact hn161_6) | exact hn161_6) (.int .i64 ((rd_T42 t151 x17_2).f6))).trans hx161_3
                            replace hx161_4 := (cell_far (p := ⟨gb149, 6, none⟩) (by first | (rw [add_block]; exact hn161_6) | (show (Addr.add _ _).block ≠ _; rw [add_block]; exact hn161_6) | exact hn161_6) (.int .i64 ((rd_T42 t151 x17_2).f6))).trans hx161_4
                            replace hx161_5 := (cell_far (p := ⟨gb149, 6, none⟩) (by first | (rw [add_block]; exact hn161_6) | (show (Addr.add _ _).block ≠ _; rw [add_block]; exact hn161_6) | exact hn161_6) (.int .i64 ((rd_T42 t151 x17_2).f6))).trans hx161_5
                            replace hx161_6 := (cell_far (p := ⟨gb149, 6, none⟩) (by first | (rw [add_block]; exact hn161_6) | (show (Addr.add _ _).block ≠ _; rw [add_block]; exact hn161_6) | exact hn161_6) (.int .i64 ((rd_T42 t151 x17_2).f6))).trans hx161_6
                            replace hx161_7 := (cell_far (p := ⟨gb149, 6, none⟩) (by first | (rw [add_block]; exact hn161_6) | (show (Addr.add _ _).block ≠ _; rw [add_block]; exact hn161_6) | exact hn161_6) (.int .i64 ((rd_T42 t151 x17_2).f6))).trans hx161_7
                            replace hx161_8 := (cell_far (p := ⟨gb149, 6, none⟩) (by first | (rw [add_block]; exact hn161_6) | (show (Addr.add _ _).block ≠ _; rw [add_block]; exact hn161_6) | exact hn161_6) (.int .i64 ((rd_T42 t151 x17_2).f6))).trans hx161_8
                            replace hx161_9 := (cell_far (p := ⟨gb149, 6, none⟩) (by first | (rw [add_block]; exact hn161_6) | (show (Addr.add _ _).block ≠ _; rw [add_block]; exact hn161_6) | exact hn161_6) (.int .i64 ((rd_T42 t151 x17_2).f6))).trans hx161_9
                            replace hx161_0 := (cell_far (p := ⟨gb149, 7, none⟩) (by first | (rw [add_block]; exact hn161_7) | (show (Addr.add _ _).block ≠ _; rw [add_block]; exact hn161_7) | exact hn161_7) (.string ((rd_T42 t151 x17_2).f7))).trans hx161_0
                            replace hx161_1 := (cell_far (p := ⟨gb149, 7, none⟩) (by first | (rw [add_block]; exact hn161_7) | (show (Addr.add _ _).block ≠ _; rw [add_block]; exact hn161_7) | exact hn161_7) (.string ((rd_T42 t151 x17_2).f7))).trans hx161_1
                            replace hx161_2 := (cell_far (p := ⟨gb149, 7, none⟩) (by first | (rw [add_block]; exact hn161_7) | (show (Addr.add _ _).block ≠ _; rw [add_block]; exact hn161_7) | exact hn161_7) (.string ((rd_T42 t151 x17_2).f7))).trans hx161_2
                            replace hx161_3 := (cell_far (p := ⟨gb149, 7, none⟩) (by first | (rw [add_block]; exact hn161_7) | (show (Addr.add _ _).block ≠ _; rw [add_block]; exact hn161_7) | exact hn161_7) (.string ((rd_T42 t151 x17_2).f7))).trans hx161_3
                            replace hx161_4 := (cell_far (p := ⟨gb149, 7, none⟩) (by first | (rw [add_block]; exact hn161_7) | (show (Addr.add _ _).block ≠ _; rw [add_block]; exact hn161_7) | exact hn161_7) (.string ((rd_T42 t151 x17_2).f7))).trans hx161_4
                            replace hx161_5 := (cell_far (p := ⟨gb149, 7, none⟩) (by first | (rw [add_block]; exact hn161_7) | (show (Addr.add _ _).block ≠ _; rw [add_block]; exact hn161_7) | exact hn161_7) (.string ((rd_T42 t151 x17_2).f7))).trans hx161_5
                            replace hx161_6 := (cell_far (p := ⟨gb149, 7, none⟩) (by first | (rw [add_block]; exact hn161_7) | (show (Addr.add _ _).block ≠ _; rw [add_block]; exact hn161_7) | exact hn161_7) (.string ((rd_T42 t151 x17_2).f7))).trans hx161_6
                            replace hx161_7 := (cell_far (p := ⟨gb149, 7, none⟩) (by first | (rw [add_block]; exact hn161_7) | (show (Addr.add _ _).block ≠ _; rw [add_block]; exact hn161_7) | exact hn161_7) (.string ((rd_T42 t151 x17_2).f7))).trans hx161_7
                            replace hx161_8 := (cell_far (p := ⟨gb149, 7, none⟩) (by first | (rw [add_block]; exact hn161_7) | (show (Addr.add _ _).block ≠ _; rw [add_block]; exact hn161_7) | exact hn161_7) (.string ((rd_T42 t151 x17_2).f7))).trans hx161_8
                            replace hx161_9 := (cell_far (p := ⟨gb149, 7, none⟩) (by first | (rw [add_block]; exact hn161_7) | (show (Addr.add _ _).block ≠ _; rw [add_block]; exact hn161_7) | exact hn161_7) (.string ((rd_T42 t151 x17_2).f7))).trans hx161_9
                            replace hx161_0 := (cell_far (p := ⟨gb149, 8, none⟩) (by first | (rw [add_block]; exact hn161_8) | (show (Addr.add _ _).block ≠ _; rw [add_block]; exact hn161_8) | exact hn161_8) (.int .i64 ((rd_T42 t151 x17_2).f8))).trans hx161_0
                            replace hx161_1 := (cell_far (p := ⟨gb149, 8, none⟩) (by first | (rw [add_block]; exact hn161_8) | (show (Addr.add _ _).block ≠ _; rw [add_block]; exact hn161_8) | exact hn161_8) (.int .i64 ((rd_T42 t151 x17_2).f8))).trans hx161_1
                            replace hx161_2 := (cell_far (p := ⟨gb149, 8, none⟩) (by first | (rw [add_block]; exact hn161_8) | (show (Addr.add _ _).block ≠ _; rw [add_block]; exact hn161_8) | exact hn161_8) (.int .i64 ((rd_T42 t151 x17_2).f8))).trans hx161_2
                            replace hx161_3 := (cell_far (p := ⟨gb149, 8, none⟩) (by first | (rw [add_block]; exact hn161_8) | (show (Addr.add _ _).block ≠ _; rw [add_block]; exact hn161_8) | exact hn161_8) (.int .i64 ((rd_T42 t151 x17_2).f8))).trans hx161_3
                            replace hx161_4 := (cell_far (p := ⟨gb149, 8, none⟩) (by first | (rw [add_block]; exact hn161_8) | (show (Addr.add _ _).block ≠ _; rw [add_block]; exact hn161_8) | exact hn161_8) (.int .i64 ((rd_T42 t151 x17_2).f8))).trans hx161_4
                            replace hx161_5 := (cell_far (p := ⟨gb149, 8, none⟩) (by first | (rw [add_block]; exact hn161_8) | (show (Addr.add _ _).block ≠ _; rw [add_block]; exact hn161_8) | exact hn161_8) (.int .i64 ((rd_T42 t151 x17_2).f8))).trans hx161_5
                            replace hx161_6 := (cell_far (p := ⟨gb149, 8, none⟩) (by first | (rw [add_block]; exact hn161_8) | (show (Addr.add _ _).block ≠ _; rw [add_block]; exact hn161_8) | exact hn161_8) (.int .i64 ((rd_T42 t151 x17_2).f8))).trans hx161_6
                            replace hx161_7 := (cell_far (p := ⟨gb149, 8, none⟩) (by first | (rw [add_block]; exact hn161_8) | (show (Addr.add _ _).block ≠ _; rw [add_block]; exact hn161_8) | exact hn161_8) (.int .i64 ((rd_T42 t151 x17_2).f8))).trans hx161_7
                            replace hx161_8 := (cell_far (p := ⟨gb149, 8, none⟩) (by first | (rw [add_block]; exact hn161_8) | (show (Addr.add _ _).block ≠ _; rw [add_block]; exact hn161_8) | exact hn161_8) (.int .i64 ((rd_T42 t151 x17_2).f8))).trans hx161_8
                            replace hx161_9 := (cell_far (p := ⟨gb149, 8, none⟩) (by first | (rw [add_block]; exact hn161_8) | (show (Addr.add _ _).block ≠ _; rw [add_block]; exact hn161_8) | exact hn161_8) (.int .i64 ((rd_T42 t151 x17_2).f8))).trans hx161_9
                            replace hx161_0 := (cell_far (p := ⟨gb149, 9, none⟩) (by first | (rw [add_block]; exact hn161_9) | (show (Addr.add _ _).block ≠ _; rw [add_block]; exact hn161_9) | exact hn161_9) (.int .u32 ((rd_T42 t151 x17_2).f9))).trans hx161_0
                            replace hx161_1 := (cell_far (p := ⟨gb149, 9, none⟩) (by first | (rw [add_block]; exact hn161_9) | (show (Addr.add _ _).block ≠ _; rw [add_block]; exact hn161_9) | exact hn161_9) (.int .u32 ((rd_T42 t151 x17_2).f9))).trans hx161_1
                            replace hx161_2 := (cell_far (p := ⟨gb149, 9, none⟩) (by first | (rw [add_block]; exact hn161_9) | (show (Addr.add _ _).block ≠ _; rw [add_block]; exact hn161_9) | exact hn161_9) (.int .u32 ((rd_T42 t151 x17_2).f9))).trans hx161_2
                            replace hx161_3 := (cell_far (p := ⟨gb149, 9, none⟩) (by first | (rw [add_block]; exact hn161_9) | (show (Addr.add _ _).block ≠ _; rw [add_block]; exact hn161_9) | exact hn161_9) (.int .u32 ((rd_T42 t151 x17_2).f9))).trans hx161_3
                            replace hx161_4 := (cell_far (p := ⟨gb149, 9, none⟩) (by first | (rw [add_block]; exact hn161_9) | (show (Addr.add _ _).block ≠ _; rw [add_block]; exact hn161_9) | exact hn161_9) (.int .u32 ((rd_T42 t151 x17_2).f9))).trans hx161_4
                            replace hx161_5 := (cell_far (p := ⟨gb149, 9, none⟩) (by first | (rw [add_block]; exact hn161_9) | (show (Addr.add _ _).block ≠ _; rw [add_block]; exact hn161_9) | exact hn161_9) (.int .u32 ((rd_T42 t151 x17_2).f9))).trans hx161_5
                            replace hx161_6 := (cell_far (p := ⟨gb149, 9, none⟩) (by first | (rw [add_block]; exact hn161_9) | (show (Addr.add _ _).block ≠ _; rw [add_block]; exact hn161_9) | exact hn161_9) (.int .u32 ((rd_T42 t151 x17_2).f9))).trans hx161_6
                            replace hx161_7 := (cell_far (p := ⟨gb149, 9, none⟩) (by first | (rw [add_block]; exact hn161_9) | (show (Addr.add _ _).block ≠ _; rw [add_block]; exact hn161_9) | exact hn161_9) (.int .u32 ((rd_T42 t151 x17_2).f9))).trans hx161_7
                            replace hx161_8 := (cell_far (p := ⟨gb149, 9, none⟩) (by first | (rw [add_block]; exact hn161_9) | (show (Addr.add _ _).block ≠ _; rw [add_block]; exact hn161_9) | exact hn161_9) (.int .u32 ((rd_T42 t151 x17_2).f9))).trans hx161_8
                            replace hx161_9 := (cell_far (p := ⟨gb149, 9, none⟩) (by first | (rw [add_block]; exact hn161_9) | (show (Addr.add _ _).block ≠ _; rw [add_block]; exact hn161_9) | exact hn161_9) (.int .u32 ((rd_T42 t151 x17_2).f9))).trans hx161_9
                            clear hn161_0
                            clear hn161_1
                            clear hn161_2
                            clear hn161_3
                            clear hn161_4
                            clear hn161_5
                            clear hn161_6
                            clear hn161_7
                            clear hn161_8
                            clear hn161_9
                            replace p161 := eq_true p161
                            replace q161 := eq_true q161
                            go_wp2
                            have ST := Hand.store10 wc gb149 42 (.int .i64 xb0_2) (.int .i64 xb1_2) (.string xb2_2) (.int .i64 xb3_2) (.int .i64 xb4_2) (.int .i64 xb5_2) (.int .i64 xb6_2) (.string xb7_2) (.int .i64 xb8_2) (.int .u32 xb9_2) (.int .i64 ((rd_T42 t151 x17_2).f0)) (.int .i64 ((rd_T42 t151 x17_2).f1)) (.string ((rd_T42 t151 x17_2).f2)) (.int .i64 ((rd_T42 t151 x17_2).f3)) (.int .i64 ((rd_T42 t151 x17_2).f4)) (.int .i64 ((rd_T42 t151 x17_2).f5)) (.int .i64 ((rd_T42 t151 x17_2).f6)) (.string ((rd_T42 t151 x17_2).f7)) (.int .i64 ((rd_T42 t151 x17_2).f8)) (.int .u32 ((rd_T42 t151 x17_2).f9)) BK149.out
                            generalize (((((((((wc.setCell ⟨gb149, 0, none⟩ (.int .i64 ((rd_T42 t151 x17_2).f0))).setCell ⟨gb149, 1, none⟩ (.int .i64 ((rd_T42 t151 x17_2).f1))).setCell ⟨gb149, 2, none⟩ (.string ((rd_T42 t151 x17_2).f2))).setCell ⟨gb149, 3, none⟩ (.int .i64 ((rd_T42 t151 x17_2).f3))).setCell ⟨gb149, 4, none⟩ (.int .i64 ((rd_T42 t151 x17_2).f4))).setCell ⟨gb149, 5, none⟩ (.int .i64 ((rd_T42 t151 x17_2).f5))).setCell ⟨gb149, 6, none⟩ (.int .i64 ((rd_T42 t151 x17_2).f6))).setCell ⟨gb149, 7, none⟩ (.string ((rd_T42 t151 x17_2).f7))).setCell ⟨gb149, 8, none⟩ (.int .i64 ((rd_T42 t151 x17_2).f8))).setCell ⟨gb149, 9, none⟩ (.int .u32 ((rd_T42 t151 x17_2).f9)) = ws_ at ST ⊢
                            go_roundg kj45
                            case measure => have := HJ3.out; have := HK2.out; have := HJ36.out; have := HJ45.out; omega
                            case rel => exact ⟨(wrap64 (x17_2 + 1)), (xa0_36), (xa1_36), (xa2_36), (xa3_36), (xa4_36), (xa5_36), (xa6_36), (xa7_36), (xa8_36), (xa9_36), ((rd_T42 t151 x17_2).f0), ((rd_T42 t151 x17_2).f1), ((rd_T42 t151 x17_2).f2), ((rd_T42 t151 x17_2).f3), ((rd_T42 t151 x17_2).f4), ((rd_T42 t151 x17_2).f5), ((rd_T42 t151 x17_2).f6), ((rd_T42 t151 x17_2).f7), ((rd_T42 t151 x17_2).f8), ((rd_T42 t151 x17_2).f9), (xc0_2), (xc1_2), (xc2_2), (xc3_2), (xc4_2), (xc5_2), (xc6_2), (xc7_2), (xc8_2), (xc9_2), (by first | rfl | (simp; done) | (simp [*]; done)), H', ⟨by have := HJ3.out; have := HK2.out; have := HJ36.out; have := HJ45.out; omega⟩, ⟨Kd.R_step HO_16.out (fun k_ hk _ => ST.2.1 k_ hk.2.1)⟩, ⟨Kd.R_mono (Kd.R_step (Kd.R_types HO_120007.out BK149.out (by decide)) (fun k_ hk _ => ST.2.1 k_ hk.2)) (fun _ hk => hk.1)⟩, ⟨Kd.R_mono (Kd.R_step (Kd.R_types HO_134007.out BK149.out (by decide)) (fun k_ hk _ => ST.2.1 k_ hk.2)) (fun _ hk => hk.1)⟩, ⟨Kd.R_mono (Kd.R_step (Kd.R_types HO_148007.out BK149.out (by decide)) (fun k_ hk _ => ST.2.1 k_ hk.2)) (fun _ hk => hk.1)⟩, ⟨(ST.2.1 gb119 NB119_149.out).trans BK119.out⟩, ⟨(ST.2.1 gb133 NB133_149.out).trans BK133.out⟩, ⟨(ST.2.1 gb147 NB147_149.out).trans BK147.out⟩, ⟨(ST.2.1 gb148 NB148_149.out).trans BK148.out⟩, ⟨ST.1⟩, ⟨(ST.2.1 gb150 NB150_149.out).trans BK150.out⟩, ⟨ST.2.2 _ HB.out GE149.out⟩⟩
                      · replace c50 := Bool.eq_false_iff.mpr c50
                        subst c50
                        have H1 : (if a2 = 0 then (pyxlaw13_ParamsFinds.l0 kj45 a0 a1 a2 t118 t132 t146 t151 (wrap64 (x17_2 + 1)) t106 t107 t108 t109 t110 t111 t112 t113 t116 t117 t120 t121 t122 t123 t124 t125 t126 t127 t130 t131 t134 t135 t136 t137 t138 t139 t140 t141 t144 t145 xa0_36 xa1_36 xa2_36 xa3_36 xa4_36 xa5_36 xa6_36 xa7_36 xa8_36 xa9_36 xb0_2 xb1_2 xb2_2 xb3_2 xb4_2 xb5_2 xb6_2 xb7_2 xb8_2 xb9_2 xc0_2 xc1_2 xc2_2 xc3_2 xc4_2 xc5_2 xc6_2 xc7_2 xc8_2 xc9_2) else (if 0 ≤ x17_2 then (if x17_2 < (t151.length : Int) then (if ((rd_T42 t151 x17_2).f9) = a2 then (pyxlaw13_ParamsFinds.l0 kj45 a0 a1 a2 t118 t132 t146 t151 (wrap64 (x17_2 + 1)) t106 t107 t108 t109 t110 t111 t112 t113 t116 t117 t120 t121 t122 t123 t124 t125 t126 t127 t130 t131 t134 t135 t136 t137 t138 t139 t140 t141 t144 t145 xa0_36 xa1_36 xa2_36 xa3_36 xa4_36 xa5_36 xa6_36 xa7_36 xa8_36 xa9_36 xb0_2 xb1_2 xb2_2 xb3_2 xb4_2 xb5_2 xb6_2 xb7_2 xb8_2 xb9_2 ((rd_T42 t151 x17_2).f0) ((rd_T42 t151 x17_2).f1) ((rd_T42 t151 x17_2).f2) ((rd_T42 t151 x17_2).f3) ((rd_T42 t151 x17_2).f4) ((rd_T42 t151 x17_2).f5) ((rd_T42 t151 x17_2).f6) ((rd_T42 t151 x17_2).f7) ((rd_T42 t151 x17_2).f8) ((rd_T42 t151 x17_2).f9)) else (pyxlaw13_ParamsFinds.l0 kj45 a0 a1 a2 t118 t132 t146 t151 (wrap64 (x17_2 + 1)) t106 t107 t108 t109 t110 t111 t112 t113 t116 t117 t120 t121 t122 t123 t124 t125 t126 t127 t130 t131 t134 t135 t136 t137 t138 t139 t140 t141 t144 t145 xa0_36 xa1_36 xa2_36 xa3_36 xa4_36 xa5_36 xa6_36 xa7_36 xa8_36 xa9_36 xb0_2 xb1_2 xb2_2 xb3_2 xb4_2 xb5_2 xb6_2 xb7_2 xb8_2 xb9_2 xc0_2 xc1_2 xc2_2 xc3_2 xc4_2 xc5_2 xc6_2 xc7_2 xc8_2 xc9_2)) else (none)) else (none))) = some r := by rw [if_neg (show ¬ (false = true) by decide)] at H; exact H
                        clear H
                        have H := H1
                        clear H1
                        by_cases c67 : a2 = 0
                        · rw [if_pos c67] at H
                          have c67b0 : (a2 == 0) = true := beq_iff_eq.mpr c67
                          have c67b1 : (a2 != 0) = false := bne_eq_false_iff_eq.mpr c67
                          clear c67
                          have H' := Aside0.mk H
                          clear H
                          go_wp2
                          go_roundg kj45
                          case measure => have := HJ3.out; have := HK2.out; have := HJ36.out; have := HJ45.out; omega
                          case rel => exact ⟨(wrap64 (x17_2 + 1)), (xa0_36), (xa1_36), (xa2_36), (xa3_36), (xa4_36), (xa5_36), (xa6_36), (xa7_36), (xa8_36), (xa9_36), (xb0_2), (xb1_2), (xb2_2), (xb3_2), (xb4_2), (xb5_2), (xb6_2), (xb7_2), (xb8_2), (xb9_2), (xc0_2), (xc1_2), (xc2_2), (xc3_2), (xc4_2), (xc5_2), (xc6_2), (xc7_2), (xc8_2), (xc9_2), (by first | rfl | (simp; done) | (simp [*]; done)), H', ⟨by have := HJ3.out; have := HK2.out; have := HJ36.out; have := HJ45.out; omega⟩, ⟨by (with_reducible repeat (first | apply Kd.R_alloc | apply Kd.R_drewN | apply Kd.R_drew)); exact HO_16.out⟩, ⟨by (with_reducible repeat (first | apply Kd.R_alloc | apply Kd.R_drewN | apply Kd.R_drew)); exact HO_120007.out⟩, ⟨by (with_reducible repeat (first | apply Kd.R_alloc | apply Kd.R_drewN | apply Kd.R_drew)); exact HO_134007.out⟩, ⟨by (with_reducible repeat (first | apply Kd.R_alloc | apply Kd.R_drewN | apply Kd.R_drew)); exact HO_148007.out⟩, ⟨by (with_reducible repeat (first | refine blk_drewN ?_ _ | refine blk_drew ?_ | refine blk_alloc ?_ _)); exact BK119.out⟩, ⟨by (with_reducible repeat (first | refine blk_drewN ?_ _ | refine blk_drew ?_ | refine blk_alloc ?_ _)); exact BK133.out⟩, ⟨by (with_reducible repeat (first | refine blk_drewN ?_ _ | refine blk_drew ?_ | refine blk_alloc ?_ _)); exact BK147.out⟩, ⟨by (with_reducible repeat (first | refine blk_drewN ?_ _ | refine blk_drew ?_ | refine blk_alloc ?_ _)); exact BK148.out⟩, ⟨by (with_reducible repeat (first | refine blk_drewN ?_ _ | refine blk_drew ?_ | refine blk_alloc ?_ _)); exact BK149.out⟩, ⟨by (with_reducible repeat (first | refine blk_drewN ?_ _ | refine blk_drew ?_ | refine blk_alloc ?_ _)); exact BK150.out⟩, ⟨by repeat (first | (with_reducible first | exact HB.out | apply below_alloc | apply pw_below_drewN | apply below_drew1 | refine below_set ?_ GE119.out | refine below_set ?_ GE133.out | refine below_set ?_ GE147.out | refine below_set ?_ GE148.out | refine below_set ?_ GE149.out | refine below_set ?_ GE150.out) | exact HB.out)⟩⟩
                        · rw [if_neg c67] at H
                          have c67b0 : (a2 == 0) = false := beq_eq_false_iff_ne.mpr c67
                          have c67b1 : (a2 != 0) = true := bne_iff_ne.mpr c67
                          by_cases c68 : 0 ≤ x17_2
                          rotate_left
                          · rw [if_neg c68] at H
                            exact absurd H (by simp)
                          rw [if_pos c68] at H
                          have c68b0 : decide (0 ≤ x17_2) = true := decide_eq_true c68
                          clear c68
                          by_cases c69 : x17_2 < (t151.length : Int)
                          rotate_left
                          · rw [if_neg c69] at H
                            exact absurd H (by simp)
                          rw [if_pos c69] at H
                          have c69b0 : decide (x17_2 < (t151.length : Int)) = true := decide_eq_true c69
                          clear c69
                          by_cases c70 : ((rd_T42 t151 x17_2).f9) = a2
                          · rw [if_pos c70] at H
                            have c70b0 : (((rd_T42 t151 x17_2).f9) == a2) = true := beq_iff_eq.mpr c70
                            have c70b1 : (((rd_T42 t151 x17_2).f9) != a2) = false := bne_eq_false_iff_eq.mpr c70
                            clear c70
                            have H' := Aside0.mk H
                            clear H
                            have p162 : 0 ≤ (x17_2 : Int) := of_decide_eq_true (by first | (with_reducible assumption) | assumption)
                            have q162 : x17_2 < (t151.length : Int) := of_decide_eq_true (by first | (with_reducible assumption) | assumption)
                            obtain ⟨ad162, e162, hx162_0, hx162_1, hx162_2, hx162_3, hx162_4, hx162_5, hx162_6, hx162_7, hx162_8, hx162_9⟩ := at_T42 (Kd.R_reads' HO_16.out).2.2 x17_2 p162 q162
                            obtain rfl : ad157 = ad162 := (by injection e162)
                            replace p162 := eq_true p162
                            replace q162 := eq_true q162
                            have p163 : 0 ≤ (x17_2 : Int) := of_decide_eq_true (by first | (with_reducible assumption) | assumption)
                            have q163 : x17_2 < (t151.length : Int) := of_decide_eq_true (by first | (with_reducible assumption) | assumption)
                            obtain ⟨ad163, e163, hx163_0, hx163_1, hx163_2, hx163_3, hx163_4, hx163_5, hx163_6, hx163_7, hx163_8, hx163_9⟩ := at_T42 (Kd.R_reads' HO_16.out).2.2 x17_2 p163 q163
                            obtain rfl : ad157 = ad163 := (by injection e163)
                            replace p163 := eq_true p163
                            replace q163 := eq_true q163
                            have hnb71 := NB150_119.out
                            have hnc71 := NB119_150.out
                            have hnb72 := NB150_133.out
                            have hnc72 := NB133_150.out
                            have hnb73 := NB150_147.out
                            have hnc73 := NB147_150.out
                            have hnb74 := NB150_148.out
                            have hnc74 := NB148_150.out
                            have hnb75 := NB150_149.out
                            have hnc75 := NB149_150.out
                            have hcz76_0 : wc.cell? ⟨gb150, 0, none⟩ = some (.int .i64 xc0_2) := (blk_cell BK150.out 0).trans rfl
                            have hcz76_1 : wc.cell? ⟨gb150, 1, none⟩ = some (.int .i64 xc1_2) := (blk_cell BK150.out 1).trans rfl
                            have hcz76_2 : wc.cell? ⟨gb150, 2, none⟩ = some (.string xc2_2) := (blk_cell BK150.out 2).trans rfl
                            have hcz76_3 : wc.cell? ⟨gb150, 3, none⟩ = some (.int .i64 xc3_2) := (blk_cell BK150.out 3).trans rfl
                            have hcz76_4 : wc.cell? ⟨gb150, 4, none⟩ = some (.int .i64 xc4_2) := (blk_cell BK150.out 4).trans rfl
                            have hcz76_5 : wc.cell? ⟨gb150, 5, none⟩ = some (.int .i64 xc5_2) := (blk_cell BK150.out 5).trans rfl
                            have hcz76_6 : wc.cell? ⟨gb150, 6, none⟩ = some (.int .i64 xc6_2) := (blk_cell BK150.out 6).trans rfl
                            have hcz76_7 : wc.cell? ⟨gb150, 7, none⟩ = some (.string xc7_2) := (blk_cell BK150.out 7).trans rfl
                            have hcz76_8 : wc.cell? ⟨gb150, 8, none⟩ = some (.int .i64 xc8_2) := (blk_cell BK150.out 8).trans rfl
                            have hcz76_9 : wc.cell? ⟨gb150, 9, none⟩ = some (.int .u32 xc9_2) := (blk_cell BK150.out 9).trans rfl
                            have hfz76_0 := blk_frozen BK150.out 0
                            have hfz76_1 := blk_frozen BK150.out 1
                            have hfz76_2 := blk_frozen BK150.out 2
                            have hfz76_3 := blk_frozen BK150.out 3
                            have hfz76_4 := blk_frozen BK150.out 4
                            have hfz76_5 := blk_frozen BK150.out 5
                            have hfz76_6 := blk_frozen BK150.out 6
                            have hfz76_7 := blk_frozen BK150.out 7
                            have hfz76_8 := blk_frozen BK150.out 8
                            have hfz76_9 := blk_frozen BK150.out 9
                            go_wp2
                            have ST := Hand.store10 wc gb150 42 (.int .i64 xc0_2) (.int .i64 xc1_2) (.string xc2_2) (.int .i64 xc3_2) (.int .i64 xc4_2) (.int .i64 xc5_2) (.int .i64 xc6_2) (.string xc7_2) (.int .i64 xc8_2) (.int .u32 xc9_2) (.int .i64 ((rd_T42 t151 x17_2).f0)) (.int .i64 ((rd_T42 t151 x17_2).f1)) (.string ((rd_T42 t151 x17_2).f2)) (.int .i64 ((rd_T42 t151 x17_2).f3)) (.int .i64 ((rd_T42 t151 x17_2).f4)) (.int .i64 ((rd_T42 t151 x17_2).f5)) (.int .i64 ((rd_T42 t151 x17_2).f6)) (.string ((rd_T42 t151 x17_2).f7)) (.int .i64 ((rd_T42 t151 x17_2).f8)) (.int .u32 ((rd_T42 t151 x17_2).f9)) BK150.out
                            generalize (((((((((wc.setCell ⟨gb150, 0, none⟩ (.int .i64 ((rd_T42 t151 x17_2).f0))).setCell ⟨gb150, 1, none⟩ (.int .i64 ((rd_T42 t151 x17_2).f1))).setCell ⟨gb150, 2, none⟩ (.string ((rd_T42 t151 x17_2).f2))).setCell ⟨gb150, 3, none⟩ (.int .i64 ((rd_T42 t151 x17_2).f3))).setCell ⟨gb150, 4, none⟩ (.int .i64 ((rd_T42 t151 x17_2).f4))).setCell ⟨gb150, 5, none⟩ (.int .i64 ((rd_T42 t151 x17_2).f5))).setCell ⟨gb150, 6, none⟩ (.int .i64 ((rd_T42 t151 x17_2).f6))).setCell ⟨gb150, 7, none⟩ (.string ((rd_T42 t151 x17_2).f7))).setCell ⟨gb150, 8, none⟩ (.int .i64 ((rd_T42 t151 x17_2).f8))).setCell ⟨gb150, 9, none⟩ (.int .u32 ((rd_T42 t151 x17_2).f9)) = ws_ at ST ⊢
                            go_roundg kj45
                            case measure => have := HJ3.out; have := HK2.out; have := HJ36.out; have := HJ45.out; omega
                            case rel => exact ⟨(wrap64 (x17_2 + 1)), (xa0_36), (xa1_36), (xa2_36), (xa3_36), (xa4_36), (xa5_36), (xa6_36), (xa7_36), (xa8_36), (xa9_36), (xb0_2), (xb1_2), (xb2_2), (xb3_2), (xb4_2), (xb5_2), (xb6_2), (xb7_2), (xb8_2), (xb9_2), ((rd_T42 t151 x17_2).f0), ((rd_T42 t151 x17_2).f1), ((rd_T42 t151 x17_2).f2), ((rd_T42 t151 x17_2).f3), ((rd_T42 t151 x17_2).f4), ((rd_T42 t151 x17_2).f5), ((rd_T42 t151 x17_2).f6), ((rd_T42 t151 x17_2).f7), ((rd_T42 t151 x17_2).f8), ((rd_T42 t151 x17_2).f9), (by first | rfl | (simp; done) | (simp [*]; done)), H', ⟨by have := HJ3.out; have := HK2.out; have := HJ36.out; have := HJ45.out; omega⟩, ⟨Kd.R_step HO_16.out (fun k_ hk _ => ST.2.1 k_ hk.2.2)⟩, ⟨Kd.R_mono (Kd.R_step (Kd.R_types HO_120007.out BK150.out (by decide)) (fun k_ hk _ => ST.2.1 k_ hk.2)) (fun _ hk => hk.1)⟩, ⟨Kd.R_mono (Kd.R_step (Kd.R_types HO_134007.out BK150.out (by decide)) (fun k_ hk _ => ST.2.1 k_ hk.2)) (fun _ hk => hk.1)⟩, ⟨Kd.R_mono (Kd.R_step (Kd.R_types HO_148007.out BK150.out (by decide)) (fun k_ hk _ => ST.2.1 k_ hk.2)) (fun _ hk => hk.1)⟩, ⟨(ST.2.1 gb119 NB119_150.out).trans BK119.out⟩, ⟨(ST.2.1 gb133 NB133_150.out).trans BK133.out⟩, ⟨(ST.2.1 gb147 NB147_150.out).trans BK147.out⟩, ⟨(ST.2.1 gb148 NB148_150.out).trans BK148.out⟩, ⟨(ST.2.1 gb149 NB149_150.out).trans BK149.out⟩, ⟨ST.1⟩, ⟨ST.2.2 _ HB.out GE150.out⟩⟩
                          · rw [if_neg c70] at H
                            have c70b0 : (((rd_T42 t151 x17_2).f9) == a2) = false := beq_eq_false_iff_ne.mpr c70
                            have c70b1 : (((rd_T42 t151 x17_2).f9) != a2) = true := bne_iff_ne.mpr c70
                            have H' := Aside0.mk H
                            clear H
                            have p162 : 0 ≤ (x17_2 : Int) := of_decide_eq_true (by first | (with_reducible assumption) | assumption)
                            have q162 : x17_2 < (t151.length : Int) := of_decide_eq_true (by first | (with_reducible assumption) | assumption)
                            obtain ⟨ad162, e162, hx162_0, hx162_1, hx162_2, hx162_3, hx162_4, hx162_5, hx162_6, hx162_7, hx162_8, hx162_9⟩ := at_T42 (Kd.R_reads' HO_16.out).2.2 x17_2 p162 q162
                            obtain rfl : ad157 = ad162 := (by injection e162)
                            replace p162 := eq_true p162
                            replace q162 := eq_true q162
                            go_wp2
                            go_roundg kj45
                            case measure => have := HJ3.out; have := HK2.out; have := HJ36.out; have := HJ45.out; omega
                            case rel => exact ⟨(wrap64 (x17_2 + 1)), (xa0_36), (xa1_36), (xa2_36), (xa3_36), (xa4_36), (xa5_36), (xa6_36), (xa7_36), (xa8_36), (xa9_36), (xb0_2), (xb1_2), (xb2_2), (xb3_2), (xb4_2), (xb5_2), (xb6_2), (xb7_2), (xb8_2), (xb9_2), (xc0_2), (xc1_2), (xc2_2), (xc3_2), (xc4_2), (xc5_2), (xc6_2), (xc7_2), (xc8_2), (xc9_2), (by first | rfl | (simp; done) | (simp [*]; done)), H', ⟨by have := HJ3.out; have := HK2.out; have := HJ36.out; have := HJ45.out; omega⟩, ⟨by (with_reducible repeat (first | apply Kd.R_alloc | apply Kd.R_drewN | apply Kd.R_drew)); exact HO_16.out⟩, ⟨by (with_reducible repeat (first | apply Kd.R_alloc | apply Kd.R_drewN | apply Kd.R_drew)); exact HO_120007.out⟩, ⟨by (with_reducible repeat (first | apply Kd.R_alloc | apply Kd.R_drewN | apply Kd.R_drew)); exact HO_134007.out⟩, ⟨by (with_reducible repeat (first | apply Kd.R_alloc | apply Kd.R_drewN | apply Kd.R_drew)); exact HO_148007.out⟩, ⟨by (with_reducible repeat (first | refine blk_drewN ?_ _ | refine blk_drew ?_ | refine blk_alloc ?_ _)); exact BK119.out⟩, ⟨by (with_reducible repeat (first | refine blk_drewN ?_ _ | refine blk_drew ?_ | refine blk_alloc ?_ _)); exact BK133.out⟩, ⟨by (with_reducible repeat (first | refine blk_drewN ?_ _ | refine blk_drew ?_ | refine blk_alloc ?_ _)); exact BK147.out⟩, ⟨by (with_reducible repeat (first | refine blk_drewN ?_ _ | refine blk_drew ?_ | refine blk_alloc ?_ _)); exact BK148.out⟩, ⟨by (with_reducible repeat (first | refine blk_drewN ?_ _ | refine blk_drew ?_ | refine blk_alloc ?_ _)); exact BK149.out⟩, ⟨by (with_reducible repeat (first | refine blk_drewN ?_ _ | refine blk_drew ?_ | refine blk_alloc ?_ _)); exact BK150.out⟩, ⟨by repeat (first | (with_reducible first | exact HB.out | apply below_alloc | apply pw_below_drewN | apply below_drew1 | refine below_set ?_ GE119.out | refine below_set ?_ GE133.out | refine below_set ?_ GE147.out | refine below_set ?_ GE148.out | refine below_set ?_ GE149.out | refine below_set ?_ GE150.out) | exact HB.out)⟩⟩
            · rw [if_neg c35] at H
              have c35b0 : decide (x17_2 < (t151.length : Int)) = false := decide_eq_false c35
              clear c35
              replace H := Option.bind_eq_some_iff.mp H
              obtain ⟨t154, A770, H⟩ := H
              replace H : (if t154 = true then (if (t118 == (decide (xa0_2 > 0))) = true then ((pyxlaw13_same.f t120 t121 t122 t123 t124 t125 t126 t127 t130 t131 xb0_2 xb1_2 xb2_2 xb3_2 xb4_2 xb5_2 xb6_2 xb7_2 xb8_2 xb9_2).bind fun t155 => (if t155 = true then (if (t132 == (decide (xb0_2 > 0))) = true then ((pyxlaw13_same.f t134 t135 t136 t137 t138 t139 t140 t141 t144 t145 xc0_2 xc1_2 xc2_2 xc3_2 xc4_2 xc5_2 xc6_2 xc7_2 xc8_2 xc9_2).bind fun t156 => (if t156 = true then (some (t146 == (decide (xc0_2 > 0)))) else (none))) else (none)) else (none))) else (none)) else (none)) = some r := H
              have A77 := Aside0.mk A770
              clear A770
              by_cases c78 : t154 = true
              rotate_left
              · replace c78 := Bool.eq_false_iff.mpr c78
                subst c78
                have H1 : (none) = some r := by rw [if_neg (show ¬ (false = true) by decide)] at H; exact H
                clear H
                have H := H1
                clear H1
                exact absurd H (by simp)
              subst c78
              have H1 : (if (t118 == (decide (xa0_2 > 0))) = true then ((pyxlaw13_same.f t120 t121 t122 t123 t124 t125 t126 t127 t130 t131 xb0_2 xb1_2 xb2_2 xb3_2 xb4_2 xb5_2 xb6_2 xb7_2 xb8_2 xb9_2).bind fun t155 => (if t155 = true then (if (t132 == (decide (xb0_2 > 0))) = true then ((pyxlaw13_same.f t134 t135 t136 t137 t138 t139 t140 t141 t144 t145 xc0_2 xc1_2 xc2_2 xc3_2 xc4_2 xc5_2 xc6_2 xc7_2 xc8_2 xc9_2).bind fun t156 => (if t156 = true then (some (t146 == (decide (xc0_2 > 0)))) else (none))) else (none)) else (none))) else (none)) = some r := by rw [if_pos rfl] at H; exact H
              clear H
              have H := H1
              clear H1
              by_cases c79 : (t118 == (decide (xa0_2 > 0))) = true
              rotate_left
              · rw [if_neg c79] at H
                exact absurd H (by simp)
              rw [if_pos c79] at H
              have c79b0 : (t118 == (decide (xa0_2 > 0))) = true := c79
              (try (have c79b1 : decide (t118 = (decide (xa0_2 > 0))) = true := by simpa using c79))
              (try (have c79b2 : (t118 == (decide (xa0_2 > 0))) = true := by simpa using c79))
              clear c79
              replace H := Option.bind_eq_some_iff.mp H
              obtain ⟨t155, A800, H⟩ := H
              replace H : (if t155 = true then (if (t132 == (decide (xb0_2 > 0))) = true then ((pyxlaw13_same.f t134 t135 t136 t137 t138 t139 t140 t141 t144 t145 xc0_2 xc1_2 xc2_2 xc3_2 xc4_2 xc5_2 xc6_2 xc7_2 xc8_2 xc9_2).bind fun t156 => (if t156 = true then (some (t146 == (decide (xc0_2 > 0)))) else (none))) else (none)) else (none)) = some r := H
              have A80 := Aside0.mk A800
              clear A800
              by_cases c81 : t155 = true
              rotate_left
              · replace c81 := Bool.eq_false_iff.mpr c81
                subst c81
                have H1 : (none) = some r := by rw [if_neg (show ¬ (false = true) by decide)] at H; exact H
                clear H
                have H := H1
                clear H1
                exact absurd H (by simp)
              subst c81
              have H1 : (if (t132 == (decide (xb0_2 > 0))) = true then ((pyxlaw13_same.f t134 t135 t136 t137 t138 t139 t140 t141 t144 t145 xc0_2 xc1_2 xc2_2 xc3_2 xc4_2 xc5_2 xc6_2 xc7_2 xc8_2 xc9_2).bind fun t156 => (if t156 = true then (some (t146 == (decide (xc0_2 > 0)))) else (none))) else (none)) = some r := by rw [if_pos rfl] at H; exact H
              clear H
              have H := H1
              clear H1
              by_cases c82 : (t132 == (decide (xb0_2 > 0))) = true
              rotate_left
              · rw [if_neg c82] at H
                exact absurd H (by simp)
              rw [if_pos c82] at H
              have c82b0 : (t132 == (decide (xb0_2 > 0))) = true := c82
              (try (have c82b1 : decide (t132 = (decide (xb0_2 > 0))) = true := by simpa using c82))
              (try (have c82b2 : (t132 == (decide (xb0_2 > 0))) = true := by simpa using c82))
              clear c82
              replace H := Option.bind_eq_some_iff.mp H
              obtain ⟨t156, A830, H⟩ := H
              replace H : (if t156 = true then (some (t146 == (decide (xc0_2 > 0)))) else (none)) = some r := H
              have A83 := Aside0.mk A830
              clear A830
              by_cases c84 : t156 = true
              rotate_left
              · replace c84 := Bool.eq_false_iff.mpr c84
                subst c84
                have H1 : (none) = some r := by rw [if_neg (show ¬ (false = true) by decide)] at H; exact H
                clear H
                have H := H1
                clear H1
                exact absurd H (by simp)
              subst c84
              have H1 : (some (t146 == (decide (xc0_2 > 0)))) = some r := by rw [if_pos rfl] at H; exact H
              clear H
              have H := H1
              clear H1
              obtain rfl := Option.some.inj H
              obtain ⟨Ao85, co85, eo85⟩ := Kd.R_slice HO_16.out
              subst eo85
              have hnb86 := NB119_133.out
              have hnc86 := NB133_119.out
              have hnb87 := NB119_147.out
              have hnc87 := NB147_119.out
              have hnb88 := NB119_148.out
              have hnc88 := NB148_119.out
              have hnb89 := NB119_149.out
              have hnc89 := NB149_119.out
              have hnb90 := NB119_150.out
              have hnc90 := NB150_119.out
              have hcz91_0 : wr.cell? ⟨gb119, 0, none⟩ = some (.int .i64 t106) := (blk_cell BK119.out 0).trans rfl
              have hcz91_1 : wr.cell? ⟨gb119, 1, none⟩ = some (.int .i64 t107) := (blk_cell BK119.out 1).trans rfl
              have hcz91_2 : wr.cell? ⟨gb119, 2, none⟩ = some (.string t108) := (blk_cell BK119.out 2).trans rfl
              have hcz91_3 : wr.cell? ⟨gb119, 3, none⟩ = some (.int .i64 t109) := (blk_cell BK119.out 3).trans rfl
              have hcz91_4 : wr.cell? ⟨gb119, 4, none⟩ = some (.int .i64 t110) := (blk_cell BK119.out 4).trans rfl
              have hcz91_5 : wr.cell? ⟨gb119, 5, none⟩ = some (.int .i64 t111) := (blk_cell BK119.out 5).trans rfl
              have hcz91_6 : wr.cell? ⟨gb119, 6, none⟩ = some (.int .i64 t112) := (blk_cell BK119.out 6).trans rfl
              have hcz91_7 : wr.cell? ⟨gb119, 7, none⟩ = some (.slice Ao19 t113.length co19) := (blk_cell BK119.out 7).trans rfl
              have hcz91_8 : wr.cell? ⟨gb119, 8, none⟩ = some (.int .i64 t116) := (blk_cell BK119.out 8).trans rfl
              have hcz91_9 : wr.cell? ⟨gb119, 9, none⟩ = some (.int .u32 t117) := (blk_cell BK119.out 9).trans rfl
              have hfz91_0 := blk_frozen BK119.out 0
              have hfz91_1 := blk_frozen BK119.out 1
              have hfz91_2 := blk_frozen BK119.out 2
              have hfz91_3 := blk_frozen BK119.out 3
              have hfz91_4 := blk_frozen BK119.out 4
              have hfz91_5 := blk_frozen BK119.out 5
              have hfz91_6 := blk_frozen BK119.out 6
              have hfz91_7 := blk_frozen BK119.out 7
              have hfz91_8 := blk_frozen BK119.out 8
              have hfz91_9 := blk_frozen BK119.out 9
              have hnb92 := NB148_133.out
              have hnc92 := NB133_148.out
              have hnb93 := NB148_147.out
              have hnc93 := NB147_148.out
              have hnb94 := NB148_149.out
              have hnc94 := NB149_148.out
              have hnb95 := NB148_150.out
              have hnc95 := NB150_148.out
              have hcz96_0 : wr.cell? ⟨gb148, 0, none⟩ = some (.int .i64 xa0_2) := (blk_cell BK148.out 0).trans rfl
              have hcz96_1 : wr.cell? ⟨gb148, 1, none⟩ = some (.int .i64 xa1_2) := (blk_cell BK148.out 1).trans rfl
              have hcz96_2 : wr.cell? ⟨gb148, 2, none⟩ = some (.string xa2_2) := (blk_cell BK148.out 2).trans rfl
              have hcz96_3 : wr.cell? ⟨gb148, 3, none⟩ = some (.int .i64 xa3_2) := (blk_cell BK148.out 3).trans rfl
              have hcz96_4 : wr.cell? ⟨gb148, 4, none⟩ = some (.int .i64 xa4_2) := (blk_cell BK148.out 4).trans rfl
              have hcz96_5 : wr.cell? ⟨gb148, 5, none⟩ = some (.int .i64 xa5_2) := (blk_cell BK148.out 5).trans rfl
              have hcz96_6 : wr.cell? ⟨gb148, 6, none⟩ = some (.int .i64 xa6_2) := (blk_cell BK148.out 6).trans rfl
              have hcz96_7 : wr.cell? ⟨gb148, 7, none⟩ = some (.string xa7_2) := (blk_cell BK148.out 7).trans rfl
              have hcz96_8 : wr.cell? ⟨gb148, 8, none⟩ = some (.int .i64 xa8_2) := (blk_cell BK148.out 8).trans rfl
              have hcz96_9 : wr.cell? ⟨gb148, 9, none⟩ = some (.int .u32 xa9_2) := (blk_cell BK148.out 9).trans rfl
              have hfz96_0 := blk_frozen BK148.out 0
              have hfz96_1 := blk_frozen BK148.out 1
              have hfz96_2 := blk_frozen BK148.out 2
              have hfz96_3 := blk_frozen BK148.out 3
              have hfz96_4 := blk_frozen BK148.out 4
              have hfz96_5 := blk_frozen BK148.out 5
              have hfz96_6 := blk_frozen BK148.out 6
              have hfz96_7 := blk_frozen BK148.out 7
              have hfz96_8 := blk_frozen BK148.out 8
              have hfz96_9 := blk_frozen BK148.out 9
              go_wp2_with (first | ((with_reducible refine gate_callee (f := 26) rfl ?_); refine goesL_ (some 91) rfl rfl Tryd.func26 (by kernel_rfl) rfl #[.agg #[.int .i64 t106, .int .i64 t107, .string t108, .int .i64 t109, .int .i64 t110, .int .i64 t111, .int .i64 t112, .slice Ao19 t113.length co19, .int .i64 t116, .int .u32 t117], .agg #[.int .i64 xa0_2, .int .i64 xa1_2, .string xa2_2, .int .i64 xa3_2, .int .i64 xa4_2, .int .i64 xa5_2, .int .i64 xa6_2, .string xa7_2, .int .i64 xa8_2, .int .u32 xa9_2]] rfl (by (try simp only [List.map_toArray, List.map_cons, List.map_nil]); first | done | rfl | (simp only [List.length_drop, List.length_take]; rfl)) ?_; (with_reducible refine (pyxlaw13_same.calls t106 t107 t108 t109 t110 t111 t112 _ _ t113 t116 t117 xa0_2 xa1_2 xa2_2 xa3_2 xa4_2 xa5_2 xa6_2 xa7_2 xa8_2 xa9_2 true _ ?side1 ?side2 ?side3 A77.out).mono ?_); (case side1 => first | exact HLd | (exact LaidOk.below HLd (by repeat (first | (with_reducible first | exact HB.out | apply below_alloc | apply pw_below_drewN | apply below_drew1) | exact HB.out))) | (repeat (first | exact HLd | apply LaidOk.drewN | apply LaidOk.drew | apply LaidOk.alloc))); (case side2 => repeat (first | exact (Kd.R_reads' HO_120007.out).2.2 | (with_reducible refine Kd.C_alloc ?_ _) | (with_reducible refine Kd.C_drewN ?_ _) | (with_reducible refine Kd.C_drew ?_))); (case side3 => exact (Kd.R_reads' HO_120007.out).2.1); rintro e w97 ⟨rfl, hb⟩; refine ⟨_, rfl, ?_⟩; have n0_ := Aside0.mk (Kd.R_below (by (with_reducible repeat (first | apply Kd.R_alloc | apply Kd.R_drewN | apply Kd.R_drew)); exact HO_16.out) hb); have n1_ := Aside0.mk (Kd.R_below (by (with_reducible repeat (first | apply Kd.R_alloc | apply Kd.R_drewN | apply Kd.R_drew)); exact HO_120007.out) hb); have n2_ := Aside0.mk (Kd.R_below (by (with_reducible repeat (first | apply Kd.R_alloc | apply Kd.R_drewN | apply Kd.R_drew)); exact HO_134007.out) hb); have n3_ := Aside0.mk (Kd.R_below (by (with_reducible repeat (first | apply Kd.R_alloc | apply Kd.R_drewN | apply Kd.R_drew)); exact HO_148007.out) hb); have n4_ := Aside0.mk (blk_below (g := gb119) (o := .cells #[.int .i64 t106, .int .i64 t107, .string t108, .int .i64 t109, .int .i64 t110, .int .i64 t111, .int .i64 t112, .slice Ao19 t113.length co19, .int .i64 t116, .int .u32 t117] 37 (0, 0)) (by (with_reducible repeat (first | refine blk_drewN ?_ _ | refine blk_drew ?_ | refine blk_alloc ?_ _)); exact BK119.out) hb); have n5_ := Aside0.mk (blk_below (g := gb133) (o := .cells #[.int .i64 t120, .int .i64 t121, .string t122, .int .i64 t123, .int .i64 t124, .int .i64 t125, .int .i64 t126, .slice Ao24 t127.length co24, .int .i64 t130, .int .u32 t131] 37 (0, 0)) (by (with_reducible repeat (first | refine blk_drewN ?_ _ | refine blk_drew ?_ | refine blk_alloc ?_ _)); exact BK133.out) hb); have n6_ := Aside0.mk (blk_below (g := gb147) (o := .cells #[.int .i64 t134, .int .i64 t135, .string t136, .int .i64 t137, .int .i64 t138, .int .i64 t139, .int .i64 t140, .slice Ao30 t141.length co30, .int .i64 t144, .int .u32 t145] 37 (0, 0)) (by (with_reducible repeat (first | refine blk_drewN ?_ _ | refine blk_drew ?_ | refine blk_alloc ?_ _)); exact BK147.out) hb); have n7_ := Aside0.mk (blk_below (g := gb148) (o := .cells #[.int .i64 xa0_2, .int .i64 xa1_2, .string xa2_2, .int .i64 xa3_2, .int .i64 xa4_2, .int .i64 xa5_2, .int .i64 xa6_2, .string xa7_2, .int .i64 xa8_2, .int .u32 xa9_2] 42 (0, 0)) (by (with_reducible repeat (first | refine blk_drewN ?_ _ | refine blk_drew ?_ | refine blk_alloc ?_ _)); exact BK148.out) hb); have n8_ := Aside0.mk (blk_below (g := gb149) (o := .cells #[.int .i64 xb0_2, .int .i64 xb1_2, .string xb2_2, .int .i64 xb3_2, .int .i64 xb4_2, .int .i64 xb5_2, .int .i64 xb6_2, .string xb7_2, .int .i64 xb8_2, .int .u32 xb9_2] 42 (0, 0)) (by (with_reducible repeat (first | refine blk_drewN ?_ _ | refine blk_drew ?_ | refine blk_alloc ?_ _)); exact BK149.out) hb); have n9_ := Aside0.mk (blk_below (g := gb150) (o := .cells #[.int .i64 xc0_2, .int .i64 xc1_2, .string xc2_2, .int .i64 xc3_2, .int .i64 xc4_2, .int .i64 xc5_2, .int .i64 xc6_2, .string xc7_2, .int .i64 xc8_2, .int .u32 xc9_2] 42 (0, 0)) (by (with_reducible repeat (first | refine blk_drewN ?_ _ | refine blk_drew ?_ | refine blk_alloc ?_ _)); exact BK150.out) hb); have n10_ := Aside0.mk (below_step (by repeat (first | (with_reducible first | exact HB.out | apply below_alloc | apply pw_below_drewN | apply below_drew1 | refine below_set ?_ GE119.out | refine below_set ?_ GE133.out | refine below_set ?_ GE147.out | refine below_set ?_ GE148.out | refine below_set ?_ GE149.out | refine below_set ?_ GE150.out) | exact HB.out)) hb); clear HO_16; clear HO_120007; clear HO_134007; clear HO_148007; clear BK119; clear BK133; clear BK147; clear BK148; clear BK149; clear BK150; clear HB; have HO_16 := n0_; have HO_120007 := n1_; have HO_134007 := n2_; have HO_148007 := n3_; have BK119 := n4_; have BK133 := n5_; have BK147 := n6_; have BK148 := n7_; have BK149 := n8_; have BK150 := n9_; have HB := n10_; clear n0_ n1_ n2_ n3_ n4_ n5_ n6_ n7_ n8_ n9_ n10_; (try clear hb); (try clear hb2); (try clear hk); (try clear hi); have hcz98_0 : w97.cell? ⟨gb148, 0, none⟩ = some (.int .i64 xa0_2) := (blk_cell BK148.out 0).trans rfl; have hcz98_1 : w97.cell? ⟨gb148, 1, none⟩ = some (.int .i64 xa1_2) := (blk_cell BK148.out 1).trans rfl; have hcz98_2 : w97.cell? ⟨gb148, 2, none⟩ = some (.string xa2_2) := (blk_cell BK148.out 2).trans rfl; have hcz98_3 : w97.cell? ⟨gb148, 3, none⟩ = some (.int .i64 xa3_2) := (blk_cell BK148.out 3).trans rfl; have hcz98_4 : w97.cell? ⟨gb148, 4, none⟩ = some (.int .i64 xa4_2) := (blk_cell BK148.out 4).trans rfl; have hcz98_5 : w97.cell? ⟨gb148, 5, none⟩ = some (.int .i64 xa5_2) := (blk_cell BK148.out 5).trans rfl; have hcz98_6 : w97.cell? ⟨gb148, 6, none⟩ = some (.int .i64 xa6_2) := (blk_cell BK148.out 6).trans rfl; have hcz98_7 : w97.cell? ⟨gb148, 7, none⟩ = some (.string xa7_2) := (blk_cell BK148.out 7).trans rfl; have hcz98_8 : w97.cell? ⟨gb148, 8, none⟩ = some (.int .i64 xa8_2) := (blk_cell BK148.out 8).trans rfl; have hcz98_9 : w97.cell? ⟨gb148, 9, none⟩ = some (.int .u32 xa9_2) := (blk_cell BK148.out 9).trans rfl; have hfz98_0 := blk_frozen BK148.out 0; have hfz98_1 := blk_frozen BK148.out 1; have hfz98_2 := blk_frozen BK148.out 2; have hfz98_3 := blk_frozen BK148.out 3; have hfz98_4 := blk_frozen BK148.out 4; have hfz98_5 := blk_frozen BK148.out 5; have hfz98_6 := blk_frozen BK148.out 6; have hfz98_7 := blk_frozen BK148.out 7; have hfz98_8 := blk_frozen BK148.out 8; have hfz98_9 := blk_frozen BK148.out 9; have hnb99 := NB133_147.out; have hnc99 := NB147_133.out; have hnb100 := NB133_149.out; have hnc100 := NB149_133.out; have hnb101 := NB133_150.out; have hnc101 := NB150_133.out; have hcz102_0 : w97.cell? ⟨gb133, 0, none⟩ = some (.int .i64 t120) := (blk_cell BK133.out 0).trans rfl; have hcz102_1 : w97.cell? ⟨gb133, 1, none⟩ = some (.int .i64 t121) := (blk_cell BK133.out 1).trans rfl; have hcz102_2 : w97.cell? ⟨gb133, 2, none⟩ = some (.string t122) := (blk_cell BK133.out 2).trans rfl; have hcz102_3 : w97.cell? ⟨gb133, 3, none⟩ = some (.int .i64 t123) := (blk_cell BK133.out 3).trans rfl; have hcz102_4 : w97.cell? ⟨gb133, 4, none⟩ = some (.int .i64 t124) := (blk_cell BK133.out 4).trans rfl; have hcz102_5 : w97.cell? ⟨gb133, 5, none⟩ = some (.int .i64 t125) := (blk_cell BK133.out 5).trans rfl; have hcz102_6 : w97.cell? ⟨gb133, 6, none⟩ = some (.int .i64 t126) := (blk_cell BK133.out 6).trans rfl; have hcz102_7 : w97.cell? ⟨gb133, 7, none⟩ = some (.slice Ao24 t127.length co24) := (blk_cell BK133.out 7).trans rfl; have hcz102_8 : w97.cell? ⟨gb133, 8, none⟩ = some (.int .i64 t130) := (blk_cell BK133.out 8).trans rfl; have hcz102_9 : w97.cell? ⟨gb133, 9, none⟩ = some (.int .u32 t131) := (blk_cell BK133.out 9).trans rfl; have hfz102_0 := blk_frozen BK133.out 0; have hfz102_1 := blk_frozen BK133.out 1; have hfz102_2 := blk_frozen BK133.out 2; have hfz102_3 := blk_frozen BK133.out 3; have hfz102_4 := blk_frozen BK133.out 4; have hfz102_5 := blk_frozen BK133.out 5; have hfz102_6 := blk_frozen BK133.out 6; have hfz102_7 := blk_frozen BK133.out 7; have hfz102_8 := blk_frozen BK133.out 8; have hfz102_9 := blk_frozen BK133.out 9; have hnb103 := NB149_147.out; have hnc103 := NB147_149.out; have hnb104 := NB149_150.out; have hnc104 := NB150_149.out; have hcz105_0 : w97.cell? ⟨gb149, 0, none⟩ = some (.int .i64 xb0_2) := (blk_cell BK149.out 0).trans rfl; have hcz105_1 : w97.cell? ⟨gb149, 1, none⟩ = some (.int .i64 xb1_2) := (blk_cell BK149.out 1).trans rfl; have hcz105_2 : w97.cell? ⟨gb149, 2, none⟩ = some (.string xb2_2) := (blk_cell BK149.out 2).trans rfl; have hcz105_3 : w97.cell? ⟨gb149, 3, none⟩ = some (.int .i64 xb3_2) := (blk_cell BK149.out 3).trans rfl; have hcz105_4 : w97.cell? ⟨gb149, 4, none⟩ = some (.int .i64 xb4_2) := (blk_cell BK149.out 4).trans rfl; have hcz105_5 : w97.cell? ⟨gb149, 5, none⟩ = some (.int .i64 xb5_2) := (blk_cell BK149.out 5).trans rfl; have hcz105_6 : w97.cell? ⟨gb149, 6, none⟩ = some (.int .i64 xb6_2) := (blk_cell BK149.out 6).trans rfl; have hcz105_7 : w97.cell? ⟨gb149, 7, none⟩ = some (.string xb7_2) := (blk_cell BK149.out 7).trans rfl; have hcz105_8 : w97.cell? ⟨gb149, 8, none⟩ = some (.int .i64 xb8_2) := (blk_cell BK149.out 8).trans rfl; have hcz105_9 : w97.cell? ⟨gb149, 9, none⟩ = some (.int .u32 xb9_2) := (blk_cell BK149.out 9).trans rfl; have hfz105_0 := blk_frozen BK149.out 0; have hfz105_1 := blk_frozen BK149.out 1; have hfz105_2 := blk_frozen BK149.out 2; have hfz105_3 := blk_frozen BK149.out 3; have hfz105_4 := blk_frozen BK149.out 4; have hfz105_5 := blk_frozen BK149.out 5; have hfz105_6 := blk_frozen BK149.out 6; have hfz105_7 := blk_frozen BK149.out 7; have hfz105_8 := blk_frozen BK149.out 8; have hfz105_9 := blk_frozen BK149.out 9) | (go_at_call 26; (with_reducible refine (pyxlaw13_same.calls t120 t121 t122 t123 t124 t125 t126 _ _ t127 t130 t131 xb0_2 xb1_2 xb2_2 xb3_2 xb4_2 xb5_2 xb6_2 xb7_2 xb8_2 xb9_2 true _ ?side1 ?side2 ?side3 A80.out).mono ?_); (case side1 => first | exact HLd | (exact LaidOk.below HLd (by repeat (first | (with_reducible first | exact HB.out | apply below_alloc | apply pw_below_drewN | apply below_drew1) | exact HB.out))) | (repeat (first | exact HLd | apply LaidOk.drewN | apply LaidOk.drew | apply LaidOk.alloc))); (case side2 => repeat (first | exact (Kd.R_reads' HO_134007.out).2.2 | (with_reducible refine Kd.C_alloc ?_ _) | (with_reducible refine Kd.C_drewN ?_ _) | (with_reducible refine Kd.C_drew ?_))); (case side3 => exact (Kd.R_reads' HO_134007.out).2.1); rintro e w106 ⟨rfl, hb⟩; have n0_ := Aside0.mk (Kd.R_below (by (with_reducible repeat (first | apply Kd.R_alloc | apply Kd.R_drewN | apply Kd.R_drew)); exact HO_16.out) hb); have n1_ := Aside0.mk (Kd.R_below (by (with_reducible repeat (first | apply Kd.R_alloc | apply Kd.R_drewN | apply Kd.R_drew)); exact HO_120007.out) hb); have n2_ := Aside0.mk (Kd.R_below (by (with_reducible repeat (first | apply Kd.R_alloc | apply Kd.R_drewN | apply Kd.R_drew)); exact HO_134007.out) hb); have n3_ := Aside0.mk (Kd.R_below (by (with_reducible repeat (first | apply Kd.R_alloc | apply Kd.R_drewN | apply Kd.R_drew)); exact HO_148007.out) hb); have n4_ := Aside0.mk (blk_below (g := gb119) (o := .cells #[.int .i64 t106, .int .i64 t107, .string t108, .int .i64 t109, .int .i64 t110, .int .i64 t111, .int .i64 t112, .slice Ao19 t113.length co19, .int .i64 t116, .int .u32 t117] 37 (0, 0)) (by (with_reducible repeat (first | refine blk_drewN ?_ _ | refine blk_drew ?_ | refine blk_alloc ?_ _)); exact BK119.out) hb); have n5_ := Aside0.mk (blk_below (g := gb133) (o := .cells #[.int .i64 t120, .int .i64 t121, .string t122, .int .i64 t123, .int .i64 t124, .int .i64 t125, .int .i64 t126, .slice Ao24 t127.length co24, .int .i64 t130, .int .u32 t131] 37 (0, 0)) (by (with_reducible repeat (first | refine blk_drewN ?_ _ | refine blk_drew ?_ | refine blk_alloc ?_ _)); exact BK133.out) hb); have n6_ := Aside0.mk (blk_below (g := gb147) (o := .cells #[.int .i64 t134, .int .i64 t135, .string t136, .int .i64 t137, .int .i64 t138, .int .i64 t139, .int .i64 t140, .slice Ao30 t141.length co30, .int .i64 t144, .int .u32 t145] 37 (0, 0)) (by (with_reducible repeat (first | refine blk_drewN ?_ _ | refine blk_drew ?_ | refine blk_alloc ?_ _)); exact BK147.out) hb); have n7_ := Aside0.mk (blk_below (g := gb148) (o := .cells #[.int .i64 xa0_2, .int .i64 xa1_2, .string xa2_2, .int .i64 xa3_2, .int .i64 xa4_2, .int .i64 xa5_2, .int .i64 xa6_2, .string xa7_2, .int .i64 xa8_2, .int .u32 xa9_2] 42 (0, 0)) (by (with_reducible repeat (first | refine blk_drewN ?_ _ | refine blk_drew ?_ | refine blk_alloc ?_ _)); exact BK148.out) hb); have n8_ := Aside0.mk (blk_below (g := gb149) (o := .cells #[.int .i64 xb0_2, .int .i64 xb1_2, .string xb2_2, .int .i64 xb3_2, .int .i64 xb4_2, .int .i64 xb5_2, .int .i64 xb6_2, .string xb7_2, .int .i64 xb8_2, .int .u32 xb9_2] 42 (0, 0)) (by (with_reducible repeat (first | refine blk_drewN ?_ _ | refine blk_drew ?_ | refine blk_alloc ?_ _)); exact BK149.out) hb); have n9_ := Aside0.mk (blk_below (g := gb150) (o := .cells #[.int .i64 xc0_2, .int .i64 xc1_2, .string xc2_2, .int .i64 xc3_2, .int .i64 xc4_2, .int .i64 xc5_2, .int .i64 xc6_2, .string xc7_2, .int .i64 xc8_2, .int .u32 xc9_2] 42 (0, 0)) (by (with_reducible repeat (first | refine blk_drewN ?_ _ | refine blk_drew ?_ | refine blk_alloc ?_ _)); exact BK150.out) hb); have n10_ := Aside0.mk (below_step (by repeat (first | (with_reducible first | exact HB.out | apply below_alloc | apply pw_below_drewN | apply below_drew1 | refine below_set ?_ GE119.out | refine below_set ?_ GE133.out | refine below_set ?_ GE147.out | refine below_set ?_ GE148.out | refine below_set ?_ GE149.out | refine below_set ?_ GE150.out) | exact HB.out)) hb); clear HO_16; clear HO_120007; clear HO_134007; clear HO_148007; clear BK119; clear BK133; clear BK147; clear BK148; clear BK149; clear BK150; clear HB; have HO_16 := n0_; have HO_120007 := n1_; have HO_134007 := n2_; have HO_148007 := n3_; have BK119 := n4_; have BK133 := n5_; have BK147 := n6_; have BK148 := n7_; have BK149 := n8_; have BK150 := n9_; have HB := n10_; clear n0_ n1_ n2_ n3_ n4_ n5_ n6_ n7_ n8_ n9_ n10_; (try clear hb); (try clear hb2); (try clear hk); (try clear hi); have hcz107_0 : w106.cell? ⟨gb149, 0, none⟩ = some (.int .i64 xb0_2) := (blk_cell BK149.out 0).trans rfl; have hcz107_1 : w106.cell? ⟨gb149, 1, none⟩ = some (.int .i64 xb1_2) := (blk_cell BK149.out 1).trans rfl; have hcz107_2 : w106.cell? ⟨gb149, 2, none⟩ = some (.string xb2_2) := (blk_cell BK149.out 2).trans rfl; have hcz107_3 : w106.cell? ⟨gb149, 3, none⟩ = some (.int .i64 xb3_2) := (blk_cell BK149.out 3).trans rfl; have hcz107_4 : w106.cell? ⟨gb149, 4, none⟩ = some (.int .i64 xb4_2) := (blk_cell BK149.out 4).trans rfl; have hcz107_5 : w106.cell? ⟨gb149, 5, none⟩ = some (.int .i64 xb5_2) := (blk_cell BK149.out 5).trans rfl; have hcz107_6 : w106.cell? ⟨gb149, 6, none⟩ = some (.int .i64 xb6_2) := (blk_cell BK149.out 6).trans rfl; have hcz107_7 : w106.cell? ⟨gb149, 7, none⟩ = some (.string xb7_2) := (blk_cell BK149.out 7).trans rfl; have hcz107_8 : w106.cell? ⟨gb149, 8, none⟩ = some (.int .i64 xb8_2) := (blk_cell BK149.out 8).trans rfl; have hcz107_9 : w106.cell? ⟨gb149, 9, none⟩ = some (.int .u32 xb9_2) := (blk_cell BK149.out 9).trans rfl; have hfz107_0 := blk_frozen BK149.out 0; have hfz107_1 := blk_frozen BK149.out 1; have hfz107_2 := blk_frozen BK149.out 2; have hfz107_3 := blk_frozen BK149.out 3; have hfz107_4 := blk_frozen BK149.out 4; have hfz107_5 := blk_frozen BK149.out 5; have hfz107_6 := blk_frozen BK149.out 6; have hfz107_7 := blk_frozen BK149.out 7; have hfz107_8 := blk_frozen BK149.out 8; have hfz107_9 := blk_frozen BK149.out 9; have hnb108 := NB147_150.out; have hnc108 := NB150_147.out; have hcz109_0 : w106.cell? ⟨gb147, 0, none⟩ = some (.int .i64 t134) := (blk_cell BK147.out 0).trans rfl; have hcz109_1 : w106.cell? ⟨gb147, 1, none⟩ = some (.int .i64 t135) := (blk_cell BK147.out 1).trans rfl; have hcz109_2 : w106.cell? ⟨gb147, 2, none⟩ = some (.string t136) := (blk_cell BK147.out 2).trans rfl; have hcz109_3 : w106.cell? ⟨gb147, 3, none⟩ = some (.int .i64 t137) := (blk_cell BK147.out 3).trans rfl; have hcz109_4 : w106.cell? ⟨gb147, 4, none⟩ = some (.int .i64 t138) := (blk_cell BK147.out 4).trans rfl; have hcz109_5 : w106.cell? ⟨gb147, 5, none⟩ = some (.int .i64 t139) := (blk_cell BK147.out 5).trans rfl; have hcz109_6 : w106.cell? ⟨gb147, 6, none⟩ = some (.int .i64 t140) := (blk_cell BK147.out 6).trans rfl; have hcz109_7 : w106.cell? ⟨gb147, 7, none⟩ = some (.slice Ao30 t141.length co30) := (blk_cell BK147.out 7).trans rfl; have hcz109_8 : w106.cell? ⟨gb147, 8, none⟩ = some (.int .i64 t144) := (blk_cell BK147.out 8).trans rfl; have hcz109_9 : w106.cell? ⟨gb147, 9, none⟩ = some (.int .u32 t145) := (blk_cell BK147.out 9).trans rfl; have hfz109_0 := blk_frozen BK147.out 0; have hfz109_1 := blk_frozen BK147.out 1; have hfz109_2 := blk_frozen BK147.out 2; have hfz109_3 := blk_frozen BK147.out 3; have hfz109_4 := blk_frozen BK147.out 4; have hfz109_5 := blk_frozen BK147.out 5; have hfz109_6 := blk_frozen BK147.out 6; have hfz109_7 := blk_frozen BK147.out 7; have hfz109_8 := blk_frozen BK147.out 8; have hfz109_9 := blk_frozen BK147.out 9; have hcz110_0 : w106.cell? ⟨gb150, 0, none⟩ = some (.int .i64 xc0_2) := (blk_cell BK150.out 0).trans rfl; have hcz110_1 : w106.cell? ⟨gb150, 1, none⟩ = some (.int .i64 xc1_2) := (blk_cell BK150.out 1).trans rfl; have hcz110_2 : w106.cell? ⟨gb150, 2, none⟩ = some (.string xc2_2) := (blk_cell BK150.out 2).trans rfl; have hcz110_3 : w106.cell? ⟨gb150, 3, none⟩ = some (.int .i64 xc3_2) := (blk_cell BK150.out 3).trans rfl; have hcz110_4 : w106.cell? ⟨gb150, 4, none⟩ = some (.int .i64 xc4_2) := (blk_cell BK150.out 4).trans rfl; have hcz110_5 : w106.cell? ⟨gb150, 5, none⟩ = some (.int .i64 xc5_2) := (blk_cell BK150.out 5).trans rfl; have hcz110_6 : w106.cell? ⟨gb150, 6, none⟩ = some (.int .i64 xc6_2) := (blk_cell BK150.out 6).trans rfl; have hcz110_7 : w106.cell? ⟨gb150, 7, none⟩ = some (.string xc7_2) := (blk_cell BK150.out 7).trans rfl; have hcz110_8 : w106.cell? ⟨gb150, 8, none⟩ = some (.int .i64 xc8_2) := (blk_cell BK150.out 8).trans rfl; have hcz110_9 : w106.cell? ⟨gb150, 9, none⟩ = some (.int .u32 xc9_2) := (blk_cell BK150.out 9).trans rfl; have hfz110_0 := blk_frozen BK150.out 0; have hfz110_1 := blk_frozen BK150.out 1; have hfz110_2 := blk_frozen BK150.out 2; have hfz110_3 := blk_frozen BK150.out 3; have hfz110_4 := blk_frozen BK150.out 4; have hfz110_5 := blk_frozen BK150.out 5; have hfz110_6 := blk_frozen BK150.out 6; have hfz110_7 := blk_frozen BK150.out 7; have hfz110_8 := blk_frozen BK150.out 8; have hfz110_9 := blk_frozen BK150.out 9) | (go_at_call 26; (with_reducible refine (pyxlaw13_same.calls t134 t135 t136 t137 t138 t139 t140 _ _ t141 t144 t145 xc0_2 xc1_2 xc2_2 xc3_2 xc4_2 xc5_2 xc6_2 xc7_2 xc8_2 xc9_2 true _ ?side1 ?side2 ?side3 A83.out).mono ?_); (case side1 => first | exact HLd | (exact LaidOk.below HLd (by repeat (first | (with_reducible first | exact HB.out | apply below_alloc | apply pw_below_drewN | apply below_drew1) | exact HB.out))) | (repeat (first | exact HLd | apply LaidOk.drewN | apply LaidOk.drew | apply LaidOk.alloc))); (case side2 => repeat (first | exact (Kd.R_reads' HO_148007.out).2.2 | (with_reducible refine Kd.C_alloc ?_ _) | (with_reducible refine Kd.C_drewN ?_ _) | (with_reducible refine Kd.C_drew ?_))); (case side3 => exact (Kd.R_reads' HO_148007.out).2.1); rintro e w111 ⟨rfl, hb⟩; have n0_ := Aside0.mk (Kd.R_below (by (with_reducible repeat (first | apply Kd.R_alloc | apply Kd.R_drewN | apply Kd.R_drew)); exact HO_16.out) hb); have n1_ := Aside0.mk (Kd.R_below (by (with_reducible repeat (first | apply Kd.R_alloc | apply Kd.R_drewN | apply Kd.R_drew)); exact HO_120007.out) hb); have n2_ := Aside0.mk (Kd.R_below (by (with_reducible repeat (first | apply Kd.R_alloc | apply Kd.R_drewN | apply Kd.R_drew)); exact HO_134007.out) hb); have n3_ := Aside0.mk (Kd.R_below (by (with_reducible repeat (first | apply Kd.R_alloc | apply Kd.R_drewN | apply Kd.R_drew)); exact HO_148007.out) hb); have n4_ := Aside0.mk (blk_below (g := gb119) (o := .cells #[.int .i64 t106, .int .i64 t107, .string t108, .int .i64 t109, .int .i64 t110, .int .i64 t111, .int .i64 t112, .slice Ao19 t113.length co19, .int .i64 t116, .int .u32 t117] 37 (0, 0)) (by (with_reducible repeat (first | refine blk_drewN ?_ _ | refine blk_drew ?_ | refine blk_alloc ?_ _)); exact BK119.out) hb); have n5_ := Aside0.mk (blk_below (g := gb133) (o := .cells #[.int .i64 t120, .int .i64 t121, .string t122, .int .i64 t123, .int .i64 t124, .int .i64 t125, .int .i64 t126, .slice Ao24 t127.length co24, .int .i64 t130, .int .u32 t131] 37 (0, 0)) (by (with_reducible repeat (first | refine blk_drewN ?_ _ | refine blk_drew ?_ | refine blk_alloc ?_ _)); exact BK133.out) hb); have n6_ := Aside0.mk (blk_below (g := gb147) (o := .cells #[.int .i64 t134, .int .i64 t135, .string t136, .int .i64 t137, .int .i64 t138, .int .i64 t139, .int .i64 t140, .slice Ao30 t141.length co30, .int .i64 t144, .int .u32 t145] 37 (0, 0)) (by (with_reducible repeat (first | refine blk_drewN ?_ _ | refine blk_drew ?_ | refine blk_alloc ?_ _)); exact BK147.out) hb); have n7_ := Aside0.mk (blk_below (g := gb148) (o := .cells #[.int .i64 xa0_2, .int .i64 xa1_2, .string xa2_2, .int .i64 xa3_2, .int .i64 xa4_2, .int .i64 xa5_2, .int .i64 xa6_2, .string xa7_2, .int .i64 xa8_2, .int .u32 xa9_2] 42 (0, 0)) (by (with_reducible repeat (first | refine blk_drewN ?_ _ | refine blk_drew ?_ | refine blk_alloc ?_ _)); exact BK148.out) hb); have n8_ := Aside0.mk (blk_below (g := gb149) (o := .cells #[.int .i64 xb0_2, .int .i64 xb1_2, .string xb2_2, .int .i64 xb3_2, .int .i64 xb4_2, .int .i64 xb5_2, .int .i64 xb6_2, .string xb7_2, .int .i64 xb8_2, .int .u32 xb9_2] 42 (0, 0)) (by (with_reducible repeat (first | refine blk_drewN ?_ _ | refine blk_drew ?_ | refine blk_alloc ?_ _)); exact BK149.out) hb); have n9_ := Aside0.mk (blk_below (g := gb150) (o := .cells #[.int .i64 xc0_2, .int .i64 xc1_2, .string xc2_2, .int .i64 xc3_2, .int .i64 xc4_2, .int .i64 xc5_2, .int .i64 xc6_2, .string xc7_2, .int .i64 xc8_2, .int .u32 xc9_2] 42 (0, 0)) (by (with_reducible repeat (first | refine blk_drewN ?_ _ | refine blk_drew ?_ | refine blk_alloc ?_ _)); exact BK150.out) hb); have n10_ := Aside0.mk (below_step (by repeat (first | (with_reducible first | exact HB.out | apply below_alloc | apply pw_below_drewN | apply below_drew1 | refine below_set ?_ GE119.out | refine below_set ?_ GE133.out | refine below_set ?_ GE147.out | refine below_set ?_ GE148.out | refine below_set ?_ GE149.out | refine below_set ?_ GE150.out) | exact HB.out)) hb); clear HO_16; clear HO_120007; clear HO_134007; clear HO_148007; clear BK119; clear BK133; clear BK147; clear BK148; clear BK149; clear BK150; clear HB; have HO_16 := n0_; have HO_120007 := n1_; have HO_134007 := n2_; have HO_148007 := n3_; have BK119 := n4_; have BK133 := n5_; have BK147 := n6_; have BK148 := n7_; have BK149 := n8_; have BK150 := n9_; have HB := n10_; clear n0_ n1_ n2_ n3_ n4_ n5_ n6_ n7_ n8_ n9_ n10_; (try clear hb); (try clear hb2); (try clear hk); (try clear hi); have hcz112_0 : w111.cell? ⟨gb150, 0, none⟩ = some (.int .i64 xc0_2) := (blk_cell BK150.out 0).trans rfl; have hcz112_1 : w111.cell? ⟨gb150, 1, none⟩ = some (.int .i64 xc1_2) := (blk_cell BK150.out 1).trans rfl; have hcz112_2 : w111.cell? ⟨gb150, 2, none⟩ = some (.string xc2_2) := (blk_cell BK150.out 2).trans rfl; have hcz112_3 : w111.cell? ⟨gb150, 3, none⟩ = some (.int .i64 xc3_2) := (blk_cell BK150.out 3).trans rfl; have hcz112_4 : w111.cell? ⟨gb150, 4, none⟩ = some (.int .i64 xc4_2) := (blk_cell BK150.out 4).trans rfl; have hcz112_5 : w111.cell? ⟨gb150, 5, none⟩ = some (.int .i64 xc5_2) := (blk_cell BK150.out 5).trans rfl; have hcz112_6 : w111.cell? ⟨gb150, 6, none⟩ = some (.int .i64 xc6_2) := (blk_cell BK150.out 6).trans rfl; have hcz112_7 : w111.cell? ⟨gb150, 7, none⟩ = some (.string xc7_2) := (blk_cell BK150.out 7).trans rfl; have hcz112_8 : w111.cell? ⟨gb150, 8, none⟩ = some (.int .i64 xc8_2) := (blk_cell BK150.out 8).trans rfl; have hcz112_9 : w111.cell? ⟨gb150, 9, none⟩ = some (.int .u32 xc9_2) := (blk_cell BK150.out 9).trans rfl; have hfz112_0 := blk_frozen BK150.out 0; have hfz112_1 := blk_frozen BK150.out 1; have hfz112_2 := blk_frozen BK150.out 2; have hfz112_3 := blk_frozen BK150.out 3; have hfz112_4 := blk_frozen BK150.out 4; have hfz112_5 := blk_frozen BK150.out 5; have hfz112_6 := blk_frozen BK150.out 6; have hfz112_7 := blk_frozen BK150.out 7; have hfz112_8 := blk_frozen BK150.out 8; have hfz112_9 := blk_frozen BK150.out 9))
              go_ret
              exact ⟨by first | rfl | (simp [errW_none, errW_some] <;> rfl) | (simp [*, errW_none, errW_some] <;> rfl), by repeat (first | (with_reducible first | exact HB.out | apply below_alloc | apply pw_below_drewN | apply below_drew1 | refine below_set ?_ GE119.out | refine below_set ?_ GE133.out | refine below_set ?_ GE147.out | refine below_set ?_ GE148.out | refine below_set ?_ GE149.out | refine below_set ?_ GE150.out) | exact HB.out)⟩

/-- THE ONE PURE STATEMENT of pyxlaw13_ParamsFinds: yours. -/
def pyxlaw13_ParamsFinds.Pure : Prop := ∀ (a0 : ByteArray) (a1 : Int) (a2 : Int), a0.size ≤ 140737488351232 → (Lit.int .i64 a1).wf = true → (Lit.int .u32 a2).wf = true → ∃ k, pyxlaw13_ParamsFinds.f k a0 a1 a2 = some true
theorem pyxlaw13_ParamsFinds.walk (P : pyxlaw13_ParamsFinds.Pure) (a0 : ByteArray) (a1 : Int) (a2 : Int) (w : World) (HLd : LaidOk w) (w0 : a0.size ≤ 140737488351232) (w1 : (Lit.int .i64 a1).wf = true) (w2 : (Lit.int .u32 a2).wf = true) :
    Calls Tryd.prog 10 #[.string a0, .int .i64 a1, .int .u32 a2] w fun e w' => e = .returned (.bool true) ∧ Below w.heap.size w w' := by
  obtain ⟨k, h⟩ := P a0 a1 a2 w0 w1 w2
  refine (pyxlaw13_ParamsFinds.calls k a0 a1 a2 true w HLd h).mono ?_
  rintro e w' ⟨rfl, hd⟩
  exact ⟨rfl, hd⟩

end Go.Proofs.YtjoncjnmhhimhaaDoor.PLF
end

section
-- Written by the kit's print.py, driven by this place's wip/tools/myprint.py. Not trusted: Lean checks it.
namespace Go.Proofs.YtjoncjnmhhimhaaDoor.PLF
open Go.RowKit Go.Proofs.YtjoncjnmhhimhaaDoor.Hand Go.Proofs.YtjoncjnmhhimhaaDoor.PT13s Go.Proofs.YtjoncjnmhhimhaaDoorW.PrintWords Go.Proofs.YtjoncjnmhhimhaaDoorW.PrintLast Go.Proofs.YtjoncjnmhhimhaaDoorW.PrintMore
attribute [local go_sem] max2_int min2_int max_two min_two max_three min_three max_four min_four   -- for this text's walks alone
set_option linter.unusedVariables false
set_option linter.unusedSimpArgs false

end Go.Proofs.YtjoncjnmhhimhaaDoor.PLF
end

section
/- ParamsFinds, in plain numbers: what the loop over the table finds is the row that ByName, ByCOSE and ByType find. Printed by wip/tools/genpureF.py. -/
namespace Go.Proofs.YtjoncjnmhhimhaaDoor.Hand
set_option linter.unusedVariables false
set_option linter.unusedSimpArgs false
open Go.RowKit Go.Proofs.YtjoncjnmhhimhaaDoorW.PrintWords Go.Proofs.YtjoncjnmhhimhaaDoorW.PrintLast Go.Proofs.YtjoncjnmhhimhaaDoorW.PrintMore Go.Proofs.YtjoncjnmhhimhaaDoor.PT13s

abbrev Row11 := Int × Int × ByteArray × Int × Int × Int × Int × List Int × Int × Int × Bool
def refTabF : List PLF.S42 := PLF.pyxref13_Table.f.getD []
theorem refTabF_eq : PLF.pyxref13_Table.f = some refTabF := by kernel_rfl
theorem refTabF_len : refTabF.length = 25 := by kernel_rfl
def rowF (i : Nat) : PLF.S42 := PLF.rd_T42 refTabF (i : Int)
/-- The last of the first n rows that p holds for. -/
def foldX (p : Int → Bool) : Nat → PLF.S42
  | 0 => PLF.z42
  | n + 1 => if p ((n : Int) + 1) = true then rowF n else foldX p n
theorem foldX_congr (p q : Int → Bool) : ∀ n : Nat, (∀ i : Nat, i < n → p ((i : Int) + 1) = q ((i : Int) + 1)) → foldX p n = foldX q n
  | 0, _ => rfl
  | n + 1, h => by
    rw [foldX, foldX, h n (by omega), foldX_congr p q n (fun i hi => h i (by omega))]
theorem lst_congr (p q : Int → Bool) : ∀ n : Nat, (∀ i : Nat, i < n → p ((i : Int) + 1) = q ((i : Int) + 1)) → lst p n = lst q n
  | 0, _ => rfl
  | n + 1, h => by
    rw [lst_succ, lst_succ, h n (by omega), lst_congr p q n (fun i hi => h i (by omega))]
theorem oneF_congr (p q : Int → Bool) (h : ∀ i : Nat, i < 25 → p (((i : Nat) : Int) + 1) = q ((i : Int) + 1)) : oneF p = oneF q := by
  unfold oneF
  rw [lst_congr p q 25 h]
/-- One row is found, by both, or none. -/
def Agrees (A : Row11) (X : PLF.S42) : Prop := pyxlaw13_same.f A.1 A.2.1 A.2.2.1 A.2.2.2.1 A.2.2.2.2.1 A.2.2.2.2.2.1 A.2.2.2.2.2.2.1 A.2.2.2.2.2.2.2.1 A.2.2.2.2.2.2.2.2.1 A.2.2.2.2.2.2.2.2.2.1 X.f0 X.f1 X.f2 X.f3 X.f4 X.f5 X.f6 X.f7 X.f8 X.f9 = some true ∧ (A.2.2.2.2.2.2.2.2.2.2 == decide (X.f0 > 0)) = true
theorem agree_at : ∀ j : Nat, j < 25 → (oneF fun a => decide (a = (j : Int) + 1)).isSome = true ∧ Agrees ((oneF fun a => decide (a = (j : Int) + 1)).getD parNone) (foldX (fun a => decide (a = (j : Int) + 1)) 25) := by
  unfold Agrees
  decide +kernel
theorem agree_none : (oneF fun _ => false).isSome = true ∧ Agrees ((oneF fun _ => false).getD parNone) (foldX (fun _ => false) 25) := by
  unfold Agrees
  decide +kernel
theorem agree (p : Int → Bool) (hu : ∀ i j, i < 25 → j < 25 → p (((i : Nat) : Int) + 1) = true → p (((j : Nat) : Int) + 1) = true → i = j) : ∃ A, oneF p = some A ∧ Agrees A (foldX p 25) := by
  by_cases h : ∃ j, j < 25 ∧ p (((j : Nat) : Int) + 1) = true
  · obtain ⟨j, hj, hp⟩ := h
    have hc : ∀ i, i < 25 → p (((i : Nat) : Int) + 1) = (fun a => decide (a = (j : Int) + 1)) ((i : Int) + 1) := by
      intro i hi
      by_cases e : i = j
      · subst e
        simp [hp]
      · have : p ((i : Int) + 1) = false := Bool.eq_false_iff.2 (fun hq => e (hu i j hi hj hq hp))
        rw [this]
        symm
        exact decide_eq_false (by omega)
    obtain ⟨h1, h2⟩ := agree_at j hj
    obtain ⟨A, hA⟩ := Option.isSome_iff_exists.1 h1
    refine ⟨A, (oneF_congr p (fun a => decide (a = (j : Int) + 1)) hc).trans hA, ?_⟩
    rw [hA] at h2
    rw [foldX_congr p (fun a => decide (a = (j : Int) + 1)) 25 hc]
    exact h2
  · have hc : ∀ i, i < 25 → p (((i : Nat) : Int) + 1) = (fun _ => false) ((i : Int) + 1) := fun i hi => Bool.eq_false_iff.2 (fun hq => h ⟨i, hi, hq⟩)
    obtain ⟨h1, h2⟩ := agree_none
    obtain ⟨A, hA⟩ := Option.isSome_iff_exists.1 h1
    refine ⟨A, (oneF_congr p (fun _ => false) hc).trans hA, ?_⟩
    rw [hA] at h2
    rw [foldX_congr p (fun _ => false) 25 hc]
    exact h2

/-! ### the rows -/
theorem rows_same : ∀ i : Nat, i < 25 → ((rowF i).f2.toList = (rowOf ((i : Int) + 1)).2.2.1.toList ∧ (rowF i).f8 = (rowOf ((i : Int) + 1)).2.2.2.2.2.2.2.2.1 ∧ (rowF i).f9 = (rowOf ((i : Int) + 1)).2.2.2.2.2.2.2.2.2.1 ∧ ((rowF i).f8 ≠ 0 → (rowF i).f9 = 0)) := by decide +kernel
theorem names_apart : ∀ i : Nat, i < 25 → ∀ j : Nat, j < 25 → (rowF i).f2.toList = (rowF j).f2.toList → i = j := by decide +kernel
theorem coses_apart : ∀ i : Nat, i < 25 → ∀ j : Nat, j < 25 → (rowF i).f8 = (rowF j).f8 → (rowF i).f8 ≠ 0 → i = j := by decide +kernel
theorem types_apart : ∀ i : Nat, i < 25 → ∀ j : Nat, j < 25 → (rowF i).f9 = (rowF j).f9 → (rowF i).f9 ≠ 0 → i = j := by decide +kernel
theorem pName_at (s : ByteArray) (i : Nat) (hi : i < 25) : pName s ((i : Int) + 1) = true ↔ (rowF i).f2.toList = s.toList := by
  obtain ⟨h, _⟩ := rows_same i hi
  unfold pName
  rw [← h]
  simp
theorem pCose_at (n : Int) (i : Nat) (hi : i < 25) : pCose n ((i : Int) + 1) = true ↔ n ≠ 0 ∧ (rowF i).f8 = n := by
  obtain ⟨_, h, _⟩ := rows_same i hi
  unfold pCose
  rw [← h]
  simp
theorem pType_at (n : Int) (i : Nat) (hi : i < 25) : pType n ((i : Int) + 1) = true ↔ n ≠ 0 ∧ (rowF i).f9 = n := by
  obtain ⟨_, _, h, _⟩ := rows_same i hi
  unfold pType
  rw [← h]
  simp

/-- The printed loop, its arguments put together. -/
def Lw (k : Nat) (nm : ByteArray) (c t : Int) (A B D : Row11) (i : Int) (X Y Z : PLF.S42) : Option Bool := PLF.pyxlaw13_ParamsFinds.l0 k nm c t A.2.2.2.2.2.2.2.2.2.2 B.2.2.2.2.2.2.2.2.2.2 D.2.2.2.2.2.2.2.2.2.2 refTabF i A.1 A.2.1 A.2.2.1 A.2.2.2.1 A.2.2.2.2.1 A.2.2.2.2.2.1 A.2.2.2.2.2.2.1 A.2.2.2.2.2.2.2.1 A.2.2.2.2.2.2.2.2.1 A.2.2.2.2.2.2.2.2.2.1 B.1 B.2.1 B.2.2.1 B.2.2.2.1 B.2.2.2.2.1 B.2.2.2.2.2.1 B.2.2.2.2.2.2.1 B.2.2.2.2.2.2.2.1 B.2.2.2.2.2.2.2.2.1 B.2.2.2.2.2.2.2.2.2.1 D.1 D.2.1 D.2.2.1 D.2.2.2.1 D.2.2.2.2.1 D.2.2.2.2.2.1 D.2.2.2.2.2.2.1 D.2.2.2.2.2.2.2.1 D.2.2.2.2.2.2.2.2.1 D.2.2.2.2.2.2.2.2.2.1 X.f0 X.f1 X.f2 X.f3 X.f4 X.f5 X.f6 X.f7 X.f8 X.f9 Y.f0 Y.f1 Y.f2 Y.f3 Y.f4 Y.f5 Y.f6 Y.f7 Y.f8 Y.f9 Z.f0 Z.f1 Z.f2 Z.f3 Z.f4 Z.f5 Z.f6 Z.f7 Z.f8 Z.f9
def J2w (k : Nat) (nm : ByteArray) (c t : Int) (A B D : Row11) (i : Int) (X Y Z : PLF.S42) : Option Bool := PLF.pyxlaw13_ParamsFinds.j2 k nm c t A.2.2.2.2.2.2.2.2.2.2 B.2.2.2.2.2.2.2.2.2.2 D.2.2.2.2.2.2.2.2.2.2 refTabF i A.1 A.2.1 A.2.2.1 A.2.2.2.1 A.2.2.2.2.1 A.2.2.2.2.2.1 A.2.2.2.2.2.2.1 A.2.2.2.2.2.2.2.1 A.2.2.2.2.2.2.2.2.1 A.2.2.2.2.2.2.2.2.2.1 B.1 B.2.1 B.2.2.1 B.2.2.2.1 B.2.2.2.2.1 B.2.2.2.2.2.1 B.2.2.2.2.2.2.1 B.2.2.2.2.2.2.2.1 B.2.2.2.2.2.2.2.2.1 B.2.2.2.2.2.2.2.2.2.1 D.1 D.2.1 D.2.2.1 D.2.2.2.1 D.2.2.2.2.1 D.2.2.2.2.2.1 D.2.2.2.2.2.2.1 D.2.2.2.2.2.2.2.1 D.2.2.2.2.2.2.2.2.1 D.2.2.2.2.2.2.2.2.2.1 X.f0 X.f1 X.f2 X.f3 X.f4 X.f5 X.f6 X.f7 X.f8 X.f9 Y.f0 Y.f1 Y.f2 Y.f3 Y.f4 Y.f5 Y.f6 Y.f7 Y.f8 Y.f9 Z.f0 Z.f1 Z.f2 Z.f3 Z.f4 Z.f5 Z.f6 Z.f7 Z.f8 Z.f9
def J3w (k : Nat) (nm : ByteArray) (c t : Int) (A B D : Row11) (i : Int) (b : Bool) (X Y Z : PLF.S42) : Option Bool := PLF.pyxlaw13_ParamsFinds.j3 k nm c t A.2.2.2.2.2.2.2.2.2.2 B.2.2.2.2.2.2.2.2.2.2 D.2.2.2.2.2.2.2.2.2.2 refTabF i b A.1 A.2.1 A.2.2.1 A.2.2.2.1 A.2.2.2.2.1 A.2.2.2.2.2.1 A.2.2.2.2.2.2.1 A.2.2.2.2.2.2.2.1 A.2.2.2.2.2.2.2.2.1 A.2.2.2.2.2.2.2.2.2.1 B.1 B.2.1 B.2.2.1 B.2.2.2.1 B.2.2.2.2.1 B.2.2.2.2.2.1 B.2.2.2.2.2.2.1 B.2.2.2.2.2.2.2.1 B.2.2.2.2.2.2.2.2.1 B.2.2.2.2.2.2.2.2.2.1 D.1 D.2.1 D.2.2.1 D.2.2.2.1 D.2.2.2.2.1 D.2.2.2.2.2.1 D.2.2.2.2.2.2.1 D.2.2.2.2.2.2.2.1 D.2.2.2.2.2.2.2.2.1 D.2.2.2.2.2.2.2.2.2.1 X.f0 X.f1 X.f2 X.f3 X.f4 X.f5 X.f6 X.f7 X.f8 X.f9 Y.f0 Y.f1 Y.f2 Y.f3 Y.f4 Y.f5 Y.f6 Y.f7 Y.f8 Y.f9 Z.f0 Z.f1 Z.f2 Z.f3 Z.f4 Z.f5 Z.f6 Z.f7 Z.f8 Z.f9

section
variable (k : Nat) (nm : ByteArray) (c t : Int) (A B D : Row11) (i : Nat) (hi : i < 25) (X Y Z : PLF.S42)
include hi
theorem L_step : Lw (k + 1) nm c t A B D (i : Int) X Y Z = J2w k nm c t A B D (i : Int) (if pName nm ((i : Int) + 1) = true then rowF i else X) Y Z := by
  have hl := refTabF_len
  unfold Lw J2w
  rw [PLF.pyxlaw13_ParamsFinds.l0, if_pos (by omega), if_pos (by omega)]
  by_cases h : (rowF i).f2.toList = nm.toList
  · rw [if_pos ((pName_at nm i hi).2 h)]
    exact if_pos h
  · rw [if_neg (fun q => h ((pName_at nm i hi).1 q))]
    exact if_neg h
theorem J2_step : J2w (k + 1) nm c t A B D (i : Int) X Y Z = J3w k nm c t A B D (i : Int) (pCose c ((i : Int) + 1)) X Y Z := by
  have hl := refTabF_len
  unfold J2w J3w
  rw [PLF.pyxlaw13_ParamsFinds.j2]
  by_cases h : c = 0
  · have e : pCose c ((i : Int) + 1) = false := Bool.eq_false_iff.2 (fun q => ((pCose_at c i hi).1 q).1 h)
    rw [if_pos h, e]
  · have e : pCose c ((i : Int) + 1) = ((rowF i).f8 == c) := by
      rw [Bool.eq_iff_iff, pCose_at c i hi]
      simp [h]
    rw [if_neg h, if_pos (by omega), if_pos (by omega), e]
    rfl
theorem J3_step (hb : pCose c ((i : Int) + 1) = true → pType t ((i : Int) + 1) = false) : J3w (k + 1) nm c t A B D (i : Int) (pCose c ((i : Int) + 1)) X Y Z = Lw k nm c t A B D ((i : Int) + 1) X (if pCose c ((i : Int) + 1) = true then rowF i else Y) (if pType t ((i : Int) + 1) = true then rowF i else Z) := by
  have hl := refTabF_len
  have hw : wrap64 ((i : Int) + 1) = (i : Int) + 1 := by unfold wrap64; omega
  unfold J3w Lw
  rw [PLF.pyxlaw13_ParamsFinds.j3, hw]
  by_cases hc : pCose c ((i : Int) + 1) = true
  · have ht := hb hc
    rw [if_pos hc, if_pos hc, if_pos (by omega), if_pos (by omega), ht]
    by_cases h0 : t = 0
    · rw [if_pos h0]
      rfl
    · have : ¬ (rowF i).f9 = t := fun q => Bool.eq_false_iff.1 ht ((pType_at t i hi).2 ⟨h0, q⟩)
      rw [if_neg h0]
      exact if_neg this
  · rw [if_neg hc, if_neg hc]
    by_cases h0 : t = 0
    · have e : pType t ((i : Int) + 1) = false := Bool.eq_false_iff.2 (fun q => ((pType_at t i hi).1 q).1 h0)
      rw [if_pos h0, e]
      rfl
    · rw [if_neg h0, if_pos (by omega), if_pos (by omega)]
      by_cases h9 : (rowF i).f9 = t
      · rw [if_pos ((pType_at t i hi).2 ⟨h0, h9⟩)]
        exact if_pos h9
      · rw [if_neg (fun q => h9 ((pType_at t i hi).1 q).2)]
        exact if_neg h9
end
theorem finds_loop (nm : ByteArray) (c t : Int) (A B D : Row11) (hA : Agrees A (foldX (pName nm) 25)) (hB : Agrees B (foldX (pCose c) 25)) (hD : Agrees D (foldX (pType t) 25)) : ∀ (d k i : Nat), i + d = 25 → 3 * d < k →
    Lw k nm c t A B D (i : Int) (foldX (pName nm) i) (foldX (pCose c) i) (foldX (pType t) i) = some true := by
  have hl := refTabF_len
  intro d
  induction d with
  | zero =>
    intro k i h1 h2
    obtain ⟨k, rfl⟩ : ∃ m, k = m + 1 := ⟨k - 1, by omega⟩
    obtain rfl : i = 25 := by omega
    unfold Lw
    rw [PLF.pyxlaw13_ParamsFinds.l0, if_neg (by omega), hA.1]
    simp only [Option.bind_some]
    rw [if_pos trivial, if_pos hA.2, hB.1]
    simp only [Option.bind_some]
    rw [if_pos trivial, if_pos hB.2, hD.1]
    simp only [Option.bind_some]
    rw [if_pos trivial, hD.2]
  | succ d ih =>
    intro k i h1 h2
    obtain ⟨k, rfl⟩ : ∃ m, k = m + 1 + 1 + 1 := ⟨k - 3, by omega⟩
    have hi : i < 25 := by omega
    have hb : pCose c ((i : Int) + 1) = true → pType t ((i : Int) + 1) = false := by
      intro hc
      obtain ⟨c0, hc1⟩ := (pCose_at c i hi).1 hc
      obtain ⟨_, _, _, hz⟩ := rows_same i hi
      refine Bool.eq_false_iff.2 (fun q => ?_)
      obtain ⟨t0, ht⟩ := (pType_at t i hi).1 q
      rw [hz (by rw [hc1]; exact c0)] at ht
      exact t0 ht.symm
    rw [L_step _ _ _ _ _ _ _ i hi, J2_step _ _ _ _ _ _ _ i hi, J3_step _ _ _ _ _ _ _ i hi _ _ _ hb]
    have := ih k (i + 1) (by omega) (by omega)
    rw [foldX, foldX, foldX, show (((i + 1 : Nat)) : Int) = (i : Int) + 1 from by omega] at this
    exact this
theorem finds_long (k : Nat) (nm : ByteArray) (c t : Int) : PLF.pyxlaw13_ParamsFinds.j0 (k + 1) nm c t true = some true := by
  rw [PLF.pyxlaw13_ParamsFinds.j0, if_pos rfl]
  rfl
theorem pureF : PLF.pyxlaw13_ParamsFinds.Pure := by
  intro nm c t _ _ _
  obtain ⟨k, hk⟩ : ∃ k, k = 76 := ⟨76, rfl⟩
  refine ⟨k + 1, ?_⟩
  unfold PLF.pyxlaw13_ParamsFinds.f pyxlaw13_awake.f
  simp only [Option.bind_some]
  rw [if_pos trivial]
  by_cases h : (nm.size : Int) > 100
  · rw [decide_eq_true h]
    exact finds_long _ _ _ _
  · obtain ⟨A, eA, hA⟩ := agree (pName nm) (fun i j hi hj pi pj => names_apart i hi j hj (((pName_at nm i hi).1 pi).trans ((pName_at nm j hj).1 pj).symm))
    obtain ⟨B, eB, hB⟩ := agree (pCose c) (fun i j hi hj pi pj => coses_apart i hi j hj (((pCose_at c i hi).1 pi).2.trans ((pCose_at c j hj).1 pj).2.symm) (by rw [((pCose_at c i hi).1 pi).2]; exact ((pCose_at c i hi).1 pi).1))
    obtain ⟨D, eD, hD⟩ := agree (pType t) (fun i j hi hj pi pj => types_apart i hi j hj (((pType_at t i hi).1 pi).2.trans ((pType_at t j hj).1 pj).2.symm) (by rw [((pType_at t i hi).1 pi).2]; exact ((pType_at t i hi).1 pi).1))
    have := finds_loop nm c t A B D hA hB hD 25 k 0 (by omega) (by omega)
    unfold Lw at this
    rw [decide_eq_false h, PLF.pyxlaw13_ParamsFinds.j0, if_neg (by decide)]
    unfold params_ByName.f params_ByCOSE.f params_ByType.f
    rw [eA, eB, eD, refTabF_eq]
    exact this
end Go.Proofs.YtjoncjnmhhimhaaDoor.Hand
end
